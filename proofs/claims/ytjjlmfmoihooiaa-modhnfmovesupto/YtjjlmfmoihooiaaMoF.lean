/- Part 6 of 7 of the proof that the law ModhnfMoves returns true for every input of bulk at most 1048576 and leaves its arguments as they were: here the contracts of the functions that it calls, and plain lemmas. -/
import Derived.Test.YtjjlmfmoihooiaaMoE
set_option linter.all false
namespace Go.Proofs.Ytjjlmfmoihooiaa
open Go.RowKit
def ua (c : Nat) (xs : List Int) (i j : Nat) : Int := gi xs (j * c + i)
def jq (r c : Nat) (xs : List Int) : List Int := aC r (ua c xs) (c * r)
theorem lT (r c : Nat) (xs : List Int) : (jq r c xs).length = c * r := aA ..
theorem wX {r c : Nat} {xs : List Int} (hs : xs.length = r * c) {x : Int} (h : x ∈ jq r c xs) : x ∈ xs := by
 unfold jq aC at h;obtain ⟨q, hq, rfl⟩ := List.mem_map.1 h;have hq := List.mem_range.1 hq;have hr : 0 < r := by
  rcases Nat.eq_zero_or_pos r with h | h
  · subst h; simp at hq
  · exact h
 refine cD ?_;rw [hs];exact xe (Nat.mod_lt _ hr) (Nat.div_lt_of_lt_mul (by rw [Nat.mul_comm]; exact hq))
set_option maxRecDepth 100000 in
set_option maxHeartbeats 1000000 in
theorem tW (r c i j g : Nat) (ao : Option Addr) (cap L : Nat) (xs : List Int) (w : World) (hr : r <= 64) (hc : c <= 64) (hi : i < c) (hj : j < r) (hg : ah w g 24 [.int .i64 (r : Int), .int .i64 (c : Int), .slice ao xs.length cap]) (hA : aI w L ao xs) (hL : L <= 17592186044415) (hs : xs.length = r * c) :
 Calls Try.prog 91 #[.int .i64 (i : Int), .int .i64 (j : Int), .pointer (some ⟨g, 0, none⟩)] w fun e w' => (∃ v, e = .returned v /\ ak w' w.heap.size v (ua c xs i j)) /\ Below w.heap.size w w' := by
 have hlt := xe (r := r) (c := c) hj hi;have hrc : r * c <= 4096 := Nat.mul_le_mul hr hc;obtain ⟨bx, ox, rfl⟩ := hA.pos (i := j * c + i) (by rw [hs]; exact hlt);obtain ⟨A, hA'⟩ : ∃ A, j * c = A := ⟨_, rfl⟩;obtain ⟨B, hB⟩ : ∃ B, A + i = B := ⟨_, rfl⟩;have hBl : B < xs.length := by rw [hs, <- hB, <- hA']; exact hlt
 have hBl' : (B : Int) < (xs.length : Int) := by omega
 have hAs : j * c < 9223372036854775808 := by omega
 have hgl : A + i < 9223372036854775807 := by omega
 have e0 : ua c xs i j = gi xs B := by rw [ua, hA', hB]
 rw [e0];have HB : Hid (B < xs.length) := Lib.hid hBl;clear hs hlt hrc e0 hBl;refine aZ (S0 := fun _ => False) Try.func91 ((((Fr.nil _ w).l hA (by simp)).cl (hg.cell 2) (by simp [En.wr])).cl (hg.cell 1) (by simp [En.wr])) ?_;refine ae ?_;refine rW [] ?_;refine aW fun g5 => ?_;refine eW ?_;refine jj (L := L) (xs := xs) (b := bx) (o := ox) B (by simp) HB.out fun p => ?_;refine ae ?_;refine rW [] ?_;refine dW ?_;refine dW ?_;refine dW ?_;refine dW ?_;refine dW ?_;refine dE ((jR (a := j) (b := c) hAs).trans (by rw [hA'])) ?_;refine dW ?_;refine dE ((oe (a := A) (b := i) hgl).trans (by rw [hB])) ?_;refine dW ?_;refine dW ?_;refine cN (fun w' H => fJ (av p) _ w' (H.m2.mono hL)) fun q => ?_;refine sW ?_;refine eW ?_;refine ae ?_;refine cQ fun w' H => ?_;exact ⟨_, gD H.m4, ⟨_, rfl, H.m0⟩, H.below⟩
set_option maxRecDepth 100000 in
set_option maxHeartbeats 1000000 in
theorem tX (r c : Nat) (ao : Option Addr) (cap L : Nat) (xs : List Int) (w : World) (hr : r <= 64) (hc : c <= 64) (hA : aI w L ao xs) (hL : L <= 17592186044415) (hs : xs.length = r * c) :
 Calls Try.prog 75 #[.agg #[.int .i64 (r : Int), .int .i64 (c : Int), .slice ao xs.length cap]] w fun e w' => (∃ p : Option Addr × Nat, e = .returned (.tuple #[.agg #[.int .i64 (c : Int), .int .i64 (r : Int), .slice p.1 (c * r) p.2], .int .i64 0]) /\ ea w' p.1 (jq r c xs) /\ True /\ ∀ b o, p.1 = some ⟨b, o, none⟩ -> w.heap.size <= b) /\ Below w.heap.size w w' := by
 have hC : ∀ w', Calls Try.prog 14 #[.agg #[.int .i64 (r : Int), .int .i64 (c : Int), .slice ao xs.length cap]] w' fun e w'' => e = .returned (.int .i64 0) /\ Below w'.heap.size w' w'' := fun w' => by
  have := cF (r : Int) (c : Int) ao xs.length cap w' (by omega) (by omega);rw [dm (by unfold aR bB; rw [hs]; simp; omega)] at this; exact this
 have HS : Hid (xs.length = r * c) := Lib.hid hs;clear hs;refine aZ (S0 := fun _ => False) Try.func75 ((Fr.nil _ w).l hA (by simp)) ?_;refine ae ?_;refine rW [] ?_;refine aW fun g1 => ?_;refine aW fun g2 => ?_;refine dW ?_;refine eW ?_;refine ae ?_;refine rW [] ?_;refine dW ?_;refine cV (fun w' H => hC w') ?_;refine dW ?_;refine eW ?_;refine ae ?_;refine rW [] ?_;refine dW ?_;refine dW ?_;refine eW ?_;refine ae ?_;refine bX ?_;refine ae ?_;refine rW [] ?_;refine dW ?_;refine dW ?_;refine dW ?_;refine dW ?_;refine fW ?_;refine kJ (α := Option Addr × Nat) (mk := fun p => .agg #[.int .i64 (c : Int), .int .i64 (r : Int), .slice p.1 (c * r) p.2]) (ao := fun p => p.1) (xs := fun _ => jq r c xs) (A := fun _ => True)
  (fun w' H => (uz 91 (fun _ _ => by go_simp) c r g1 (ua c xs) w' hc hr (fun i j w2 hi hj hb => by
   have h1 : ah w' g1 24 [.int .i64 (r : Int), .int .i64 (c : Int), .slice ao xs.length cap] := H.m1;have h2 : aI w' L ao xs := H.m2;exact tW r c i j g1 ao cap L xs w2 hr hc hi hj (h1.below hb h1.lt) (h2.below hb) hL HS.out)).mono (by
    rintro e w3 ⟨⟨ao', cap', rfl, hl, _, hS⟩, hb⟩;exact ⟨⟨(ao', cap'), rfl, hl, trivial, hS⟩, hb⟩)) fun q => ?_
 refine sW ?_;refine dW ?_;refine eW ?_;refine ae ?_;refine dX fun w' H => ?_;exact ⟨_, _, lO H.m2, cX, ⟨q, rfl, H.m0, trivial, (show True /\ ∀ b o, q.1 = some ⟨b, o, none⟩ -> w.heap.size <= b from H.m1).2⟩, H.below⟩
theorem Fr.rep {S0 : Nat -> Prop} {w0 w w' : World} {e : En} {es X : List En} (h : Fr S0 w0 w (e :: es)) (hw : e.wr = true) (hc : bZ e.S w w') (hT : Wl e.S w) (hX : ∀ x ∈ X, x.F w' /\ ∀ b, x.S b -> e.S b ∨ w.heap.size <= b) (hp : X.Pairwise Ap) : Fr S0 w0 w' (X ++ es) := by
 obtain ⟨e0, he0⟩ : ∃ e0 : En, e0 = .fact false true (fun b => (e.S b ∨ w.heap.size <= b) /\ b < w'.heap.size) (fun w'' => w'.heap.size <= w''.heap.size) (fun h b hb => Nat.lt_of_lt_of_le hb.2 h) (fun h hc _ _ => Nat.le_trans h hc.size) := ⟨_, rfl⟩;have h1 : Fr S0 w0 w' (e0 :: es) := h.bG (e' := e0) hw hc (fun _ _ _ => hT) (fun _ h => h) (by subst he0; exact Nat.le_refl _) (fun b hb => by subst he0; exact hb.1);exact h1.lv (by subst he0; rfl) (fun x hx => ⟨(hX x hx).1, fun b hb => by subst he0; exact ⟨(hX x hx).2 b hb, En.lt (hX x hx).1 b hb⟩⟩) hp
section
variable {P : Program} {ops : Array Oper} {Q : Exit -> Act -> World -> Prop} {ds : List Deferred} {S0 : Nat -> Prop} {w0 : World} {E0 : List En} {hd : List (List Nat)} {n j s : Nat} {l : List Nat} {G E : List En} {ls : List (Nat × Value)} {op : Op} {ty : TypeId} {pos : String} {af : Array Edge} {f : FuncId} {args : Array Value}
theorem cRep {α : Type} {mk : α -> Value} {e : En} {ens : α -> List En}
 (c : ∀ w, Fr S0 w0 w ((e :: G) ++ E) -> Calls P f args w fun r w' => ∃ p, r = .returned (mk p) /\ bZ e.S w w' /\ (∀ x ∈ ens p, x.F w' /\ ∀ b, x.S b -> e.S b ∨ w.heap.size <= b) /\ (ens p).Pairwise Ap)
 (hwl : ∀ w, e.F w -> Wl e.S w)
 (k : ∀ p, cW ds ⟨P, ops, Q, S0, w0, E0, hd⟩ n l (ens p ++ G) E ((s, mk p) :: ls))
 (hwr : e.wr = true := by rfl) (hne : Nonempty α := by infer_instance)
 (ho : ops[j]? = some ⟨some s, op, ty, pos, af, none⟩ := by rfl) (hk : (!bE op && !cO op && di ls op && Nat.blt s n) = true := by kernel_rfl)
 (hr : ∀ w, (execOp (cj ls) ⟨some s, op, ty, pos, af, none⟩).run P w = .ok (.enter f args) w := by intro w; (try simp only [av]); go_simp <;> with_reducible rfl)
 (hst : ew ops hd j [] = true := by kernel_rfl) : cW ds ⟨P, ops, Q, S0, w0, E0, hd⟩ n (j :: l) (e :: G) E ls := fun a ha => by
 simp only [Bool.and_eq_true, Bool.not_eq_true'] at hk;refine ⟨_, ho, .inr (.inr ⟨hk.1.1.1, hk.1.1.2, α, mk, fun p => ens p ++ G, fun _ => E, [], hne, fun X w hX hw => ?_, hst, fun _ _ _ => rfl, fun p => k p _ (ha.put (Nat.le_of_ble_eq_true hk.2) _)⟩)⟩;refine vT rfl ?_;show mg P _ ((execOp a.eval _).run P w);rw [ha.exec hk.1.2, hr w];have hw1 : Fr S0 w0 w (e :: (X ++ (G ++ E))) := hw.perm (List.perm_middle (l₁ := X) (l₂ := G ++ E));refine (c w (hw.sub (List.sublist_append_right ..))).mono ?_;rintro r w' ⟨p, rfl, hc, hX', hp⟩;refine ⟨_, rfl, p, rfl, (hw1.rep hwr hc (hwl w hw1.m0) hX' hp).perm ?_⟩;rw [List.append_assoc];exact List.perm_append_comm_assoc (ens p) X (G ++ E)
end
theorem eK.wl {gF m : Nat} {z : ij} {w : World} (h : eK gF m z w) : Wl (eA gF z) w := fun _ hg => h.rows hg
theorem sS (gF n m c k mw : Nat) (z : ij) (A : Mx) (nu cs : Nat -> Nat) (w : World) (hn : n <= 64) (hm : m <= 64) (hc : c < m) (hmw : mw <= 1048577) (hI : mu n m mw A c k nu cs z) (h : eK gF m z w) :
 Calls Try.prog 74 #[.pointer (some ⟨gF, 0, none⟩), .int .i64 (c : Int)] w fun e w' => ∃ p : Bool × ij, e = .returned (.bool p.1) /\ bZ (eA gF z) w w' /\ eK gF m p.2 w' /\ (∀ g, eA gF p.2 g -> eA gF z g ∨ w.heap.size <= g) /\ uf n m mw A c k nu cs z p.1 p.2 := by
 rcases Nat.eq_zero_or_pos n with rfl | h0
 · exact (vY gF m c k mw z A nu cs w hc hI h).mono fun e w' ⟨b, z', q⟩ => ⟨(b, z'), q⟩
 · exact (wC gF n m c k mw z A nu cs w h0 hn hm hc hmw hI h).mono fun e w' ⟨b, z', q⟩ => ⟨(b, z'), q⟩
theorem u3 (k c : Nat) (cs : Nat -> Nat) : (List.range (k + 1)).map (kt cs k c) = (List.range k).map cs ++ [c] := by
 rw [List.range_succ, List.map_append];congr 1
 · exact List.map_congr_left fun t ht => dA (List.mem_range.1 ht)
 · simp [j5]
structure RnX where
 c : Nat
 k : Nat
 z : ij
 nu : Nat -> Nat
 cs : Nat -> Nat
 lo : Option Addr
 lc : Nat
structure RnI (n m mw : Nat) (A : Mx) (x : RnX) : Prop where
 hc : x.c <= m
 st : mu n m mw A x.c x.k x.nu x.cs x.z
set_option maxRecDepth 100000 in
set_option maxHeartbeats 4000000 in
theorem yT (gF n m mw : Nat) (z : ij) (A : Mx) (nu cs : Nat -> Nat) (w : World) (hn : n <= 64) (hm : m <= 64) (hmw : mw <= 1048577) (hI : mu n m mw A 0 0 nu cs z) (h : eK gF m z w) :
 Calls Try.prog 50 #[.pointer (some ⟨gF, 0, none⟩), .int .i64 (m : Int)] w fun e w' => ∃ p : (Option Addr × Nat) × Nat × ij × (Nat -> Nat) × (Nat -> Nat), e = .returned (.slice p.1.1 p.2.1 p.1.2) /\ bZ (eA gF z) w w' /\ kv 3 1 p.1.1 p.2.1 p.1.2 (iL ((List.range p.2.1).map p.2.2.2.2)) w' /\ (∀ b o, p.1.1 = some ⟨b, o, none⟩ -> eA gF z b ∨ w.heap.size <= b) /\ mu n m mw A m p.2.1 p.2.2.2.1 p.2.2.2.2 p.2.2.1 := by
 have HI := Lib.hid hI;clear hI;refine aZ (S0 := eA gF z) Try.func50 (Fr.fldS h) ?_;clear h;refine ae ?_;refine rW [] ?_;refine dW ?_;refine eW ?_;refine ae ?_;refine rW [] ?_;refine dW ?_;refine eW ?_;refine ae ?_;refine rW [] ?_;refine dW ?_;refine dW ?_;refine eW ?_;refine ae ?_;refine wk (te := 3) (sz := 1) ?_;refine bF (X := RnX) (RnI n m mw A) (fun x => m - x.c) (fun x => [(8, .int .i64 (x.c : Int)), (7, .int .i64 (m : Int)), (5, .slice x.lo x.k x.lc), (0, .pointer (some ⟨gF, 0, none⟩))]) (fun x => [.lg 3 1 x.lo x.k x.lc (iL ((List.range x.k).map x.cs)), .oh gF m x.z]) ⟨0, 0, z, nu, cs, none, 0⟩ ⟨Nat.zero_le _, HI.out⟩ fun x hx => ?_;obtain ⟨c, k, z1, nu1, cs1, lo, lc⟩ := x;have hc : c <= m := hx.hc;have HX : Hid (mu n m mw A c k nu1 cs1 z1) := Lib.hid hx.st;have hk : k <= 64 := by have := hx.st.br.kn; have : k <= n := this; omega
 clear hx;by_cases h : c < m
 · have h01 : (c : Int) < (m : Int) := by omega
   refine ae ?_;refine rW [] ?_;refine dB true ?_;refine eW ?_;refine ae ?_;refine dO ?_;refine ae ?_;refine rW [] ?_;refine dW ?_;refine dW ?_;refine eW ?_;refine ae ?_;refine rW [] ?_;refine dW ?_;refine dW ?_;refine cUp (α := Bool × ij) (mk := fun p => .bool p.1) (e := .oh gF m z1) (e' := fun p => .oh gF m p.2) (ens := fun p => [.pr (uf n m mw A c k nu1 cs1 z1 p.1 p.2)]) (fun w' H => (sS gF n m c k mw z1 A nu1 cs1 w' hn hm h hmw HX.out (H.all (.oh gF m z1) (by simp))).mono fun e w'' ⟨p, he, q1, q2, q3, q4⟩ => ⟨p, he, q1, q2, q3, fun x hx => by rcases List.mem_singleton.1 hx with rfl; exact ⟨q4, fun _ h => h⟩⟩) (fun w h => eK.wl h) (hne := ⟨(false, z1)⟩) fun p => ?_;refine eW ?_;refine ae ?_;refine lJ (A := uf n m mw A c k nu1 cs1 z1 p.1 p.2) (by simp) fun hs => ?_;obtain ⟨b, z2⟩ := p
   replace hs : uf n m mw A c k nu1 cs1 z1 b z2 := hs
   by_cases hb : b = true
   · subst hb;have hs2 := hs.resolve_left fun q => nomatch q.1;obtain ⟨_, hkn, nu2, hst, _⟩ := hs2;have HST := Lib.hid hst;clear hst hs;refine ae ?_;refine dO ?_;refine ae ?_;refine rW [] ?_;refine dW ?_;refine dW ?_;refine bW (m := 1) fun g16 => ?_;refine xF (k := k) (cap := lc) (g := g16) (c := 1) (ao := lo) (cs := iL ((List.range k).map cs1)) (v := .int .i64 (c : Int)) Try.underlying54 rj rfl (nL (.int .i64 0) rfl (fun n h => nomatch h)) (by omega) (by omega) rfl ⟨fY _, by decide⟩ (by simp) fun u => ?_;refine dW ?_;refine eW ?_;refine ae ?_;refine rW [] ?_;refine dE (cd (a := c) (by omega)) ?_;refine dW ?_;refine eW ?_;refine ae ?_;exact bh (⟨c + 1, k + 1, z2, nu2, kt cs1 k c, u.1, u.2⟩ : RnX) ⟨⟨h, HST.out⟩, by show m - (c + 1) < m - c; omega⟩ (he := by
      intro w' h';rw [s5, <- u3] at h';exact h'.pick (by repeat (first | exact Pk.n | refine Pk.c (by repeat (first | exact Rm.z | apply Rm.s)) ?_)))
   · have hb' : b = false := by simpa using hb
     subst hb';have hs2 := hs.resolve_right fun q => nomatch q.1;obtain ⟨_, _, hst, _⟩ := hs2;have HST := Lib.hid hst;clear hst hs hb;refine ae ?_;refine bX ?_;refine ae ?_;refine rW [] ?_;refine dE (cd (a := c) (by omega)) ?_;refine dW ?_;refine eW ?_;refine ae ?_;exact bh (⟨c + 1, k, z2, nu1, cs1, lo, lc⟩ : RnX) ⟨⟨h, HST.out⟩, by show m - (c + 1) < m - c; omega⟩
 · obtain rfl : m = c := by omega
   refine ae ?_;refine rW [] ?_;refine dB false ?_;refine eW ?_;refine ae ?_;refine bX ?_;refine ae ?_;refine rW [] ?_;refine dW ?_;refine dW ?_;refine eW ?_;refine ae ?_;refine cQ fun w' H => ?_;exact ⟨_, cX, ((lo, lc), k, z1, nu1, cs1), rfl, H.bs, H.m0, fun b o e => H.own (.lg 3 1 lo k lc (iL ((List.range k).map cs1))) (by simp) rfl b ⟨o, e⟩, HX.out⟩
theorem ld {n m i : Nat} {xs : List Int} (hi : i < n) : (bR n m xs).getD i [] = rowOf xs m i := by simp [bR, hi]
theorem oC {n m i j : Nat} {xs : List Int} (hi : i < n) (hj : j < m) : bw (bR n m xs) i j = ai xs n m i j := by
 unfold bw gi;rw [ld hi, lC _ _ _ _ hj, aM hi hj]
theorem fT {w : World} {ao : Option Addr} {xs : List Int} {B : Nat} (h : aI w B ao xs) : ∀ x ∈ xs, x.natAbs < W ^ B := fun x hx => by
 obtain ⟨i, hi, rfl⟩ := List.getElem_of_mem hx;obtain ⟨b, o, _, _, hc⟩ := h (by omega);obtain ⟨q, _, _, hI⟩ := hc i hi;exact Nat.lt_of_lt_of_le (aT _) (Nat.pow_le_pow_right (by decide) hI.ag)
theorem mu.start {n m mw : Nat} {xs : List Int} {z : ij} (cs : Nat -> Nat) (hs : xs.length = n * m) (hb : ∀ x ∈ xs, x.natAbs < W ^ mw) (h : z.E = bR n m xs /\ z.ls = 1 /\ z.tn = false /\ z.tk = 0 /\ z.nu.length = n) : mu n m mw (ai xs n m) 0 0 (fun i => i) cs z := by
 obtain ⟨h1, h2, _, h3, h4⟩ := h;have hA : ∀ i j, (ai xs n m i j).natAbs < W ^ mw := fun i j => dC (Nat.pow_pos (by unfold W; omega)) hb i j;refine ⟨by rw [h1, dq], fun t ht => by rw [h1, ld ht]; exact dt hs ht, h4, h3, ?_, fun i j => Nat.le_of_lt (hA i j), fun t ht j => ?_, ?_⟩
 · rw [h2, h1]; exact gA.start cs fun i hi j hj => oC hi hj
 · rw [h1];by_cases hj : j < m
   · rw [oC ht hj]; exact Nat.le_trans (an (hA t j)) (by omega)
   · have : bw (bR n m xs) t j = 0 := by
      unfold bw gi;rw [ld ht]; exact er _ _ (by rw [dt hs ht]; omega)
     rw [this]; simp [aN]
 · rw [h2]; exact Nat.le_trans (an (k := 1) (by unfold W; decide)) (by omega)
def eu (n m : Nat) (A : Mx) (k : Nat) (cs : Nat -> Nat) : Prop := ∃ nu R d, gA n m A m k nu cs R d
set_option maxRecDepth 100000 in
set_option maxHeartbeats 4000000 in
theorem uE (n m nm mw cap : Nat) (ao : Option Addr) (xs : List Int) (w : World) (hn : n <= 64) (hm : m <= 64) (hmw : mw <= 1048577) (hA : aI w mw ao xs) (hs : xs.length = n * m) (hnm : xs.length = nm) :
 Calls Try.prog 23 #[.agg #[.int .i64 (n : Int), .int .i64 (m : Int), .slice ao nm cap]] w fun e w' => ∃ p : (Option Addr × Nat) × Nat × (Nat -> Nat), e = .returned (.tuple #[.slice p.1.1 p.2.1 p.1.2, .int .i64 0]) /\ Nw w w' [.lg 3 1 p.1.1 p.2.1 p.1.2 (iL ((List.range p.2.1).map p.2.2)), .pr (eu n m (ai xs n m) p.2.1 p.2.2)] := by
 have hxb := fT hA;have hC : ∀ w', Calls Try.prog 14 #[.agg #[.int .i64 (n : Int), .int .i64 (m : Int), .slice ao nm cap]] w' fun e w'' => e = .returned (.int .i64 0) /\ Below w'.heap.size w' w'' := fun w' => by
  have := cF (n : Int) (m : Int) ao nm cap w' (by omega) (by omega);rw [dm (by unfold aR bB; rw [<- hnm, hs]; simp; omega)] at this; exact this
 have hO := fun w' (h : aI w' mw ao xs) => xR n m nm mw cap ao xs w' hn hm h (by omega) hs hnm (fun x hx => Nat.le_trans (an (hxb x hx)) (by omega));have hst := fun (z : ij) h => mu.start (n := n) (m := m) (mw := mw) (xs := xs) (z := z) (fun _ => 0) hs hxb h;have HC := Lib.hid (And.intro hC (And.intro hO hst));clear hC hO hst hxb hs hnm;refine aZ (S0 := fun _ => False) Try.func23 ((Fr.nil _ w).l hA (by simp)) ?_;refine ae ?_;refine rW [] ?_;refine aW fun g1 => ?_;refine dW ?_;refine dW ?_;refine eW ?_;refine ae ?_;refine rW [] ?_;refine dW ?_;refine cV (v := .int .i64 0) (fun w' H => HC.out.1 w') ?_;refine dW ?_;refine eW ?_;refine ae ?_;refine rW [] ?_;refine dW ?_;refine dB false ?_;refine eW ?_;refine ae ?_;refine bX ?_;refine ae ?_;refine rW [] ?_;refine dW ?_;refine cG (α := Nat × ij) (mk := fun q => .pointer (some ⟨q.1, 0, none⟩)) (ens := fun q => [.oh q.1 m q.2, .pr (q.2.E = bR n m xs /\ q.2.ls = 1 /\ q.2.tn = false /\ q.2.tk = 0 /\ q.2.nu.length = n)]) (hne := ⟨(0, ⟨none, 0, none, 0, [], [], [], false, p0, 0, 0⟩)⟩) (fun w' H => (HC.out.2.1 w' (H.all (.ls mw ao xs) (by simp))).mono fun e w'' ⟨q, he, hnw, hq⟩ => ⟨q, he, hnw.1, fun e he => by
  rcases List.mem_cons.1 he with rfl | he
  · exact hnw.2.1 _ (List.mem_singleton.2 rfl)
  · rcases List.mem_singleton.1 he with rfl;exact ⟨hq, fun _ h => h.elim⟩, .cons (fun x hx => by rcases List.mem_singleton.1 hx with rfl; exact ⟨fun _ _ _ h => h, fun q => nomatch q⟩) (List.pairwise_singleton ..)⟩) fun q => ?_
 refine dW ?_;refine dW ?_;refine cRep (α := (Option Addr × Nat) × Nat × (Nat -> Nat)) (mk := fun p => .slice p.1.1 p.2.1 p.1.2) (e := .oh q.1 m q.2) (ens := fun p => [.lg 3 1 p.1.1 p.2.1 p.1.2 (iL ((List.range p.2.1).map p.2.2)), .pr (eu n m (ai xs n m) p.2.1 p.2.2)]) (hne := ⟨((none, 0), 0, fun _ => 0)⟩) (fun w' H => (yT q.1 n m mw q.2 (ai xs n m) _ _ w' hn hm hmw (HC.out.2.2 q.2 H.m1) H.m0).mono fun e w'' ⟨p, he, q1, q2, q3, q4⟩ => ⟨(p.1, p.2.1, p.2.2.2.2), he, q1, fun x hx => by
  rcases List.mem_cons.1 hx with rfl | hx
  · exact ⟨q2, fun b ⟨o, e⟩ => q3 b o e⟩
  · rcases List.mem_singleton.1 hx with rfl;exact ⟨⟨_, _, _, q4.br⟩, fun _ h => h.elim⟩, .cons (fun x hx => by rcases List.mem_singleton.1 hx with rfl; exact ⟨fun _ _ _ h => h, fun q => nomatch q⟩) (List.pairwise_singleton ..)⟩) (fun w h => eK.wl h) fun p => ?_
 refine dW ?_;refine dW ?_;refine eW ?_;refine ae ?_;refine dX fun w' H => ?_;refine ⟨_, _, cX, cX, p, rfl, H.below, fun e he => ?_, .cons (fun x hx => by rcases List.mem_singleton.1 hx with rfl; exact ⟨fun _ _ _ h => h, fun q => nomatch q⟩) (List.pairwise_singleton ..)⟩;rcases List.mem_cons.1 he with rfl | he
 · exact ⟨H.m0, fun b hb => (H.own _ (List.mem_cons_self ..) rfl b hb).elim (fun h => h.elim) id⟩
 · rcases List.mem_singleton.1 he with rfl;exact ⟨H.m1, fun _ h => h.elim⟩
set_option maxRecDepth 100000 in
set_option maxHeartbeats 4000000 in
theorem sZ (n m nm mw cap : Nat) (ao : Option Addr) (xs : List Int) (w : World) (hn : n <= 64) (hm : m <= 64) (hmw : mw <= 1048577) (hA : aI w mw ao xs) (hs : xs.length = n * m) (hnm : xs.length = nm) :
 Calls Try.prog 53 #[.agg #[.int .i64 (n : Int), .int .i64 (m : Int), .slice ao nm cap]] w fun e w' => ∃ p : (Option Addr × Nat) × Nat × (Nat -> Nat), e = .returned (.tuple #[.slice p.1.1 p.2.1 p.1.2, .int .i64 0]) /\ Nw w w' [.lg 3 1 p.1.1 p.2.1 p.1.2 (iL ((List.range p.2.1).map p.2.2)), .pr (eu m n (ai (jq n m xs) m n) p.2.1 p.2.2)] := by
 have hxb := fT hA;have hT := fun w' (h : aI w' mw ao xs) => by
  have := tX n m ao cap mw xs w' hn hm h (by omega) hs;rw [hnm] at this; exact this
 have hP := fun p cp w' (h : ea w' p (jq n m xs)) => uE m n (m * n) mw cp p (jq n m xs) w' hm hn hmw (h.gK fun x hx => an (hxb x (wX hs hx))) (lT ..) (lT ..);have HC := Lib.hid (And.intro hT hP);clear hT hP hxb hs hnm;refine aZ (S0 := fun _ => False) Try.func53 ((Fr.nil _ w).l hA (by simp)) ?_;refine ae ?_;refine rW [] ?_;refine aW fun g1 => ?_;refine dW ?_;refine dW ?_;refine eW ?_;refine ae ?_;refine rW [] ?_;refine dW ?_;refine kJ (α := Option Addr × Nat) (mk := fun p => .tuple #[.agg #[.int .i64 (m : Int), .int .i64 (n : Int), .slice p.1 (m * n) p.2], .int .i64 0]) (ao := fun p => p.1) (xs := fun _ => jq n m xs) (A := fun _ => True) (fun w' H => HC.out.1 w' (H.all (.ls mw ao xs) (by simp))) fun t => ?_;refine dW ?_;refine dW ?_;refine dW ?_;refine aW fun g4 => ?_;refine sG ?_;refine dW ?_;refine eW ?_;refine ae ?_;refine rW [] ?_;refine dW ?_;refine dB false ?_;refine eW ?_;refine ae ?_;refine bX ?_;refine ae ?_;refine rW [] ?_;refine dW ?_;refine cG (α := (Option Addr × Nat) × Nat × (Nat -> Nat)) (mk := fun p => .tuple #[.slice p.1.1 p.2.1 p.1.2, .int .i64 0]) (ens := fun p => [.lg 3 1 p.1.1 p.2.1 p.1.2 (iL ((List.range p.2.1).map p.2.2)), .pr (eu m n (ai (jq n m xs) m n) p.2.1 p.2.2)]) (hne := ⟨((none, 0), 0, fun _ => 0)⟩) (fun w' H => HC.out.2 t.1 t.2 w' (H.all (.gX t.1 (jq n m xs)) (by simp))) fun p => ?_;refine dW ?_;refine dW ?_;refine dW ?_;refine dW ?_;refine eW ?_;refine ae ?_;refine dX fun w' H => ?_;refine ⟨_, _, cX, cX, p, rfl, H.below, fun e he => ?_, .cons (fun x hx => by rcases List.mem_singleton.1 hx with rfl; exact ⟨fun _ _ _ h => h, fun q => nomatch q⟩) (List.pairwise_singleton ..)⟩;rcases List.mem_cons.1 he with rfl | he
 · exact ⟨H.m0, fun b hb => (H.own _ (List.mem_cons_self ..) rfl b hb).elim (fun h => h.elim) id⟩
 · rcases List.mem_singleton.1 he with rfl;exact ⟨H.m1, fun _ h => h.elim⟩
def vL (b : Bool) : Int := if b then -1 else 1
structure DeX where
 c : Nat
 z : ij
 nu : Nat -> Nat
 cs : Nat -> Nat
structure DeI (n mw : Nat) (A : Mx) (x : DeX) : Prop where
 hc : x.c <= n
 st : mu n n mw A x.c x.c x.nu x.cs x.z
 sg : aF n (fun a b => A (x.nu a) b) * vL x.z.tn = aF n A
theorem DeI.next {n mw c : Nat} {A : Mx} {nu cs nu' : Nat -> Nat} {z z' : ij} (h : DeI n mw A ⟨c, z, nu, cs⟩) (hc : c < n) (hst : mu n n mw A (c + 1) (c + 1) nu' (kt cs c c) z') (hr : (z'.tn = z.tn /\ nu' = nu) ∨ (z'.tn = !z.tn /\ ∃ p, c < p /\ p < n /\ nu' = fun i => nu (jV c p i))) : DeI n mw A ⟨c + 1, z', nu', kt cs c c⟩ := by
 refine ⟨hc, hst, ?_⟩;have h0 : aF n (fun a b => A (nu a) b) * vL z.tn = aF n A := h.sg;show aF n (fun a b => A (nu' a) b) * vL z'.tn = aF n A;rcases hr with ⟨e1, e2⟩ | ⟨e1, p, h1, h2, e2⟩
 · rw [e1, e2]; exact h0
 · rw [e1, e2, <- h0, x3 (B := fun a b => A (nu a) b) hc h2 (by omega)];cases z.tn <;> simp [vL, Int.neg_mul, Int.mul_neg]
set_option maxRecDepth 100000 in
set_option maxHeartbeats 4000000 in
theorem yN (n nm mw cap : Nat) (ao : Option Addr) (xs : List Int) (w : World) (hn : n <= 64) (hmw : mw <= 1048577) (hA : aI w mw ao xs) (hs : xs.length = n * n) (hnm : xs.length = nm) :
 Calls Try.prog 54 #[.agg #[.int .i64 (n : Int), .int .i64 (n : Int), .slice ao nm cap]] w fun e w' => (∃ v', e = .returned (.tuple #[v', .int .i64 0]) /\ ak w' w.heap.size v' (aF n (ai xs n n))) /\ Below w.heap.size w w' := by
 have hxb := fT hA;have hC : ∀ w', Calls Try.prog 14 #[.agg #[.int .i64 (n : Int), .int .i64 (n : Int), .slice ao nm cap]] w' fun e w'' => e = .returned (.int .i64 0) /\ Below w'.heap.size w' w'' := fun w' => by
  have := cF (n : Int) (n : Int) ao nm cap w' (by omega) (by omega);rw [dm (by unfold aR bB; rw [<- hnm, hs]; simp; omega)] at this; exact this
 have hO := fun w' (h : aI w' mw ao xs) => xR n n nm mw cap ao xs w' hn hn h (by omega) hs hnm (fun x hx => Nat.le_trans (an (hxb x hx)) (by omega));have hst : ∀ z : ij, (z.E = bR n n xs /\ z.ls = 1 /\ z.tn = false /\ z.tk = 0 /\ z.nu.length = n) -> DeI n mw (ai xs n n) ⟨0, z, fun i => i, fun _ => 0⟩ := fun z h => ⟨Nat.zero_le _, mu.start (fun _ => 0) hs hxb h, by show aF n (fun a b => ai xs n n a b) * vL z.tn = _; rw [h.2.2.1]; simp [vL]⟩;have HC := Lib.hid (And.intro hC (And.intro hO hst));obtain ⟨A, hA'⟩ : ∃ A, ai xs n n = A := ⟨_, rfl⟩;rw [hA'] at HC ⊢;clear hC hO hst hxb hs hnm hA';refine aZ (S0 := fun _ => False) Try.func54 ((Fr.nil _ w).l hA (by simp)) ?_;refine ae ?_;refine rW [] ?_;refine aW fun g1 => ?_;refine aW fun g2 => ?_;refine dW ?_;refine eW ?_;refine ae ?_;refine rW [] ?_;refine dW ?_;refine cV (v := .int .i64 0) (fun w' H => HC.out.1 w') ?_;refine dW ?_;refine eW ?_;refine ae ?_;refine rW [] ?_;refine dW ?_;refine dB false ?_;refine eW ?_;refine ae ?_;refine bX ?_;refine ae ?_;refine rW [] ?_;refine dW ?_;refine dW ?_;refine dW ?_;refine dW ?_;refine dB false ?_;refine eW ?_;refine ae ?_;refine bX ?_;refine ae ?_;refine rW [] ?_;refine dW ?_;refine cG (α := Nat × ij) (mk := fun q => .pointer (some ⟨q.1, 0, none⟩)) (ens := fun q => [.oh q.1 n q.2, .pr (q.2.E = bR n n xs /\ q.2.ls = 1 /\ q.2.tn = false /\ q.2.tk = 0 /\ q.2.nu.length = n)]) (hne := ⟨(0, ⟨none, 0, none, 0, [], [], [], false, p0, 0, 0⟩)⟩) (fun w' H => (HC.out.2.1 w' (H.all (.ls mw ao xs) (by simp))).mono fun e w'' ⟨q, he, hnw, hq⟩ => ⟨q, he, hnw.1, fun e he => by
  rcases List.mem_cons.1 he with rfl | he
  · exact hnw.2.1 _ (List.mem_singleton.2 rfl)
  · rcases List.mem_singleton.1 he with rfl;exact ⟨hq, fun _ h => h.elim⟩, .cons (fun x hx => by rcases List.mem_singleton.1 hx with rfl; exact ⟨fun _ _ _ h => h, fun q => nomatch q⟩) (List.pairwise_singleton ..)⟩) fun q => ?_
 refine dW ?_;refine eW ?_;refine ae ?_;refine lJ (A := q.2.E = bR n n xs /\ q.2.ls = 1 /\ q.2.tn = false /\ q.2.tk = 0 /\ q.2.nu.length = n) (by simp) fun hq => ?_;obtain ⟨gF, z⟩ := q;have HD := Lib.hid (HC.out.2.2 z hq);clear hq;refine cZ (es' := [.row g1 24 [.int .i64 (n : Int), .int .i64 (n : Int), .slice ao nm cap], .row g2 27 [.bool false, .slice none 0 0], .oh gF n z]) ?_;refine rW [] ?_;refine dW ?_;refine dW ?_;refine dW ?_;refine eW ?_;refine ae ?_;refine bF (X := DeX) (DeI n mw A) (fun x => n - x.c) (fun x => [(23, .int .i64 (x.c : Int)), (22, .int .i64 (n : Int)), (5, .pointer (some ⟨gF, 0, none⟩)), (1, .pointer (some ⟨g1, 0, none⟩)), (2, .pointer (some ⟨g2, 0, none⟩)), (3, .int .i64 0)]) (fun x => [.row g1 24 [.int .i64 (n : Int), .int .i64 (n : Int), .slice ao nm cap], .row g2 27 [.bool false, .slice none 0 0], .oh gF n x.z]) ⟨0, z, fun i => i, fun _ => 0⟩ HD.out fun x hx => ?_;obtain ⟨c, z1, nu1, cs1⟩ := x;have hc : c <= n := hx.hc;have HX : Hid (DeI n mw A ⟨c, z1, nu1, cs1⟩) := Lib.hid hx;clear hx;by_cases h : c < n
 · have h01 : (c : Int) < (n : Int) := by omega
   refine ae ?_;refine rW [] ?_;refine dB true ?_;refine eW ?_;refine ae ?_;refine dO ?_;refine ae ?_;refine rW [] ?_;refine dW ?_;refine dW ?_;refine eW ?_;refine ae ?_;refine rW [] ?_;refine dW ?_;refine dW ?_;refine cUp (α := Bool × ij) (mk := fun p => .bool p.1) (e := .oh gF n z1) (e' := fun p => .oh gF n p.2) (ens := fun p => [.pr (uf n n mw A c c nu1 cs1 z1 p.1 p.2)]) (fun w' H => (sS gF n n c c mw z1 A nu1 cs1 w' hn hn h hmw HX.out.st (H.all (.oh gF n z1) (by simp))).mono fun e w'' ⟨p, he, q1, q2, q3, q4⟩ => ⟨p, he, q1, q2, q3, fun x hx => by rcases List.mem_singleton.1 hx with rfl; exact ⟨q4, fun _ h => h⟩⟩) (fun w h => eK.wl h) (hne := ⟨(false, z1)⟩) fun p => ?_;refine dW ?_;refine eW ?_;refine ae ?_;refine lJ (A := uf n n mw A c c nu1 cs1 z1 p.1 p.2) (by simp) fun hs => ?_;obtain ⟨b, z2⟩ := p
   replace hs : uf n n mw A c c nu1 cs1 z1 b z2 := hs
   by_cases hb : b = true
   · subst hb;have hs2 := hs.resolve_left fun q => nomatch q.1;obtain ⟨_, hkn, nu2, hst, hrel⟩ := hs2;have HST := Lib.hid (HX.out.next h hst hrel);clear hst hs hrel;refine ae ?_;refine bX ?_;refine ae ?_;refine rW [] ?_;refine dE (cd (a := c) (by omega)) ?_;refine dW ?_;refine eW ?_;refine ae ?_;exact bh (⟨c + 1, z2, nu2, kt cs1 c c⟩ : DeX) ⟨HST.out, by show n - (c + 1) < n - c; omega⟩
   · have hb' : b = false := by simpa using hb
     subst hb';have hs2 := hs.resolve_right fun q => nomatch q.1;obtain ⟨_, _, _, h0⟩ := hs2;have hd : aF n A = 0 := by rw [<- HX.out.sg, HX.out.st.br.det0 h h0, Int.zero_mul]
     have HDZ := Lib.hid hd;clear hd hs hb h0;refine ae ?_;refine dO ?_;refine ae ?_;refine rW [] ?_;refine dW ?_;refine sW ?_;refine dW ?_;refine eW ?_;refine ae ?_;refine dX fun w' H => ?_;exact ⟨_, _, gD (H.all (.row g2 27 [.bool false, .slice none 0 0]) (by simp)), cX, ⟨_, rfl, by rw [HDZ.out]; exact ak.zero _ _⟩, H.below⟩
 · obtain rfl : n = c := by omega
   refine ae ?_;refine rW [] ?_;refine dB false ?_;have hdt : z1.ls * vL z1.tn = aF n A := by rw [HX.out.st.br.aF (s := 0)]; exact HX.out.sg
   have hlw : ag z1.ls.natAbs <= 17592186044415 := Nat.le_trans HX.out.st.lb (by omega);have HDT := Lib.hid (And.intro hdt hlw);clear hdt hlw;refine eW ?_;refine ae ?_;obtain ⟨ro, rc, no, nc, gs, E, nul, tn, lp, ls, tk⟩ := z1;refine wW (es' := [.cell ⟨gF, 2, none⟩ (.bool tn), .cell ⟨gF, 3, none⟩ (.bool lp.1), .cell ⟨gF, 4, none⟩ (.slice lp.2.1 lp.2.2.1 lp.2.2.2), .num (av lp) ls, .row g1 24 [.int .i64 (n : Int), .int .i64 (n : Int), .slice ao nm cap], .row g2 27 [.bool false, .slice none 0 0]]) (fun w' h' => by
    have h2 : Fr _ w w' (.oh gF n ⟨ro, rc, no, nc, gs, E, nul, tn, lp, ls, tk⟩ :: [.row g1 24 [.int .i64 (n : Int), .int .i64 (n : Int), .slice ao nm cap], .row g2 27 [.bool false, .slice none 0 0]]) := h'.pick (by repeat (first | exact Pk.n | refine Pk.c (by repeat (first | exact Rm.z | apply Rm.s)) ?_));have hF : eK gF n ⟨ro, rc, no, nc, gs, E, nul, tn, lp, ls, tk⟩ w' := h2.m0;have hr : ah w' gF _ (vh ⟨ro, rc, no, nc, gs, E, nul, tn, lp, ls, tk⟩) := hF.1.1;refine h2.lv (X := [.cell ⟨gF, 2, none⟩ (.bool tn), .cell ⟨gF, 3, none⟩ (.bool lp.1), .cell ⟨gF, 4, none⟩ (.slice lp.2.1 lp.2.2.1 lp.2.2.2), .num (av lp) ls]) rfl (fun x hx => ?_) (List.pairwise_of_forall_mem_list fun a ha b hb => ?_)
    · simp only [List.mem_cons, List.mem_nil_iff, or_false] at hx;rcases hx with rfl | rfl | rfl | rfl
      · exact ⟨hr.cell 2, fun b e => .inl e⟩
      · exact ⟨hr.cell 3, fun b e => .inl e⟩
      · exact ⟨hr.cell 4, fun b e => .inl e⟩
      · exact ⟨hF.1.2.2.2.2, fun b e => e.elim⟩
    · have hw : ∀ x ∈ [En.cell ⟨gF, 2, none⟩ (.bool tn), .cell ⟨gF, 3, none⟩ (.bool lp.1), .cell ⟨gF, 4, none⟩ (.slice lp.2.1 lp.2.2.1 lp.2.2.2), .num (av lp) ls], x.wr = false := fun x hx => by
       simp only [List.mem_cons, List.mem_nil_iff, or_false] at hx;rcases hx with rfl | rfl | rfl | rfl <;> rfl
      exact ⟨(fun q => by rw [hw a ha] at q; cases q), (fun q => by rw [hw b hb] at q; cases q)⟩) ?_
   replace HDT : Hid (ls * vL tn = aF n A /\ ag ls.natAbs <= 17592186044415) := HDT
   by_cases htn : tn = true
   · subst htn;refine ae ?_;refine bX ?_;refine ae ?_;refine rW [] ?_;refine dW ?_;refine dW ?_;refine dW ?_;refine dW ?_;refine eW ?_;refine ae ?_;refine dO ?_;refine ae ?_;refine rW [] ?_;refine dW ?_;refine dW ?_;refine dW ?_;refine dW ?_;refine cN (x := -ls) (fun w' H => kb (av lp) ls w' (aJ.int (H.all (.num (av lp) ls) (by simp)) HDT.out.2)) fun p => ?_;refine sW ?_;refine dW ?_;refine eW ?_;refine ae ?_;refine dX fun w' H => ?_;exact ⟨_, _, gD (H.all (.row g2 27 [.bool p.1, .slice p.2.1 p.2.2.1 p.2.2.2]) (by simp)), cX, ⟨_, rfl, by have e := HDT.out.1; simp [vL] at e; rw [<- e]; exact H.all (.own w.heap.size (av p) (-ls)) (by simp [av])⟩, H.below⟩
   · have htn' : tn = false := by simpa using htn
     subst htn';clear htn;refine ae ?_;refine bX ?_;refine ae ?_;refine rW [] ?_;refine dW ?_;refine dW ?_;refine dW ?_;refine dW ?_;refine eW ?_;refine ae ?_;refine bX ?_;refine ae ?_;refine rW [] ?_;refine dW ?_;refine dW ?_;refine dW ?_;refine dW ?_;refine cN (x := ls) (fun w' H => fJ (av lp) ls w' (aJ.int (H.all (.num (av lp) ls) (by simp)) HDT.out.2)) fun p => ?_;refine sW ?_;refine dW ?_;refine eW ?_;refine ae ?_;refine dX fun w' H => ?_;exact ⟨_, _, gD (H.all (.row g2 27 [.bool p.1, .slice p.2.1 p.2.2.1 p.2.2.2]) (by simp)), cX, ⟨_, rfl, by have e := HDT.out.1; simp [vL] at e; rw [<- e]; exact H.all (.own w.heap.size (av p) ls) (by simp [av])⟩, H.below⟩
section
variable {P : Program} {S0 : Nat -> Prop} {w0 : World} {n : Nat} {ls : List (Nat × Value)} {es : List En} {fn : Func} {R : Ending -> World -> Prop}
theorem fin4 {a b c d : Nat} {ty : TypeId} (k : ∀ w, Fr S0 w0 w es -> ∃ v v' v2 v3, dZ P ls w (.tmp a) v /\ dZ P ls w (.tmp b) v' /\ dZ P ls w (.cell c ty) v2 /\ dZ P ls w (.tmp d) v3 /\ R (.returned (.tuple #[v, v', v2, v3])) w) (h : fn.results = #[.tmp a, .tmp b, .cell c ty, .tmp d] := by rfl) : QW n S0 w0 (bodyPost P fn R) .ret ls es := fun a w ha hw => by
 obtain ⟨v, v', v2, v3, h1, h2, h3, h4, hR⟩ := k w hw;refine bodyPost_ret (v := .tuple #[v, v', v2, v3]) ?_ ha.df hR;have e1 := (ha.tmp h1.1).trans (by rw [h1.2]);have e2 := (ha.tmp h2.1).trans (by rw [h2.2]);have e4 := (ha.tmp h4.1).trans (by rw [h4.2]);obtain ⟨h31, ad, h32, h33⟩ := h3;have e3 := (ha.tmp h31).trans (by rw [h32]);simp [results, h, asAddr, *]
theorem fin5 {a b c d e : Nat} {ty ty' : TypeId} (k : ∀ w, Fr S0 w0 w es -> ∃ v v' v2 v3 v4, dZ P ls w (.cell a ty') v /\ dZ P ls w (.tmp b) v' /\ dZ P ls w (.tmp c) v2 /\ dZ P ls w (.cell d ty) v3 /\ dZ P ls w (.tmp e) v4 /\ R (.returned (.tuple #[v, v', v2, v3, v4])) w) (h : fn.results = #[.cell a ty', .tmp b, .tmp c, .cell d ty, .tmp e] := by rfl) : QW n S0 w0 (bodyPost P fn R) .ret ls es := fun a w ha hw => by
 obtain ⟨v, v', v2, v3, v4, h1, h2, h3, h4, h5, hR⟩ := k w hw;refine bodyPost_ret (v := .tuple #[v, v', v2, v3, v4]) ?_ ha.df hR;have e2 := (ha.tmp h2.1).trans (by rw [h2.2]);have e3 := (ha.tmp h3.1).trans (by rw [h3.2]);have e5 := (ha.tmp h5.1).trans (by rw [h5.2]);obtain ⟨h11, ad1, h12, h13⟩ := h1;have e1 := (ha.tmp h11).trans (by rw [h12]);obtain ⟨h41, ad, h42, h43⟩ := h4;have e4 := (ha.tmp h41).trans (by rw [h42]);simp [results, h, asAddr, *]
end
theorem fm {m K k : Nat} {xs : List Int} {rs cs : List Nat} {L : Nat} (h : ∀ x ∈ xs, ag x.natAbs <= L) : ∀ x ∈ aC k (bL m xs rs cs) K, ag x.natAbs <= L := fun x hx => by
 obtain ⟨q, _, rfl⟩ := List.mem_map.1 hx;unfold bL;by_cases h1 : rs.getD (q / k) 0 * m + cs.getD (q % k) 0 < xs.length
 · exact h _ (cD h1)
 · rw [show gi xs _ = 0 from er _ _ (by omega)]; simp [aN]
theorem eu.lt {n m k : Nat} {A : Mx} {cs : Nat -> Nat} (h : eu n m A k cs) : k <= n /\ ∀ t < k, ((List.range k).map cs).getD t 0 < m := by
 obtain ⟨nu, R, d, h⟩ := h;exact ⟨h.kn, fun t ht => by have := h.csl t ht; simp [ht]; exact this⟩
def bK (m : Nat) (xs : List Int) (k : Nat) (c1 c2 : Nat -> Nat) : Int := aF k (ai (aC k (bL m xs ((List.range k).map c1) ((List.range k).map c2)) (k * k)) k k)
set_option maxRecDepth 100000 in
set_option maxHeartbeats 4000000 in
theorem xo (n m nm mw cap : Nat) (ao : Option Addr) (xs : List Int) (w : World) (hn : n <= 64) (hm : m <= 64) (hmw : mw <= 1048577) (hA : aI w mw ao xs) (hs : xs.length = n * m) (hnm : xs.length = nm) (hrk : ∀ k1 c1 k2 c2, eu m n (ai (jq n m xs) m n) k1 c1 -> eu n m (ai xs n m) k2 c2 -> k1 = k2) :
 Calls Try.prog 27 #[.agg #[.int .i64 (n : Int), .int .i64 (m : Int), .slice ao nm cap]] w fun e w' => ∃ p : ((Option Addr × Nat) × (Option Addr × Nat)) × (Nat × (Nat -> Nat) × (Nat -> Nat)) × P4, e = .returned (.tuple #[.slice p.1.1.1 p.2.1.1 p.1.1.2, .slice p.1.2.1 p.2.1.1 p.1.2.2, av p.2.2, .int .i64 0]) /\ Nw w w' [.pr (eu m n (ai (jq n m xs) m n) p.2.1.1 p.2.1.2.1 /\ eu n m (ai xs n m) p.2.1.1 p.2.1.2.2), .lg 3 1 p.1.1.1 p.2.1.1 p.1.1.2 (iL ((List.range p.2.1.1).map p.2.1.2.1)), .lg 3 1 p.1.2.1 p.2.1.1 p.1.2.2 (iL ((List.range p.2.1.1).map p.2.1.2.2)), .own w.heap.size (av p.2.2) (bK m xs p.2.1.1 p.2.1.2.1 p.2.1.2.2)] := by
 have hxb := fT hA;have hwx : ∀ x ∈ xs, ag x.natAbs <= mw := fun x hx => an (hxb x hx);have hR := fun w' (h : aI w' mw ao xs) => sZ n m nm mw cap ao xs w' hn hm hmw h hs hnm;have hP := fun w' (h : aI w' mw ao xs) => uE n m nm mw cap ao xs w' hn hm hmw h hs hnm;have hK := fun k1 c1 k2 c2 ro co (rs cs : List Nat) w' a1 a2 (a3 : aI w' mw ao xs) a4 a5 a6 a7 a8 a9 => nT n m nm cap k1 c1 k2 c2 mw ao ro co rs cs xs w' a1 a2 a3 (by omega) a4 a5 hs hnm a6 a7 hn hm a8 a9;have HC := Lib.hid (And.intro hR (And.intro hP (And.intro hK (And.intro hrk hwx))));clear hR hP hK hrk hwx hxb hs hnm;refine aZ (S0 := fun _ => False) Try.func27 ((Fr.nil _ w).l hA (by simp)) ?_;clear hA;refine ae ?_;refine rW [] ?_;refine aW fun g1 => ?_;refine dW ?_;refine dW ?_;refine aW fun g4 => ?_;refine dW ?_;refine eW ?_;refine ae ?_;refine rW [] ?_;refine dW ?_;refine cG (α := (Option Addr × Nat) × Nat × (Nat -> Nat)) (mk := fun p => .tuple #[.slice p.1.1 p.2.1 p.1.2, .int .i64 0]) (ens := fun p => [.lg 3 1 p.1.1 p.2.1 p.1.2 (iL ((List.range p.2.1).map p.2.2)), .pr (eu m n (ai (jq n m xs) m n) p.2.1 p.2.2)]) (hne := ⟨((none, 0), 0, fun _ => 0)⟩) (fun w' H => HC.out.1 w' (H.all (.ls mw ao xs) (by simp))) fun q1 => ?_;refine dW ?_;refine dW ?_;refine dW ?_;refine dW ?_;refine dW ?_;refine eW ?_;refine ae ?_;refine rW [] ?_;refine dW ?_;refine dB false ?_;refine eW ?_;refine ae ?_;refine bX ?_;refine ae ?_;refine rW [] ?_;refine dW ?_;refine cG (α := (Option Addr × Nat) × Nat × (Nat -> Nat)) (mk := fun p => .tuple #[.slice p.1.1 p.2.1 p.1.2, .int .i64 0]) (ens := fun p => [.lg 3 1 p.1.1 p.2.1 p.1.2 (iL ((List.range p.2.1).map p.2.2)), .pr (eu n m (ai xs n m) p.2.1 p.2.2)]) (hne := ⟨((none, 0), 0, fun _ => 0)⟩) (fun w' H => HC.out.2.1 w' (H.all (.ls mw ao xs) (by simp))) fun q2 => ?_;refine dW ?_;refine dW ?_;refine dW ?_;refine dW ?_;refine eW ?_;refine ae ?_;obtain ⟨⟨ro, rc⟩, k, c1⟩ := q1;obtain ⟨⟨co, cc⟩, k2, c2⟩ := q2;refine lJ (A := eu m n (ai (jq n m xs) m n) k c1) (by simp) fun hp1 => ?_;refine lJ (A := eu n m (ai xs n m) k2 c2) (by simp) fun hp2 => ?_;obtain rfl : k = k2 := HC.out.2.2.2.1 k c1 k2 c2 hp1 hp2;have hl1 := eu.lt hp1;have hl2 := eu.lt hp2;have hk64 : k <= 64 := by omega
 have HP := Lib.hid (And.intro hp1 (And.intro hp2 (And.intro hl1.2 hl2.2)));clear hp1 hp2 hl1 hl2;refine rW [] ?_;refine dW ?_;refine dW ?_;refine dW ?_;refine kJ (α := Option Addr × Nat) (mk := fun p => .tuple #[.agg #[.int .i64 (k : Int), .int .i64 (k : Int), .slice p.1 (k * k) p.2], .int .i64 0]) (ao := fun p => p.1) (xs := fun _ => aC k (bL m xs ((List.range k).map c1) ((List.range k).map c2)) (k * k)) (A := fun _ => True) (fun w' H => HC.out.2.2.1 k rc k cc ro co ((List.range k).map c1) ((List.range k).map c2) w' (kv.rl (H.all (.lg 3 1 ro k rc (iL ((List.range k).map c1))) (by simp))) (kv.rl (H.all (.lg 3 1 co k cc (iL ((List.range k).map c2))) (by simp))) (H.all (.ls mw ao xs) (by simp)) (by simp) (by simp) HP.out.2.2.1 HP.out.2.2.2 hk64 hk64) fun t => ?_;refine dW ?_;refine dW ?_;refine dW ?_;refine aW fun g6 => ?_;refine sG ?_;refine dW ?_;refine eW ?_;refine ae ?_;refine rW [] ?_;refine dW ?_;refine sq (x := bK m xs k c1 c2) (z := .int .i64 0) (fun w' H => yN k (k * k) mw t.2 t.1 _ w' hk64 hmw (ea.gK (H.all (.gX t.1 (aC k (bL m xs ((List.range k).map c1) ((List.range k).map c2)) (k * k))) (by simp)) (fm HC.out.2.2.2.2)) (aA ..) (aA ..)) fun pd => ?_;refine dW ?_;refine dW ?_;refine dW ?_;refine sW ?_;refine dW ?_;refine eW ?_;refine ae ?_;refine rW [] ?_;refine dW ?_;refine dW ?_;refine dW ?_;refine dW ?_;refine dW ?_;refine dW ?_;refine sW ?_;refine dW ?_;refine eW ?_;refine ae ?_;refine fin4 (fun w' H => ?_);have H2 : Fr _ w w' [.lg 3 1 ro k rc (iL ((List.range k).map c1)), .lg 3 1 co k cc (iL ((List.range k).map c2)), .own w.heap.size (av pd) (bK m xs k c1 c2)] := H.pick (by repeat (first | exact Pk.n | refine Pk.c (by repeat (first | exact Rm.z | apply Rm.s)) ?_));have H3 := H2.pure (e := .pr (eu m n (ai (jq n m xs) m n) k c1 /\ eu n m (ai xs n m) k c2)) ⟨HP.out.1, HP.out.2.1⟩ (fun _ h => h);refine ⟨_, _, _, _, cX, cX, gD (H.all (.row g4 27 [.bool pd.1, .slice pd.2.1 pd.2.2.1 pd.2.2.2]) (by simp)), cX, (((ro, rc), (co, cc)), (k, c1, c2), pd), rfl, H.below, fun e he => ⟨H3.all e he, fun b hb => ?_⟩, H3.sep⟩;have he' := he;simp only [List.mem_cons, List.mem_nil_iff, or_false] at he';rcases he' with rfl | rfl | rfl | rfl
 · exact hb.elim
 · exact (H3.own _ he rfl b hb).elim (fun h => h.elim) id
 · exact (H3.own _ he rfl b hb).elim (fun h => h.elim) id
 · exact hb.elim
def mi (j : Nat) (x : Int) (vs : List Int) (y : Int) (us : List Int) (d : Int) (k : Nat) : Int := if k < j then 0 else if k = j then x * gi vs k + y * gi us k else (x * gi vs k + y * gi us k) % d
def gJ (n j : Nat) (x : Int) (vs : List Int) (y : Int) (us : List Int) (d : Int) : List Int := (List.range n).map (mi j x vs y us d)
theorem ep (n j : Nat) (x : Int) (vs : List Int) (y : Int) (us : List Int) (d : Int) : (gJ n j x vs y us d).length = n := by simp [gJ]
theorem kF {n j k : Nat} {x : Int} {vs : List Int} {y : Int} {us : List Int} {d : Int} (h : k < n) : gi (gJ n j x vs y us d) k = mi j x vs y us d k := by
 rw [bV (by rw [ep]; exact h)]; simp [gJ]
structure MxX where
 k : Nat
 ps : List P4
 zs : List Int
structure MxI (n j : Nat) (x : Int) (vs : List Int) (y : Int) (us : List Int) (d : Int) (z : MxX) : Prop where
 hk : z.k <= n
 pl : z.ps.length = n
 zl : z.zs.length = n
 val : ∀ t < n, gi z.zs t = if t < z.k then mi j x vs y us d t else 0
theorem MxI.next {n j k : Nat} {x y d v : Int} {vs us zs : List Int} {ps ps' : List P4} (h : MxI n j x vs y us d ⟨k, ps, zs⟩) (hk : k < n) (hp : ps'.length = n) (hv : v = mi j x vs y us d k) : MxI n j x vs y us d ⟨k + 1, ps', zs.set k v⟩ := by
 have zl : zs.length = n := h.zl;refine ⟨hk, hp, by show (zs.set k v).length = n; rw [List.length_set]; exact zl, fun t ht => ?_⟩;show gi (zs.set k v) t = if t < k + 1 then _ else _;rw [eY (by omega)];by_cases e : t = k
 · rw [if_pos e, if_pos (by omega), hv, e]
 · rw [if_neg e];have := h.val t ht;rw [this];show (if t < k then _ else _) = _;by_cases e2 : t < k
   · rw [if_pos e2, if_pos (by omega)]
   · rw [if_neg e2, if_neg (by omega)]
set_option maxRecDepth 100000 in
set_option maxHeartbeats 4000000 in
theorem tS (gB n j L : Nat) (x y d : Int) (px py pd : P4) (va wa : Option Addr) (cv cw : Nat) (vs us : List Int) (w : World) (hn : n <= 64) (hj : j < n) (hL : L <= 1000000000) (hd : d ≠ 0) (hx : aw w L (av px) x) (hy : aw w L (av py) y) (hD : aw w L (av pd) d) (c1 : w.cell? ⟨gB, 1, none⟩ = some (.bool pd.1)) (c2 : w.cell? ⟨gB, 2, none⟩ = some (.slice pd.2.1 pd.2.2.1 pd.2.2.2)) (hv : aI w L va vs) (hu : aI w L wa us) (hvl : vs.length = n) (hul : us.length = n) :
 Calls Try.prog 58 #[.pointer (some ⟨gB, 0, none⟩), .int .i64 (j : Int), av px, .slice va n cv, av py, .slice wa n cw] w fun e w' => ∃ p : Nat × List P4, e = .returned (.slice (some ⟨p.1, 0, none⟩) n n) /\ Nw w w' [.row p.1 27 (rn p.2 []), .ns p.2 (gJ n j x vs y us d), .pr (p.2.length = n)] := by
 have HA : Fr (fun _ => False) w w [.cell ⟨gB, 1, none⟩ (.bool pd.1), .cell ⟨gB, 2, none⟩ (.slice pd.2.1 pd.2.2.1 pd.2.2.2), .ls L va vs, .ls L wa us, .at L (av px) x, .at L (av py) y, .at L (av pd) d] :=
  Fr.cl (Fr.cl (((((Fr.nil _ w).i hD).i hy).i hx |>.l hu (by simp [En.wr, En.at])) |>.l hv (by simp [En.wr, En.at, En.ls])) c2 (by simp [En.wr, En.at, En.ls])) c1 (by simp [En.wr, En.at, En.ls])
 have HN := Lib.hid (And.intro hvl hul);obtain ⟨bv, ov, rfl, _⟩ := hv (by omega);obtain ⟨bu, ou, rfl, _⟩ := hu (by omega);clear hx hy hD c1 c2 hv hu hvl hul;refine aZ (S0 := fun _ => False) Try.func58 HA ?_;clear HA;refine ae ?_;refine rW [] ?_;refine aW fun g8 => ?_;refine aW fun g10 => ?_;refine dW ?_;refine eW ?_;refine ae ?_;refine rW [] ?_;refine dW ?_;refine dW ?_;refine mN n n rfl rfl (Nat.le_refl _) (by omega) fun g => ?_;refine dW ?_;refine eW ?_;refine ae ?_;refine rW [] ?_;refine dW ?_;refine dW ?_;refine dW ?_;refine eW ?_;refine ae ?_;refine iZ (e := .ns (List.replicate n p0) (List.replicate n 0)) (fun w' _ => bg.qq w' n) ?_;refine bF (X := MxX) (MxI n j x vs y us d) (fun z => n - z.k) (fun z => [(20, .int .i64 (z.k : Int)), (19, .int .i64 (n : Int)), (13, .slice (some ⟨g, 0, none⟩) n n), (0, .pointer (some ⟨gB, 0, none⟩)), (1, .int .i64 (j : Int)), (3, .slice (some ⟨bv, ov, none⟩) n cv), (5, .slice (some ⟨bu, ou, none⟩) n cw), (8, .pointer (some ⟨g8, 0, none⟩)), (10, .pointer (some ⟨g10, 0, none⟩))])
  (fun z => [.row g 27 (rn z.ps []), .row g8 27 [.bool px.1, .slice px.2.1 px.2.2.1 px.2.2.2], .row g10 27 [.bool py.1, .slice py.2.1 py.2.2.1 py.2.2.2], .cell ⟨gB, 1, none⟩ (.bool pd.1), .cell ⟨gB, 2, none⟩ (.slice pd.2.1 pd.2.2.1 pd.2.2.2), .ns z.ps z.zs, .ls L (some ⟨bv, ov, none⟩) vs, .ls L (some ⟨bu, ou, none⟩) us, .at L (av px) x, .at L (av py) y, .at L (av pd) d]) ⟨0, List.replicate n p0, List.replicate n 0⟩ ⟨Nat.zero_le _, by simp, by simp, fun t ht => by rw [if_neg (by show ¬ t < 0; omega)]; show gi (List.replicate n 0) t = 0; rw [bV (by simpa using ht)]; simp⟩ fun z hz => ?_
 obtain ⟨k, ps, zs⟩ := z;have hk : k <= n := hz.hk;have HM : Hid (MxI n j x vs y us d ⟨k, ps, zs⟩) := Lib.hid hz;clear hz;by_cases h : k < n
 · have h01 : (k : Int) < (n : Int) := by omega
   refine ae ?_;refine rW [] ?_;refine dB true ?_;by_cases h2 : k < j
   · have h02 : (k : Int) < (j : Int) := by omega
     refine eW ?_;refine ae ?_;refine dO ?_;refine ae ?_;refine rW [] ?_;refine dW ?_;refine dW ?_;refine eW ?_;refine ae ?_;refine rW [] ?_;refine dW ?_;refine dW ?_;refine dB true ?_;refine eW ?_;refine ae ?_;refine dO ?_;refine ae ?_;refine rW [] ?_;refine dE (cd (a := k) (by omega)) ?_;refine dW ?_;refine eW ?_;refine ae ?_;exact bh (⟨k + 1, ps, zs⟩ : MxX) ⟨⟨h, HM.out.pl, HM.out.zl, fun t ht => by
      have := HM.out.val t ht;rw [this];show (if t < k then _ else _) = if t < k + 1 then _ else _;by_cases e : t < k
      · rw [if_pos e, if_pos (by omega)]
      · rw [if_neg e];by_cases e2 : t = k
        · rw [if_pos (by omega), e2]; unfold mi; rw [if_pos h2]
        · rw [if_neg (by omega)]⟩, by show n - (k + 1) < n - k; omega⟩
   · have h02 : ¬ (k : Int) < (j : Int) := by omega
     refine eW ?_;refine ae ?_;refine dO ?_;refine ae ?_;refine rW [] ?_;refine dW ?_;refine dW ?_;refine eW ?_;refine ae ?_;refine rW [] ?_;refine dW ?_;refine dW ?_;refine dB false ?_;refine eW ?_;refine ae ?_;refine jj (L := L) (xs := vs) (b := bv) (o := ov) k (by simp) (by rw [HN.out.1]; exact h) fun pv => ?_;refine jj (L := L) (xs := us) (b := bu) (o := ou) k (by simp) (by rw [HN.out.2]; exact h) fun pu => ?_;refine bX ?_;refine ae ?_;refine rW [] ?_;refine dW ?_;refine dW ?_;refine dW ?_;refine dW ?_;refine dW ?_;refine dW ?_;refine dW ?_;refine dW ?_;refine dW ?_;refine dW ?_;refine dW ?_;refine dW ?_;refine cN (x := y * gi us k) (fun w' H => il (av py) (av pu) y (gi us k) L L w' (H.all (.at L (av py) y) (by simp [av])) (H.all (.at L (av pu) (gi us k)) (by simp [av])) (by omega)) fun p1 => ?_;refine cN (x := x * gi vs k + y * gi us k) (fun w' H => by
      have a1 : aw w' L (av py) y := H.all (.at L (av py) y) (by simp [av]);have a2 : aw w' L (av pu) (gi us k) := H.all (.at L (av pu) (gi us k)) (by simp [av]);have hw1 : ag (y * gi us k).natAbs <= 17592186044415 := by rw [Int.natAbs_mul]; have := cK y.natAbs (gi us k).natAbs; have := a1.ag; have := a2.ag; omega
      exact iC (av px) (av pv) (av p1) x (gi vs k) (y * gi us k) L L w' (H.all (.at L (av px) x) (by simp [av])) (H.all (.at L (av pv) (gi vs k)) (by simp [av])) (ak.int (H.all (.own w.heap.size (av p1) (y * gi us k)) (by simp [av])) hw1) (by omega)) fun p2 => ?_
     refine fj (e := .ns (ps.set k p2) (zs.set k (x * gi vs k + y * gi us k))) (fun w' H => bg.set (H.all (.ns ps zs) (by simp)) k (H.all (.own w.heap.size (av p2) (x * gi vs k + y * gi us k)) (by simp [av]) : ak ..).num) ?_;refine dW ?_;refine sN k p2 (by rw [show ps.length = n from HM.out.pl]; exact h) aP.nil rfl ?_;by_cases h3 : j < k
     · have h03 : (j : Int) < (k : Int) := by omega
       refine eW ?_;refine ae ?_;refine rW [] ?_;refine dW ?_;refine dW ?_;refine dB true ?_;have q1 := ot [] (ps := ps.set k p2) (i := k) (by rw [List.length_set, show ps.length = n from HM.out.pl]; exact h);have q2 := pG [] (ps := ps.set k p2) (i := k) (by rw [List.length_set, show ps.length = n from HM.out.pl]; exact h);rw [show gp (ps.set k p2) k = p2 by rw [ft (by rw [List.length_set, show ps.length = n from HM.out.pl]; exact h)]; simp] at q1 q2;refine eW ?_;refine ae ?_;refine dO ?_;refine ae ?_;refine rW [] ?_;refine dW ?_;refine dW ?_;refine dW ?_;refine dW ?_;refine dW ?_;refine dW ?_;refine dW ?_;refine dW ?_;refine dW ?_;refine dW ?_;refine sq (x := (x * gi vs k + y * gi us k) % d) (z := .int .i64 0) (fun w' H => by
        have a1 : aw w' L (av py) y := H.all (.at L (av py) y) (by simp [av]);have a2 : aw w' L (av pu) (gi us k) := H.all (.at L (av pu) (gi us k)) (by simp [av]);have a3 : aw w' L (av px) x := H.all (.at L (av px) x) (by simp [av]);have a4 : aw w' L (av pv) (gi vs k) := H.all (.at L (av pv) (gi vs k)) (by simp [av]);have hw1 : ag (y * gi us k).natAbs <= L + L := by rw [Int.natAbs_mul]; have := cK y.natAbs (gi us k).natAbs; have := a1.ag; have := a2.ag; omega
        have hw2 : ag (x * gi vs k).natAbs <= L + L := by rw [Int.natAbs_mul]; have := cK x.natAbs (gi vs k).natAbs; have := a3.ag; have := a4.ag; omega
        have hw3 : ag (x * gi vs k + y * gi us k).natAbs <= 17592186044415 := by
         have e1 := Int.natAbs_add_le (x * gi vs k) (y * gi us k);have b1 := aT (x * gi vs k).natAbs;have b2 := aT (y * gi us k).natAbs;have d1 := Nat.pow_le_pow_right (show 0 < W by unfold W; omega) hw2;have d2 := Nat.pow_le_pow_right (show 0 < W by unfold W; omega) hw1;have hlt : (x * gi vs k).natAbs + (y * gi us k).natAbs < W ^ (L + L + 1) := by
          rw [Nat.pow_succ];have : 2 <= W := by unfold W; omega
          have := Nat.mul_le_mul_left (W ^ (L + L)) this;omega
         exact Nat.le_trans (aH e1) (Nat.le_trans (an hlt) (by omega))
        exact qN (av p2) (av pd) _ d w' (ak.int (H.all (.own w.heap.size (av p2) (x * gi vs k + y * gi us k)) (by simp [av])) hw3) ((H.all (.at L (av pd) d) (by simp [av]) : aw ..).mono (by omega)) hd) fun p3 => ?_
       refine fj (e := .ns ((ps.set k p2).set k p3) ((zs.set k (x * gi vs k + y * gi us k)).set k ((x * gi vs k + y * gi us k) % d))) (fun w' H => bg.set (H.all (.ns (ps.set k p2) (zs.set k (x * gi vs k + y * gi us k))) (by simp)) k (H.all (.own w.heap.size (av p3) ((x * gi vs k + y * gi us k) % d)) (by simp [av]) : ak ..).num) ?_;refine dW ?_;refine dW ?_;refine dW ?_;refine dW ?_;refine sN (ps := ps.set k p2) k p3 (by rw [List.length_set, show ps.length = n from HM.out.pl]; exact h) aP.nil rfl ?_;refine eW ?_;refine ae ?_;refine rW [] ?_;refine dE (cd (a := k) (by omega)) ?_;refine dW ?_;refine eW ?_;refine ae ?_;exact bh (⟨k + 1, ps.set k p3, zs.set k ((x * gi vs k + y * gi us k) % d)⟩ : MxX) ⟨HM.out.next h (by rw [List.length_set]; exact HM.out.pl) (by unfold mi; rw [if_neg h2, if_neg (by omega)]), by show n - (k + 1) < n - k; omega⟩ (he := by
        intro w' h';rw [List.set_set, List.set_set] at h';exact h'.pick (by repeat (first | exact Pk.n | refine Pk.c (by repeat (first | exact Rm.z | apply Rm.s)) ?_)))
     · have h03 : ¬ (j : Int) < (k : Int) := by omega
       refine eW ?_;refine ae ?_;refine rW [] ?_;refine dW ?_;refine dW ?_;refine dB false ?_;refine eW ?_;refine ae ?_;refine bX ?_;refine ae ?_;refine rW [] ?_;refine dE (cd (a := k) (by omega)) ?_;refine dW ?_;refine eW ?_;refine ae ?_;exact bh (⟨k + 1, ps.set k p2, zs.set k (x * gi vs k + y * gi us k)⟩ : MxX) ⟨HM.out.next h (by rw [List.length_set]; exact HM.out.pl) (by unfold mi; rw [if_neg h2, if_pos (by omega)]), by show n - (k + 1) < n - k; omega⟩
 · obtain rfl : n = k := by omega
   have hE : zs = gJ n j x vs y us d := by
    refine List.ext_getElem (by rw [ep]; exact HM.out.zl) fun t h1 h2 => ?_;have ht : t < n := by rw [ep] at h2; exact h2
    have := HM.out.val t ht;rw [if_pos (show t < n from ht), bV h1] at this;rw [this, <- kF ht, bV h2]
   have HE := Lib.hid hE;clear hE;refine ae ?_;refine rW [] ?_;refine dB false ?_;refine eW ?_;refine ae ?_;refine bX ?_;refine ae ?_;refine rW [] ?_;refine dW ?_;refine dW ?_;refine eW ?_;refine ae ?_;refine cQ fun w' H => ?_;refine ⟨_, cX, (g, ps), rfl, H.below, fun e he => ?_, ?_⟩
   · simp only [List.mem_cons, List.mem_nil_iff, or_false] at he;rcases he with rfl | rfl | rfl
     · exact ⟨H.m0, fun b hb => (H.own _ (List.mem_cons_self ..) rfl b hb).elim (fun h => h.elim) id⟩
     · exact ⟨by rw [<- HE.out]; exact H.all (.ns ps zs) (by simp), fun _ h => h.elim⟩
     · exact ⟨HM.out.pl, fun _ h => h.elim⟩
   · refine .cons (fun x hx => ?_) (.cons (fun x hx => ?_) (List.pairwise_singleton ..))
     · simp only [List.mem_cons, List.mem_nil_iff, or_false] at hx;rcases hx with rfl | rfl
       · exact ⟨fun _ _ _ h => h, fun q => nomatch q⟩
       · exact ⟨fun _ _ _ h => h, fun q => nomatch q⟩
     · rcases List.mem_singleton.1 hx with rfl;exact ⟨(fun q => nomatch q), (fun q => nomatch q)⟩
end Go.Proofs.Ytjjlmfmoihooiaa
namespace Go.Proofs.Ytjjlmfmoihooiaa
def Gp (n k : Nat) (E : Mx) (v u : Nat -> Int) : Prop := ∃ (x : Nat -> Int) (c : Int), (∀ t < k, x t = 0) /\ ∀ i, u i = sm n (fun t => x t * E t i) + c * v i
structure Cl (P : (Nat -> Int) -> Prop) : Prop where
 zero : P fun _ => 0
 add : ∀ u w, P u -> P w -> P fun i => u i + w i
 smul : ∀ c u, P u -> P fun i => c * u i
theorem Cl.sm {P : (Nat -> Int) -> Prop} (h : Cl P) (x : Nat -> Int) (F : Mx) : ∀ m, (∀ t < m, x t ≠ 0 -> P (F t)) -> P fun i => sm m fun t => x t * F t i
 | 0, _ => h.zero
 | m + 1, hF => by
  have h1 := Cl.sm h x F m fun t ht => hF t (by omega);by_cases hx : x m = 0
  · have e : (fun i => Go.Proofs.Ytjjlmfmoihooiaa.sm (m + 1) fun t => x t * F t i) = fun i => Go.Proofs.Ytjjlmfmoihooiaa.sm m fun t => x t * F t i := by funext i; rw [Go.Proofs.Ytjjlmfmoihooiaa.sm]; simp [hx]
    rw [e]; exact h1
  · exact h.add _ _ h1 (h.smul _ _ (hF m (by omega) hx))
theorem Gp.cl (n k : Nat) (E : Mx) (v : Nat -> Int) : Cl (Gp n k E v) :=
 ⟨⟨fun _ => 0, 0, fun _ _ => rfl, fun i => by rw [bf fun t _ => Int.zero_mul _]; simp⟩,
  fun u w ⟨x, c, h1, h2⟩ ⟨y, e, h3, h4⟩ => ⟨fun t => x t + y t, c + e, fun t ht => by show x t + y t = 0; rw [h1 t ht, h3 t ht]; rfl, fun i => by
   show u i + w i = _;rw [h2, h4, show (fun t => (x t + y t) * E t i) = fun t => x t * E t i + y t * E t i from by funext t; rw [Int.add_mul], fy, Int.add_mul]; omega⟩,
  fun a u ⟨x, c, h1, h2⟩ => ⟨fun t => a * x t, a * c, fun t ht => by show a * x t = 0; rw [h1 t ht, Int.mul_zero], fun i => by
   show a * u i = _;rw [h2, show (fun t => a * x t * E t i) = fun t => a * (x t * E t i) from by funext t; rw [Int.mul_assoc], bC, Int.mul_add, Int.mul_assoc]⟩⟩
theorem Gp.row {n k t : Nat} {E : Mx} {v : Nat -> Int} (ht : t < n) (hk : k <= t) : Gp n k E v (E t) :=
 ⟨fun s => if s = t then 1 else 0, 0, fun s hs => if_neg (by omega), fun i => by
  rw [dv t ht fun s _ h => by show (if s = t then (1 : Int) else 0) * _ = 0; rw [if_neg h, Int.zero_mul]];show _ = (if t = t then (1 : Int) else 0) * _ + _;rw [if_pos rfl]; simp⟩
theorem Gp.vec {n k : Nat} {E : Mx} {v : Nat -> Int} : Gp n k E v v :=
 ⟨fun _ => 0, 1, fun _ _ => rfl, fun i => by rw [bf fun t _ => Int.zero_mul _]; simp⟩
theorem Gp.least {P : (Nat -> Int) -> Prop} (h : Cl P) {n k : Nat} {E : Mx} {v u : Nat -> Int} (hu : Gp n k E v u) (hE : ∀ t < n, k <= t -> P (E t)) (hv : P v) : P u := by
 obtain ⟨x, c, h1, h2⟩ := hu;have e : u = fun i => Go.Proofs.Ytjjlmfmoihooiaa.sm n (fun t => x t * E t i) + c * v i := funext h2;rw [e];refine h.add _ _ (h.sm x E n fun t ht hx => hE t ht ?_) (h.smul c v hv);rcases Nat.lt_or_ge t k with h3 | h3
 · exact absurd (h1 t h3) hx
 · exact h3
theorem Cl.sub {P : (Nat -> Int) -> Prop} (h : Cl P) {u w : Nat -> Int} (hu : P u) (hw : P w) : P fun i => u i - w i := by
 have := h.add _ _ hu (h.smul (-1) w hw);have e : (fun i => u i + -1 * w i) = fun i => u i - w i := by funext i; omega
 rw [e] at this; exact this
def eD (d : Int) (i : Nat) : Nat -> Int := fun k => if k = i then d else 0
theorem Cl.tY {P : (Nat -> Int) -> Prop} (h : Cl P) {d : Int} {n j : Nat} (hd : ∀ i < n, j <= i -> P (eD d i)) {u c : Nat -> Int} (h1 : ∀ i, j <= i -> i < n -> u i = d * c i) (h2 : ∀ i, i < j ∨ n <= i -> u i = 0) : P u := by
 have e : u = fun k => Go.Proofs.Ytjjlmfmoihooiaa.sm n fun i => (if j <= i then c i else 0) * eD d i k := by
  funext k;by_cases hk : j <= k /\ k < n
  · rw [dv k hk.2 fun t _ ht => by show (if j <= t then c t else 0) * (if k = t then d else 0) = 0; rw [if_neg (c := k = t) (fun e => ht e.symm), Int.mul_zero]];show u k = (if j <= k then c k else 0) * (if k = k then d else 0);rw [if_pos hk.1, if_pos rfl, h1 k hk.1 hk.2, Int.mul_comm]
  · rw [h2 k (by omega)];refine (bf fun t ht => ?_).symm;show (if j <= t then c t else 0) * (if k = t then d else 0) = 0;by_cases e : k = t
    · subst e; rw [if_neg (by omega), Int.zero_mul]
    · rw [if_neg e, Int.mul_zero]
 rw [e];exact h.sm _ _ n fun t ht hx => hd t ht (by
  rcases Nat.lt_or_ge t j with h3 | h3
  · exact absurd (if_neg (by omega)) hx
  · exact h3)
theorem Gp.mono {n k k' : Nat} {E : Mx} {v u : Nat -> Int} (h : Gp n k E (fun _ => 0) u) (hk : k' <= k) : Gp n k' E v u :=
 h.least (Gp.cl n k' E v) (fun t ht h1 => Gp.row ht (by omega)) (Gp.cl n k' E v).zero
theorem Gp.other {n k j : Nat} {E : Mx} {R v u : Nat -> Int} (h : Gp n (j + 1) E (fun _ => 0) u) (hk : k <= j) : Gp n k (bG E j R) v u :=
 h.least (Gp.cl n k _ v) (fun t ht h1 => by
  have := Gp.row (n := n) (k := k) (E := bG E j R) (v := v) ht (by omega)
  rwa [aK E (by omega)] at this) (Gp.cl n k _ v).zero
section
variable {n j k : Nat} {d : Int} {E : Mx} {v u : Nat -> Int}
theorem yJ {x y p q : Int} {R V D D' : Nat -> Int} (hj : j < n) (hk : k <= j) (hpq : p * x + q * y = 1) (hR : ∀ i, R i = x * E j i + y * v i - D i) (hV : ∀ i, V i = p * v i - q * E j i - D' i)
 (hD : Gp n (j + 1) E (fun _ => 0) D) (hD' : Gp n (j + 1) E (fun _ => 0) D') : Gp n k E v u ↔ Gp n k (bG E j R) V u := by
 have c1 := Gp.cl n k E v;have c2 := Gp.cl n k (bG E j R) V;have r1 : Gp n k E v (E j) := Gp.row hj hk;have r2 : Gp n k (bG E j R) V R := by
  have := Gp.row (n := n) (k := k) (E := bG E j R) (v := V) hj hk
  rwa [bA] at this
 constructor
 · intro h;refine h.least c2 (fun t ht h1 => ?_) ?_
   · by_cases e : t = j
     · subst e;have h2 := c2.add _ _ (c2.sub (c2.smul p _ r2) (c2.smul y _ Gp.vec)) (c2.sub (c2.smul p _ (hD.other hk)) (c2.smul y _ (hD'.other hk)));have e : (fun i => p * R i - y * V i + (p * D i - y * D' i)) = E t := by
        funext i;rw [hR, hV];have : p * (x * E t i + y * v i - D i) - y * (p * v i - q * E t i - D' i) + (p * D i - y * D' i) = (p * x + q * y) * E t i := by
         rw [Int.mul_sub, Int.mul_add, Int.mul_sub, Int.mul_sub, Int.add_mul, <- Int.mul_assoc, <- Int.mul_assoc, <- Int.mul_assoc, <- Int.mul_assoc, Int.mul_comm y p, Int.mul_comm y q]; omega
        rw [this, hpq, Int.one_mul]
       rw [e] at h2; exact h2
     · have := Gp.row (n := n) (k := k) (E := bG E j R) (v := V) ht h1
       rwa [aK E e] at this
   · have h2 := c2.add _ _ (c2.add _ _ (c2.smul q _ r2) (c2.smul x _ Gp.vec)) (c2.add _ _ (c2.smul q _ (hD.other hk)) (c2.smul x _ (hD'.other hk)));have e : (fun i => q * R i + x * V i + (q * D i + x * D' i)) = v := by
      funext i;rw [hR, hV];have : q * (x * E j i + y * v i - D i) + x * (p * v i - q * E j i - D' i) + (q * D i + x * D' i) = (p * x + q * y) * v i := by
       rw [Int.mul_sub, Int.mul_add, Int.mul_sub, Int.mul_sub, Int.add_mul, <- Int.mul_assoc, <- Int.mul_assoc, <- Int.mul_assoc, <- Int.mul_assoc, Int.mul_comm x p, Int.mul_comm x q]; omega
      rw [this, hpq, Int.one_mul]
     rw [e] at h2; exact h2
 · intro h;refine h.least c1 (fun t ht h1 => ?_) ?_
   · by_cases e : t = j
     · subst e;rw [bA];have h2 := c1.sub (c1.add _ _ (c1.smul x _ r1) (c1.smul y _ Gp.vec)) (hD.mono (Nat.le_succ_of_le hk) (v := v));have e : (fun i => x * E t i + y * v i - D i) = R := (funext hR).symm;rw [e] at h2; exact h2
     · rw [aK E e]; exact Gp.row ht h1
   · have h2 := c1.sub (c1.sub (c1.smul p _ Gp.vec) (c1.smul q _ r1)) (hD'.mono (Nat.le_succ_of_le hk) (v := v));have e : (fun i => p * v i - q * E j i - D' i) = V := (funext hV).symm;rw [e] at h2; exact h2
theorem nV {c : Int} {V : Nat -> Int} (hk : k <= j) (hV : ∀ i, V i = v i - c * eD d j i) (hd : Gp n j E (fun _ => 0) (eD d j)) : Gp n k E v u ↔ Gp n k E V u := by
 have c1 := Gp.cl n k E v;have c2 := Gp.cl n k E V;constructor
 · intro h;refine h.least c2 (fun t ht h1 => Gp.row ht h1) ?_;have h2 := c2.add _ _ Gp.vec (c2.smul c _ (hd.mono hk (v := V)));have e : (fun i => V i + c * eD d j i) = v := by funext i; rw [hV]; omega
   rw [e] at h2; exact h2
 · intro h;refine h.least c1 (fun t ht h1 => Gp.row ht h1) ?_;have h2 := c1.sub Gp.vec (c1.smul c _ (hd.mono hk (v := v)));have e : (fun i => v i - c * eD d j i) = V := (funext hV).symm;rw [e] at h2; exact h2
end
structure Tri (n : Nat) (d : Int) (E : Mx) : Prop where
 low : ∀ t < n, ∀ i < t, E t i = 0
 pos : ∀ t < n, 0 < E t t /\ E t t <= d
 red : ∀ t < n, ∀ i, t < i -> 0 <= E t i /\ E t i < d
structure fG (n : Nat) (d : Int) (E0 : Mx) (v0 : Nat -> Int) (j : Nat) (E : Mx) (v : Nat -> Int) : Prop where
 tri : Tri n d E
 vz : ∀ i < j, v i = 0
 fb : ∀ u, Gp n 0 E0 v0 u ↔ Gp n 0 E v u
 dk : ∀ i < n, j <= i -> Gp n i E (fun _ => 0) (eD d i)
 dk' : ∀ i < n, i < j -> Gp n i E v (eD d i)
section
variable {n j : Nat} {d : Int} {E0 E : Mx} {v0 v : Nat -> Int}
theorem fG.skip {V : Nat -> Int} (h : fG n d E0 v0 j E v) (hj : j < n) (hV : ∀ i, V i = if i = j then v j % d else v i) (h0 : v j % d = 0) : fG n d E0 v0 (j + 1) E V := by
 have hd := h.dk j hj (Nat.le_refl _);have e : ∀ i, V i = v i - v j / d * eD d j i := fun i => by
  rw [hV]; unfold eD;by_cases q : i = j
  · subst q; rw [if_pos rfl, if_pos rfl];have := Int.ediv_mul_add_emod (v i) d; omega
  · rw [if_neg q, if_neg q, Int.mul_zero, Int.sub_zero]
 refine ⟨h.tri, fun i hi => ?_, fun u => (h.fb u).trans (nV (Nat.zero_le _) e hd), fun i hi h1 => h.dk i hi (by omega), fun i hi h1 => ?_⟩
 · rw [hV];by_cases q : i = j
   · rw [if_pos q]; exact h0
   · rw [if_neg q]; exact h.vz i (by omega)
 · by_cases q : i = j
   · subst q; exact hd.mono (Nat.le_refl _)
   · exact (nV (k := i) (by omega) e hd).1 (h.dk' i hi (by omega))
theorem fG.mod {V : Nat -> Int} (h : fG n d E0 v0 j E v) (hj : j < n) (hV : ∀ i, V i = if i = j then v j % d else v i) : fG n d E0 v0 j E V := by
 have hd := h.dk j hj (Nat.le_refl _);have e : ∀ i, V i = v i - v j / d * eD d j i := fun i => by
  rw [hV]; unfold eD;by_cases q : i = j
  · subst q; rw [if_pos rfl, if_pos rfl];have := Int.ediv_mul_add_emod (v i) d; omega
  · rw [if_neg q, if_neg q, Int.mul_zero, Int.sub_zero]
 refine ⟨h.tri, fun i hi => ?_, fun u => (h.fb u).trans (nV (Nat.zero_le _) e hd), h.dk, fun i hi h1 => (nV (k := i) (by omega) e hd).1 (h.dk' i hi h1)⟩;rw [hV, if_neg (by omega)]; exact h.vz i hi
theorem fG.mix {g x y p q : Int} {R V : Nat -> Int} (h : fG n d E0 v0 j E v) (hj : j < n) (hd0 : 0 < d) (hvn : ∀ i, n <= i -> v i = 0) (hEn : ∀ i, n <= i -> E j i = 0) (hb : 0 < v j) (hE : ec (E j j) (v j) g x y) (hp : E j j = g * p) (hq : v j = g * q)
 (hR : ∀ i, R i = if i < j ∨ n <= i then 0 else if i = j then x * E j i + y * v i else (x * E j i + y * v i) % d) (hV : ∀ i, V i = if i < j ∨ n <= i then 0 else if i = j then p * v i - q * E j i else (p * v i - q * E j i) % d) :
 fG n d E0 v0 (j + 1) (bG E j R) V := by
 have ha := h.tri.pos j hj;unfold ec at hE;rw [if_neg (by omega)] at hE;obtain ⟨hg, hx0, hx1, hab⟩ := hE;have hg0 : 0 < g := by
  rcases Int.lt_trichotomy g 0 with h1 | h1 | h1
  · rw [hg] at h1; omega
  · rw [h1, Int.zero_mul] at hp; omega
  · exact h1
 have hpq : p * x + q * y = 1 := by
  have : g * (p * x + q * y) = g * 1 := by rw [Int.mul_add, <- Int.mul_assoc, <- Int.mul_assoc, <- hp, <- hq, hab, Int.mul_one]
  exact Int.eq_of_mul_eq_mul_left (by omega) this
 have hmul : ∀ f : Nat -> Int, Gp n (j + 1) E (fun _ => 0) fun i => if i < j + 1 ∨ n <= i then 0 else d * (f i / d) := fun f =>
  (Gp.cl n (j + 1) E _).tY (d := d) (n := n) (j := j + 1) (c := fun i => f i / d) (fun i hi h1 => (h.dk i hi (by omega)).least (Gp.cl n (j + 1) E _) (fun t ht h2 => Gp.row ht (by omega)) (Gp.cl n (j + 1) E _).zero)
   (fun i h1 h2 => if_neg (by omega)) (fun i h1 => if_pos h1)
 have eR : ∀ i, R i = x * E j i + y * v i - (fun i => if i < j + 1 ∨ n <= i then 0 else d * ((x * E j i + y * v i) / d)) i := fun i => by
  show R i = _ - (if i < j + 1 ∨ n <= i then 0 else d * ((x * E j i + y * v i) / d));rw [hR];by_cases h1 : i < j
  · rw [if_pos (.inl h1), if_pos (.inl (by omega)), h.tri.low j hj i h1, h.vz i h1]; simp
  · by_cases h2 : n <= i
    · rw [if_pos (.inr h2), if_pos (.inr h2), hEn i h2, hvn i h2]; simp
    · rw [if_neg (by omega)];by_cases h3 : i = j
      · rw [if_pos h3, if_pos (.inl (by omega))]; omega
      · rw [if_neg h3, if_neg (by omega)]; have := Int.mul_ediv_add_emod (x * E j i + y * v i) d; omega
 have eV : ∀ i, V i = p * v i - q * E j i - (fun i => if i < j + 1 ∨ n <= i then 0 else d * ((p * v i - q * E j i) / d)) i := fun i => by
  show V i = _ - (if i < j + 1 ∨ n <= i then 0 else d * ((p * v i - q * E j i) / d));rw [hV];by_cases h1 : i < j
  · rw [if_pos (.inl h1), if_pos (.inl (by omega)), h.tri.low j hj i h1, h.vz i h1]; simp
  · by_cases h2 : n <= i
    · rw [if_pos (.inr h2), if_pos (.inr h2), hEn i h2, hvn i h2]; simp
    · rw [if_neg (by omega)];by_cases h3 : i = j
      · rw [if_pos h3, if_pos (.inl (by omega))]; omega
      · rw [if_neg h3, if_neg (by omega)]; have := Int.mul_ediv_add_emod (p * v i - q * E j i) d; omega
 have key : ∀ k, k <= j -> ∀ u, Gp n k E v u ↔ Gp n k (bG E j R) V u := fun k hk u => yJ hj hk hpq eR eV (hmul _) (hmul _);have hRj : R j = g := by rw [hR, if_neg (by omega), if_pos rfl, Int.mul_comm x, Int.mul_comm y]; exact hab
 have hVj : V j = 0 := by
  rw [hV, if_neg (by omega), if_pos rfl, hq, hp, <- Int.mul_assoc, <- Int.mul_assoc, Int.mul_comm p g, Int.mul_comm q g, Int.mul_right_comm]; omega
 have hgd : g <= d := by
  have : g <= E j j := Int.le_of_dvd ha.1 ⟨p, hp⟩;omega
 refine ⟨⟨fun t ht i hi => ?_, fun t ht => ?_, fun t ht i hi => ?_⟩, fun i hi => ?_, fun u => (h.fb u).trans (key 0 (Nat.zero_le _) u), fun i hi h1 => ?_, fun i hi h1 => ?_⟩
 · by_cases e : t = j
   · subst e; rw [bA, hR, if_pos (.inl hi)]
   · rw [aK E e]; exact h.tri.low t ht i hi
 · by_cases e : t = j
   · subst e; rw [bA, hRj]; exact ⟨hg0, hgd⟩
   · rw [aK E e]; exact h.tri.pos t ht
 · by_cases e : t = j
   · subst e; rw [bA, hR];by_cases h1 : i < t ∨ n <= i
     · rw [if_pos h1]; exact ⟨Int.le_refl _, hd0⟩
     · rw [if_neg h1, if_neg (by omega)]; exact ⟨Int.emod_nonneg _ (by omega), Int.emod_lt_of_pos _ hd0⟩
   · rw [aK E e]; exact h.tri.red t ht i hi
 · by_cases e : i = j
   · rw [e]; exact hVj
   · rw [hV, if_pos (.inl (by omega))]
 · refine (h.dk i hi (by omega)).least (Gp.cl n i _ _) (fun t ht h2 => ?_) (Gp.cl n i _ _).zero;have := Gp.row (n := n) (k := i) (E := bG E j R) (v := fun _ => 0) ht h2
   rwa [aK E (by omega)] at this
 · by_cases e : i = j
   · subst e;exact (key i (Nat.le_refl _) _).1 ((h.dk i hi (Nat.le_refl _)).mono (Nat.le_refl _))
   · exact (key i (by omega) _).1 (h.dk' i hi (by omega))
theorem fG.done (h : fG n d E0 v0 n E v) (hvn : ∀ i, n <= i -> v i = 0) : Tri n d E /\ (∀ u, Gp n 0 E0 v0 u ↔ Gp n 0 E (fun _ => 0) u) /\ ∀ i < n, Gp n i E (fun _ => 0) (eD d i) := by
 have hv : v = fun _ => 0 := by
  funext i;rcases Nat.lt_or_ge i n with h1 | h1
  · exact h.vz i h1
  · exact hvn i h1
 have h1 := h.fb;have h2 := h.dk';rw [hv] at h1 h2;exact ⟨h.tri, h1, fun i hi => h2 i hi hi⟩
end
def LD (r : Nat) (A : Mx) (d : Int) (n : Nat) (u : Nat -> Int) : Prop := ∃ x z : Nat -> Int, ∀ i, u i = sm r (fun t => x t * A t i) + if i < n then d * z i else 0
theorem LD.cl (r : Nat) (A : Mx) (d : Int) (n : Nat) : Cl (LD r A d n) :=
 ⟨⟨fun _ => 0, fun _ => 0, fun i => by rw [bf fun t _ => Int.zero_mul _]; simp⟩,
  fun u w ⟨x, z, h1⟩ ⟨y, e, h2⟩ => ⟨fun t => x t + y t, fun i => z i + e i, fun i => by
   show u i + w i = _;rw [h1, h2, show (fun t => (x t + y t) * A t i) = fun t => x t * A t i + y t * A t i from by funext t; rw [Int.add_mul], fy];split
   · rw [Int.mul_add]; omega
   · omega⟩,
  fun c u ⟨x, z, h1⟩ => ⟨fun t => c * x t, fun i => c * z i, fun i => by
   show c * u i = _;rw [h1, show (fun t => c * x t * A t i) = fun t => c * (x t * A t i) from by funext t; rw [Int.mul_assoc], bC, Int.mul_add];split
   · rw [Int.mul_left_comm]
   · rw [Int.mul_zero]⟩⟩
theorem LD.row {r t : Nat} {A : Mx} {d : Int} {n : Nat} (h : t < r) : LD r A d n (A t) :=
 ⟨fun s => if s = t then 1 else 0, fun _ => 0, fun i => by
  rw [dv t h fun s _ h => by show (if s = t then (1 : Int) else 0) * _ = 0; rw [if_neg h, Int.zero_mul]];show _ = (if t = t then (1 : Int) else 0) * _ + _;rw [if_pos rfl]; simp⟩
theorem LD.eD {r i : Nat} {A : Mx} {d : Int} {n : Nat} (h : i < n) : LD r A d n (eD d i) :=
 ⟨fun _ => 0, fun k => if k = i then 1 else 0, fun k => by
  rw [bf fun t _ => Int.zero_mul _];unfold Go.Proofs.Ytjjlmfmoihooiaa.eD;by_cases e : k = i
  · subst e; rw [if_pos rfl, if_pos h]; show d = 0 + d * (if k = k then 1 else 0); rw [if_pos rfl]; omega
  · rw [if_neg e]; simp [e]⟩
theorem LD.least {P : (Nat -> Int) -> Prop} (h : Cl P) {r n : Nat} {A : Mx} {d : Int} {u : Nat -> Int} (hu : LD r A d n u) (hA : ∀ t < r, P (A t)) (hd : ∀ i < n, P (Go.Proofs.Ytjjlmfmoihooiaa.eD d i)) : P u := by
 obtain ⟨x, z, h1⟩ := hu;have e : u = fun i => Go.Proofs.Ytjjlmfmoihooiaa.sm r (fun t => x t * A t i) + if i < n then d * z i else 0 := funext h1;rw [e];exact h.add _ _ (h.sm x A r fun t ht _ => hA t ht) (h.tY (d := d) (n := n) (j := 0) (c := z) (fun i hi _ => hd i hi) (fun i _ hi => if_pos hi) (fun i hi => if_neg (by omega)))
structure lu (n : Nat) (d : Int) (A : Mx) (i : Nat) (E : Mx) : Prop where
 tri : Tri n d E
 dk : ∀ k < n, Gp n k E (fun _ => 0) (eD d k)
 lat : ∀ u, Gp n 0 E (fun _ => 0) u ↔ LD i A d n u
theorem lu.start {n : Nat} {d : Int} (hd : 0 < d) (A : Mx) {E : Mx} (hE : ∀ t < n, ∀ i, E t i = if i = t then d else 0) : lu n d A 0 E := by
 have hr : ∀ t, t < n -> E t = eD d t := fun t ht => funext fun i => hE t ht i;refine ⟨⟨fun t ht i hi => by rw [hE t ht, if_neg (by omega)], fun t ht => by rw [hE t ht, if_pos rfl]; omega, fun t ht i hi => by rw [hE t ht, if_neg (by omega)]; omega⟩, fun k hk => ?_, fun u => ⟨fun h => ?_, fun h => ?_⟩⟩
 · have := Gp.row (n := n) (k := k) (E := E) (v := fun _ => 0) hk (Nat.le_refl _)
   rwa [hr k hk] at this
 · exact h.least (LD.cl ..) (fun t ht _ => by rw [hr t ht]; exact LD.eD ht) (LD.cl ..).zero
 · exact h.least (Gp.cl ..) (fun t ht => by omega) fun i hi => by
    have := Gp.row (n := n) (k := 0) (E := E) (v := fun _ => 0) hi (Nat.zero_le _)
    rwa [hr i hi] at this
theorem lu.open {n i : Nat} {d : Int} {A E : Mx} (h : lu n d A i E) : fG n d E (A i) 0 E (A i) :=
 ⟨h.tri, fun i hi => by omega, fun u => Iff.rfl, fun i hi _ => h.dk i hi, fun i hi h1 => by omega⟩
theorem lu.next {n i : Nat} {d : Int} {A E E' : Mx} {v : Nat -> Int} (h : lu n d A i E) (hp : fG n d E (A i) n E' v) (hvn : ∀ q, n <= q -> v q = 0) : lu n d A (i + 1) E' := by
 obtain ⟨h1, h2, h3⟩ := hp.done hvn;refine ⟨h1, h3, fun u => (h2 u).symm.trans ⟨fun hu => ?_, fun hu => ?_⟩⟩
 · refine hu.least (LD.cl ..) (fun t ht _ => ?_) (LD.row (by omega));have := (h.lat (E t)).1 (Gp.row ht (Nat.zero_le _));exact this.least (LD.cl ..) (fun s hs => LD.row (by omega)) fun q hq => LD.eD hq
 · refine hu.least (Gp.cl ..) (fun t ht => ?_) fun q hq => (h.dk q hq).mono (Nat.zero_le _);by_cases e : t = i
   · subst e; exact Gp.vec
   · exact ((h.lat (A t)).2 (LD.row (by omega))).mono (Nat.zero_le _)
structure lN (n : Nat) (d : Int) (r : Nat) (A : Mx) (i j : Nat) (E : Mx) : Prop where
 low : ∀ t < n, ∀ k < t, E t k = 0
 pos : ∀ t < n, 0 < E t t /\ E t t <= d
 up : ∀ t < i, ∀ k, t < k -> 0 <= E t k /\ E t k < d
 dn : ∀ t < n, i < t -> ∀ k < n, t < k -> 0 <= E t k /\ E t k < E k k
 out : ∀ t < n, ∀ k, n <= k -> E t k = 0
 at_ : i < n -> ∀ k, i < k -> k < j -> k < n -> 0 <= E i k /\ E i k < E k k
 lat : ∀ u, Gp n 0 E (fun _ => 0) u ↔ LD r A d n u
theorem lN.start {n r : Nat} {d : Int} {A E : Mx} (h : lu n d A r E) (hd : 0 < d) (ho : ∀ t < n, ∀ k, n <= k -> E t k = 0) : lN n d r A n n E :=
 ⟨h.tri.low, h.tri.pos, fun t ht k hk => h.tri.red t ht k hk, fun t ht h1 => by omega, ho, fun h1 => by omega, h.lat⟩
section
variable {n r i j : Nat} {d : Int} {A E : Mx}
theorem lN.above (h : lN n d r A (i + 1) n E) (hi : i < n) : lN n d r A i (i + 1) E := by
 refine ⟨h.low, h.pos, fun t ht k hk => h.up t (by omega) k hk, fun t ht h1 k hk h2 => ?_, h.out, fun _ k h1 h2 => by omega, h.lat⟩;by_cases e : t = i + 1
 · subst e; exact h.at_ ht k h2 hk hk
 · exact h.dn t ht (by omega) k hk h2
theorem lN.skip (h : lN n d r A i j E) (hi : i < n) (hj : j < n) (hij : i < j) (h0 : (E i j).fdiv (E j j) = 0) : lN n d r A i (j + 1) E := by
 refine ⟨h.low, h.pos, h.up, h.dn, h.out, fun hi k h1 h2 h3 => ?_, h.lat⟩;by_cases e : k = j
 · subst e;have hp := h.pos k hj;have h4 := Int.mul_fdiv_add_fmod (E i k) (E k k);rw [h0, Int.mul_zero, Int.zero_add] at h4;have h5 := Int.fmod_nonneg_of_pos (E i k) hp.1;have h6 := Int.fmod_lt_of_pos (E i k) hp.1;omega
 · exact h.at_ hi k h1 (by omega) h3
theorem lN.sub {q : Int} {R : Nat -> Int} (h : lN n d r A i j E) (hi : i < n) (hj : j < n) (hij : i < j) (hq : q = (E i j).fdiv (E j j)) (hR : ∀ k, R k = if k < j ∨ n <= k then E i k else E i k - q * E j k) : lN n d r A i (j + 1) (bG E i R) := by
 have hR' : ∀ k, R k = E i k - q * E j k := fun k => by
  rw [hR];by_cases h1 : k < j
  · rw [if_pos (.inl h1), h.low j hj k h1]; simp
  · by_cases h2 : n <= k
    · rw [if_pos (.inr h2), h.out j hj k h2]; simp
    · rw [if_neg (by omega)]
 have hdiag : ∀ t < n, bG E i R t t = E t t := fun t ht => by
  by_cases e : t = i
  · subst e; rw [bA, hR, if_pos (.inl hij)]
  · rw [aK E e]
 have key : ∀ u, Gp n 0 E (fun _ => 0) u ↔ Gp n 0 (bG E i R) (fun _ => 0) u := fun u => by
  have c1 := Gp.cl n 0 E fun _ => 0;have c2 := Gp.cl n 0 (bG E i R) fun _ => 0;have r0 : ∀ t < n, t ≠ i -> Gp n 0 (bG E i R) (fun _ => 0) (E t) := fun t ht e => by
   have := Gp.row (n := n) (k := 0) (E := bG E i R) (v := fun _ => 0) ht (Nat.zero_le _)
   rwa [aK E e] at this
  constructor
  · intro hu;refine hu.least c2 (fun t ht _ => ?_) c2.zero;by_cases e : t = i
    · subst e;have h1 := Gp.row (n := n) (k := 0) (E := bG E t R) (v := fun _ => 0) ht (Nat.zero_le _);rw [bA] at h1;have h2 := c2.add _ _ h1 (c2.smul q _ (r0 j hj (by omega)));have e : (fun k => R k + q * E j k) = E t := by funext k; rw [hR']; omega
      rw [e] at h2; exact h2
    · exact r0 t ht e
  · intro hu;refine hu.least c1 (fun t ht _ => ?_) c1.zero;by_cases e : t = i
    · subst e;rw [bA];have h2 := c1.sub (Gp.row (n := n) (k := 0) (E := E) (v := fun _ => 0) ht (Nat.zero_le _)) (c1.smul q _ (Gp.row (n := n) (k := 0) (E := E) (v := fun _ => 0) hj (Nat.zero_le _)));have e : (fun k => E t k - q * E j k) = R := by funext k; rw [hR']
      rw [e] at h2; exact h2
    · rw [aK E e]; exact Gp.row ht (Nat.zero_le _)
 refine ⟨fun t ht k hk => ?_, fun t ht => by rw [hdiag t ht]; exact h.pos t ht, fun t ht k hk => by rw [aK E (by omega)]; exact h.up t ht k hk, fun t ht h1 k hk h2 => by rw [aK E (by omega : t ≠ i), hdiag k hk]; exact h.dn t ht h1 k hk h2, fun t ht k hk => ?_, fun _ k h1 h2 h3 => ?_, fun u => (key u).symm.trans (h.lat u)⟩
 · by_cases e : t = i
   · subst e; rw [bA, hR, if_pos (.inl (by omega))]; exact h.low t ht k hk
   · rw [aK E e]; exact h.low t ht k hk
 · by_cases e : t = i
   · subst e; rw [bA, hR, if_pos (.inr hk)]; exact h.out t ht k hk
   · rw [aK E e]; exact h.out t ht k hk
 · rw [bA, hdiag k h3];by_cases e : k = j
   · subst e;have hp := h.pos k hj;have h4 := Int.mul_fdiv_add_fmod (E i k) (E k k);have h5 := Int.fmod_nonneg_of_pos (E i k) hp.1;have h6 := Int.fmod_lt_of_pos (E i k) hp.1;rw [hR', hq, Int.mul_comm]; omega
   · rw [hR, if_pos (.inl (by omega))]; exact h.at_ hi k h1 (by omega) h3
end
structure Md (n : Nat) (d : Int) (r : Nat) (A E : Mx) : Prop where
 herm : du n n E fun i => i
 lat : ∀ u, Gp n 0 E (fun _ => 0) u ↔ LD r A d n u
theorem lN.done {n r : Nat} {d : Int} {A E : Mx} (h : lN n d r A 0 n E) : Md n d r A E := by
 refine ⟨⟨⟨fun i k h1 _ => h1, fun i hi => hi, fun i hi j hj => h.low i hi j hj, fun i hi => (h.pos i hi).1⟩, fun i k h1 h2 => ?_⟩, h.lat⟩;rcases Nat.eq_zero_or_pos i with e | e
 · subst e; exact h.at_ (by omega) k h1 h2 h2
 · exact h.dn i (by omega) e k h2 h1
theorem Gp.sp {n : Nat} {E : Mx} {u : Nat -> Int} : Gp n 0 E (fun _ => 0) u ↔ Sp n E u := by
 constructor
 · rintro ⟨x, c, _, h⟩; exact ⟨x, fun j => by rw [h]; simp⟩
 · rintro ⟨x, h⟩; exact ⟨x, 0, fun t ht => by omega, fun i => by rw [h]; simp⟩
theorem Md.sp {n r : Nat} {d : Int} {A E : Mx} (h : Md n d r A E) (u : Nat -> Int) : Sp n E u ↔ LD r A d n u := Gp.sp.symm.trans (h.lat u)
theorem Md.unique {n r s : Nat} {d e : Int} {A B E F : Mx} (h : Md n d r A E) (k : Md n e s B F) (hL : ∀ u, LD r A d n u ↔ LD s B e n u) : ∀ t, t < n -> ∀ j, E t j = F t j :=
 (h.herm.unique k.herm ⟨fun t ht => (k.sp _).2 ((hL _).1 ((h.sp _).1 (Sp.row E ht))), fun t ht => (h.sp _).2 ((hL _).2 ((k.sp _).1 (Sp.row F ht)))⟩).2.2
theorem wG {n r : Nat} {d : Int} {A E : Mx} (hd : 0 < d) (h : Md n d r A E) (hA : ∀ t < r, ∀ i, d ∣ A t i) (hz : ∀ t < r, ∀ i, n <= i -> A t i = 0) : ∀ t, t < n -> ∀ j, E t j = if t = j then d else 0 := by
 obtain ⟨F, hF⟩ : ∃ F : Mx, ∀ t, F t = eD d t := ⟨fun t => eD d t, fun _ => rfl⟩;have hF' : ∀ t i, F t i = if i = t then d else 0 := fun t i => by rw [hF]; rfl
 have hM : Md n d 0 A F := by
  refine ⟨⟨⟨fun i k h1 _ => h1, fun i hi => hi, fun i hi j hj => by rw [hF', if_neg (by omega)], fun i hi => by rw [hF', if_pos rfl]; exact hd⟩, fun i k h1 h2 => by rw [hF', hF', if_neg (by omega), if_pos rfl]; omega⟩, (lu.start hd A fun t ht i => hF' t i).lat⟩
 intro t ht j;have := h.unique hM (fun u => ⟨fun hu => hu.least (LD.cl ..) (fun s hs => ?_) fun i hi => LD.eD hi, fun hu => hu.least (LD.cl ..) (fun s hs => by omega) fun i hi => LD.eD hi⟩) t ht j
 · rw [this, hF'];by_cases e : t = j
   · subst e; rfl
   · rw [if_neg e, if_neg (fun q => e q.symm)]
 · exact (LD.cl 0 A d n).tY (d := d) (n := n) (j := 0) (c := fun i => A s i / d) (fun i hi _ => LD.eD hi) (fun i _ _ => (Int.mul_ediv_cancel' (hA s hs i)).symm) (fun i hi => hz s hs i (by omega))
theorem vF {a e q x d : Int} {M D : Nat} (ha : a.natAbs <= M) (hx : x.natAbs <= M) (he : 0 <= e /\ e <= d) (hb : 0 < x ∨ x <= 0) (hq : q.natAbs <= x.natAbs) (hD : d.natAbs + 1 <= D) : (a - q * e).natAbs <= M * D := by
 have h1 : (a - q * e).natAbs <= a.natAbs + (q * e).natAbs := by omega
 have h2 : (q * e).natAbs <= M * d.natAbs := by
  rw [Int.natAbs_mul]; exact Nat.mul_le_mul (Nat.le_trans hq hx) (by omega)
 have h3 := Nat.mul_le_mul_left M hD;rw [Nat.mul_add, Nat.mul_one] at h3;omega
theorem mU {a b : Int} (hb : 0 < b) : (a.fdiv b).natAbs <= a.natAbs := by
 have h1 := Int.mul_fdiv_add_fmod a b;have h2 := Int.fmod_nonneg_of_pos a hb;have h3 := Int.fmod_lt_of_pos a hb;rcases Int.lt_or_le (a.fdiv b) 0 with h | h
 · have h4 : b * (a.fdiv b + 1) <= 1 * (a.fdiv b + 1) := Int.mul_le_mul_of_nonpos_right (by omega) (by omega);rw [Int.mul_add, Int.mul_one] at h4; omega
 · have h4 : 1 * a.fdiv b <= b * a.fdiv b := Int.mul_le_mul_of_nonneg_right (by omega) h;omega
end Go.Proofs.Ytjjlmfmoihooiaa
namespace Go.Proofs.Ytjjlmfmoihooiaa
open Go.RowKit
structure iq where
 ro : Option Addr
 rc : Nat
 gs : List Nat
 E : List (List Int)
 dp : P4
 d : Int
def nH (z : iq) : List Value := [.slice z.ro z.E.length z.rc, .bool z.dp.1, .slice z.dp.2.1 z.dp.2.2.1 z.dp.2.2.2]
abbrev wP (gB m : Nat) (z : iq) : List En := [.row gB 71 (nH z), .lg 22 1 z.ro z.E.length z.rc (hG m z.gs), .gM z.E.length z.gs z.E, .num (av z.dp) z.d]
def cT (gB m : Nat) (z : iq) (w : World) : Prop := (ah w gB 71 (nH z) /\ kv 22 1 z.ro z.E.length z.rc (hG m z.gs) w /\ wR z.E.length z.gs z.E w /\ aJ w (av z.dp) z.d) /\ z.gs.length = z.E.length /\ eI z.gs z.E.length
def cE (gB : Nat) (z : iq) (g : Nat) : Prop := g = gB ∨ (∃ o, z.ro = some ⟨g, o, none⟩) ∨ ∃ t, t < z.E.length /\ t ≠ z.E.length /\ g = z.gs.getD t 0
theorem cT.rows {gB m : Nat} {z : iq} {w : World} (h : cT gB m z w) {g : Nat} (hg : cE gB z g) : ∃ t cs, ah w g t cs /\ aP cs /\ t ≠ 51 := by
 obtain ⟨⟨h1, h2, h4, h5⟩, _⟩ := h;rcases hg with rfl | hg | ⟨t, ht, hx, rfl⟩
 · exact ⟨_, _, h1, aP.slice (aP.bool (aP.slice aP.nil)), by decide⟩
 · obtain ⟨tl, hn, hr⟩ := fa h2 hg;exact ⟨_, _, hr, (fx m z.gs).append hn, by decide⟩
 · obtain ⟨ps, tl, hn, hr, _⟩ := h4 t ht hx;exact ⟨_, _, hr, aP.rn hn, by decide⟩
theorem cT.wl {gB m : Nat} {z : iq} {w : World} (h : cT gB m z w) : Wl (cE gB z) w := fun _ hg => h.rows hg
theorem cT.iG {gB m : Nat} {z : iq} {w w' : World} {T : Nat -> Prop} (h : cT gB m z w) (hc : bZ T w w') (hT : Wl T w) (hs : ∀ b, cE gB z b -> ¬ T b) : cT gB m z w' := by
 obtain ⟨⟨h1, h2, h4, h5⟩, h6, h7⟩ := h;refine ⟨⟨hc.row h1 (hs _ (.inl rfl)), ?_, fun t ht hx => ?_, hc.num hT.bS h5⟩, h6, h7⟩
 · exact ⟨h2.1, h2.2.1, h2.2.2.imp id fun ⟨b, tl, e, hn, hr, hl⟩ => ⟨b, tl, e, hn, hc.row hr (hs _ (.inr (.inl ⟨0, e⟩))), hl⟩⟩
 · obtain ⟨ps, tl, hn, hr, h1', h2'⟩ := h4 t ht hx;exact ⟨ps, tl, hn, hc.row hr (hs _ (.inr (.inr ⟨t, ht, hx, rfl⟩))), h1', fun i a => hc.num hT.bS (h2' i a)⟩
abbrev En.jh (gB m : Nat) (z : iq) : En := .fact true true (cE gB z) (cT gB m z) (fun h g hg => by obtain ⟨t, cs, hr, _⟩ := h.rows hg; exact hr.lt) (fun h hc hT hs => h.iG hc (hT rfl) hs)
abbrev En.tP (gB m : Nat) (z : iq) (g : Nat) (ps : List P4) (tl : List Value) (xs : List Int) : En := .fact true true (fun b => cE gB z b ∨ b = g) (fun w => cT gB m z w /\ aP tl /\ ah w g 27 (rn ps tl) /\ bg w ps xs /\ ¬ cE gB z g)
 (fun h b hb => hb.elim (fun hb => by obtain ⟨t, cs, hr, _⟩ := h.1.rows hb; exact hr.lt) (fun e => e ▸ h.2.2.1.lt))
 (fun h hc hT hs => ⟨h.1.iG hc (hT rfl) (fun b hb => hs b (.inl hb)), h.2.1, hc.row h.2.2.1 (hs _ (.inr rfl)), ⟨h.2.2.2.1.1, fun i a => hc.num (hT rfl).bS (h.2.2.2.1.2 i a)⟩, h.2.2.2.2⟩)
theorem Fr.yy {S0 : Nat -> Prop} {w0 w : World} {es : List En} {gB m : Nat} {z : iq} (h : Fr S0 w0 w (.jh gB m z :: es)) : Fr S0 w0 w (wP gB m z ++ es) /\ z.gs.length = z.E.length /\ eI z.gs z.E.length := by
 obtain ⟨⟨h1, h2, h4, h5⟩, h6, h7⟩ := (h.m0 : cT gB m z w);have q12 : ∀ b, (∃ o, z.ro = some ⟨b, o, none⟩) -> b ≠ gB := fun b hb e => by
  obtain ⟨tl, _, hr⟩ := fa h2 hb; subst e; exact absurd rfl (hr.ne h1 (by decide))
 have q14 : ∀ b, (∃ t, t < z.E.length /\ t ≠ z.E.length /\ b = z.gs.getD t 0) -> b ≠ gB := fun b ⟨t, ht, hx, e'⟩ e => by
  obtain ⟨ps, tl, _, hr, _⟩ := h4 t ht hx; rw [<- e', e] at hr; exact absurd rfl (hr.ne h1 (by decide))
 have q24 : ∀ b, (∃ o, z.ro = some ⟨b, o, none⟩) -> ¬ ∃ t, t < z.E.length /\ t ≠ z.E.length /\ b = z.gs.getD t 0 := fun b hb ⟨t, ht, hx, e'⟩ => by
  obtain ⟨tl, _, hr⟩ := fa h2 hb; obtain ⟨ps, tl', _, hr', _⟩ := h4 t ht hx; rw [<- e'] at hr'; exact absurd rfl (hr.ne hr' (by decide))
 refine ⟨h.lv rfl (fun x hx => ?_) ?_, h6, h7⟩
 · simp only [wP, List.mem_cons, List.mem_nil_iff, or_false] at hx;rcases hx with rfl | rfl | rfl | rfl
   · exact ⟨h1, fun b e => .inl e⟩
   · exact ⟨h2, fun b e => .inr (.inl e)⟩
   · exact ⟨h4, fun b e => .inr (.inr e)⟩
   · exact ⟨h5, fun b e => e.elim⟩
 · refine .cons (fun x hx => ?_) (.cons (fun x hx => ?_) (.cons (fun x hx => ?_) (.cons (fun x hx => (List.not_mem_nil hx).elim) .nil)))
   · simp only [List.mem_cons, List.mem_nil_iff, or_false] at hx;rcases hx with rfl | rfl | rfl
     · exact ⟨fun _ b hb hb' => q12 b hb' hb, fun _ b hb' hb => q12 b hb' hb⟩
     · exact ⟨fun _ b hb hb' => q14 b hb' hb, fun _ b hb' hb => q14 b hb' hb⟩
     · exact ⟨fun _ _ _ h => h, fun q => nomatch q⟩
   · simp only [List.mem_cons, List.mem_nil_iff, or_false] at hx;rcases hx with rfl | rfl
     · exact ⟨fun _ b hb hb' => q24 b hb hb', fun _ b hb' hb => q24 b hb hb'⟩
     · exact ⟨fun _ _ _ h => h, fun q => nomatch q⟩
   · simp only [List.mem_cons, List.mem_nil_iff, or_false] at hx;rcases hx with rfl;exact ⟨fun _ _ _ h => h, fun q => nomatch q⟩
theorem Fr.basS {gB m : Nat} {z : iq} {w : World} (h : cT gB m z w) : Fr (cE gB z) w w [.jh gB m z] :=
 ⟨bZ.refl _ _, fun e he => by rcases List.mem_singleton.1 he with rfl; exact h, List.pairwise_singleton .., fun e he _ b hb => by rcases List.mem_singleton.1 he with rfl; exact .inl hb⟩
def jJ (n : Nat) (d : Int) (k : Nat) : List (List Int) := (List.range k).map fun i => (List.replicate n 0).set i d
theorem eH (n : Nat) (d : Int) (k : Nat) : (jJ n d k).length = k := by simp [jJ]
theorem vw (n : Nat) (d : Int) (k : Nat) : jJ n d (k + 1) = jJ n d k ++ [(List.replicate n 0).set k d] := by simp [jJ, List.range_succ]
theorem yS {n i : Nat} {d : Int} (hi : i < n) (j : Nat) : bw (jJ n d n) i j = if j = i then d else 0 := by
 unfold bw jJ;simp only [List.getD_eq_getElem?_getD, List.getElem?_map, List.getElem?_range hi, Option.map_some, Option.getD_some];rw [eY (by simpa using hi)];by_cases e : j = i
 · rw [if_pos e, if_pos e]
 · rw [if_neg e, if_neg e];by_cases h : j < n
   · rw [bV (by simpa using h)]; simp
   · exact er _ _ (by simp; omega)
structure MsX where
 k : Nat
 ro : Option Addr
 rc : Nat
 gs : List Nat
structure MsI (n : Nat) (x : MsX) : Prop where
 hk : x.k <= n
 hl : x.gs.length = x.k
 hi : eI x.gs x.k
set_option maxRecDepth 100000 in
set_option maxHeartbeats 4000000 in
theorem tZ (n : Nat) (d : Int) (pd : P4) (w : World) (hn : n <= 64) (hD : aw w 17592186044415 (av pd) d) :
 Calls Try.prog 29 #[.int .i64 (n : Int), av pd] w fun e w' => ∃ q : Nat × iq, e = .returned (.pointer (some ⟨q.1, 0, none⟩)) /\ Nw w w' [.jh q.1 n q.2] /\ q.2.E = jJ n ((d.natAbs : Nat) : Int) n /\ q.2.d = ((d.natAbs : Nat) : Int) := by
 refine aZ (S0 := fun _ => False) Try.func29 ((Fr.nil _ w).i hD) ?_;clear hD;obtain ⟨D, hDe⟩ : ∃ D : Int, ((d.natAbs : Nat) : Int) = D := ⟨_, rfl⟩;rw [hDe];have HD := Lib.hid hDe;clear hDe;refine ae ?_;refine rW [] ?_;refine aW fun g3 => ?_;refine dW ?_;refine eW ?_;refine ae ?_;refine rW [] ?_;refine dW ?_;refine cN (x := D) (fun w' H => by have := jQ (av pd) d w' (H.all (.at 17592186044415 (av pd) d) (by simp [av])); rw [HD.out] at this; exact this) fun p9 => ?_;refine dW ?_;refine aW fun g11 => ?_;refine dW ?_;refine eW ?_;refine ae ?_;refine rW [] ?_;refine dW ?_;refine dW ?_;refine eW ?_;refine ae ?_;refine wk (te := 22) (sz := 1) ?_;refine xO ?_;refine bF (X := MsX) (MsI n) (fun x => n - x.k) (fun x => [(13, .int .i64 (x.k : Int)), (12, .int .i64 (n : Int)), (5, .pointer (some ⟨g11, 0, none⟩)), (3, .pointer (some ⟨g3, 0, none⟩)), (0, .int .i64 (n : Int))])
  (fun x => [.row g11 71 [.slice x.ro x.k x.rc, .bool p9.1, .slice p9.2.1 p9.2.2.1 p9.2.2.2], .row g3 27 [.bool pd.1, .slice pd.2.1 pd.2.2.1 pd.2.2.2], .lg 22 1 x.ro x.k x.rc (hG n x.gs), .own w.heap.size (av p9) D, .at 17592186044415 (av pd) d, .gM x.k x.gs (jJ n D x.k)]) ⟨0, none, 0, []⟩ ⟨Nat.zero_le _, rfl, fun a b ha => absurd ha (Nat.not_lt_zero _)⟩ fun x hx => ?_
 obtain ⟨k, ro, rc, gs⟩ := x;have hk : k <= n := hx.hk;have HM : Hid (MsI n ⟨k, ro, rc, gs⟩) := Lib.hid hx;clear hx;by_cases h : k < n
 · have h01 : (k : Int) < (n : Int) := by omega
   refine ae ?_;refine rW [] ?_;refine dB true ?_;refine eW ?_;refine ae ?_;refine dO ?_;refine ae ?_;refine rW [] ?_;refine dW ?_;refine dW ?_;refine eW ?_;refine ae ?_;refine rW [] ?_;refine dW ?_;refine mN n n rfl rfl (Nat.le_refl _) (by omega) fun g => ?_;refine dW ?_;refine eW ?_;refine ae ?_;refine iZ (e := .ns (List.replicate n p0) (List.replicate n 0)) (fun w' _ => bg.qq w' n) ?_;refine rW [] ?_;refine dW ?_;refine dW ?_;refine dW ?_;refine cN (x := D) (fun w' H => by have := jQ (av pd) d w' (H.all (.at 17592186044415 (av pd) d) (by simp [av])); rw [HD.out] at this; exact this) fun p2 => ?_;refine fj (e := .ns ((List.replicate n p0).set k p2) ((List.replicate n 0).set k D)) (fun w' H => bg.set (H.all (.ns (List.replicate n p0) (List.replicate n 0)) (by simp)) k (H.all (.own w.heap.size (av p2) D) (by simp [av]) : ak ..).num) ?_;refine dW ?_;refine sN (ps := List.replicate n p0) k p2 (by simpa using h) aP.nil rfl ?_;refine eW ?_;refine ae ?_;refine sk (A := ∀ t, t < k -> gs.getD t 0 ≠ g) (fun w' h' => by
    have h2 : Fr _ w w' (.row g 27 (rn ((List.replicate n p0).set k p2) []) :: .ns ((List.replicate n p0).set k p2) ((List.replicate n 0).set k D) :: .gM k gs (jJ n D k) :: []) := h'.pick (by repeat (first | exact Pk.n | refine Pk.c (by repeat (first | exact Rm.z | apply Rm.s)) ?_));have h3 := (h2.nM (x' := k + 1) (by rw [eH]; exact HM.out.hl) (by rw [eH]; exact Nat.le_refl _) (by rw [eH]; omega) aP.nil).2;rw [eH] at h3; exact h3) fun hne => ?_
   have HN := Lib.hid hne;clear hne;refine rW [] ?_;refine dW ?_;refine dW ?_;refine dW ?_;refine dW ?_;refine dW ?_;refine dW ?_;refine bW (m := 1) fun g29 => ?_;refine xF (k := k) (cap := rc) (g := g29) (c := 1) (ao := ro) (cs := hG n gs) (v := .slice (some ⟨g, 0, none⟩) n n) Try.underlying69 uD rfl (nL (.slice none 0 0) rfl (fun n h => nomatch h)) (by omega) (by omega) rfl ⟨fx n gs, by decide⟩ (by simp) fun u => ?_;refine dW ?_;refine dW ?_;refine sW ?_;refine eW ?_;refine ae ?_;refine rW [] ?_;refine dE (cd (a := k) (by omega)) ?_;refine dW ?_;refine eW ?_;refine ae ?_;exact bh (⟨k + 1, u.1, u.2, gs ++ [g]⟩ : MsX) ⟨⟨h, by show (gs ++ [g]).length = k + 1; rw [List.length_append, show gs.length = k from HM.out.hl]; rfl, mT HM.out.hl HM.out.hi HN.out⟩, by show n - (k + 1) < n - k; omega⟩ (he := by
    intro w' h';rw [rN] at h';have h2 := h'.pick (es' := .row g 27 (rn ((List.replicate n p0).set k p2) []) :: .ns ((List.replicate n p0).set k p2) ((List.replicate n 0).set k D) :: .gM k gs (jJ n D k) :: [.row g11 71 [.slice u.1 (k + 1) u.2, .bool p9.1, .slice p9.2.1 p9.2.2.1 p9.2.2.2], .row g3 27 [.bool pd.1, .slice pd.2.1 pd.2.2.1 pd.2.2.2], .lg 22 1 u.1 (k + 1) u.2 (hG n (gs ++ [g])), .own w.heap.size (av p9) D, .at 17592186044415 (av pd) d]) (by repeat (first | exact Pk.n | refine Pk.c (by repeat (first | exact Rm.z | apply Rm.s)) ?_));have h3 := (h2.nM (x' := k + 1) (by rw [eH]; exact HM.out.hl) (by rw [eH]; exact Nat.le_refl _) (by rw [eH]; omega) aP.nil).1;rw [<- vw] at h3;exact h3.pick (by repeat (first | exact Pk.n | refine Pk.c (by repeat (first | exact Rm.z | apply Rm.s)) ?_)))
 · obtain rfl : n = k := by omega
   refine ae ?_;refine rW [] ?_;refine dB false ?_;refine eW ?_;refine ae ?_;refine bX ?_;refine ae ?_;refine rW [] ?_;refine dW ?_;refine dW ?_;refine eW ?_;refine ae ?_;refine cQ fun w' H => ?_;have hE : (jJ n D n).length = n := eH ..;have hF : cT g11 n ⟨ro, rc, gs, jJ n D n, p9, D⟩ w' := by
    refine ⟨⟨?_, ?_, ?_, ak.num (H.all (.own w.heap.size (av p9) D) (by simp [av]))⟩, by show gs.length = (jJ n D n).length; rw [hE]; exact HM.out.hl, by show eI gs (jJ n D n).length; rw [hE]; exact HM.out.hi⟩
    · show ah w' g11 _ [.slice ro (jJ n D n).length rc, _, _];rw [hE]; exact H.m0
    · show kv _ 1 ro (jJ n D n).length rc (hG n gs) w';rw [hE]; exact H.m2
    · show wR (jJ n D n).length gs _ w';rw [hE]; exact H.all (.gM n gs (jJ n D n)) (by simp)
   have hS : ∀ b, cE g11 ⟨ro, rc, gs, jJ n D n, p9, D⟩ b -> w.heap.size <= b := by
    rintro b (e | e | ⟨t, ht, _, e⟩)
    · exact (H.own (.row g11 71 [.slice ro n rc, .bool p9.1, .slice p9.2.1 p9.2.2.1 p9.2.2.2]) (by simp) rfl b e).elim (fun h => h.elim) id
    · exact (H.own (.lg 22 1 ro n rc (hG n gs)) (by simp) rfl b e).elim (fun h => h.elim) id
    · exact (H.own (.gM n gs (jJ n D n)) (by simp) rfl b ⟨t, ht, by have h : t < (jJ n D n).length := ht; omega, e⟩).elim (fun h => h.elim) id
   exact ⟨_, cX, (g11, ⟨ro, rc, gs, jJ n D n, p9, D⟩), rfl, ⟨H.below, fun e he => by rcases List.mem_singleton.1 he with rfl; exact ⟨hF, hS⟩, List.pairwise_singleton ..⟩, rfl, rfl⟩
theorem lY {w : World} {g L : Nat} {ps : List P4} {tl : List Value} {xs : List Int} (hr : ah w g 27 (rn ps tl)) (hns : bg w ps xs) (hb : ∀ x ∈ xs, ag x.natAbs <= L) : aI w L (some ⟨g, 0, none⟩) xs := fun _ =>
 ⟨g, 0, rfl, hr.lt, fun i hi => ⟨gp ps i, by rw [hr.cell, Nat.zero_add]; exact ot tl (by rw [hns.1]; exact hi), by rw [hr.cell, Nat.zero_add]; exact pG tl (by rw [hns.1]; exact hi), by
  have := (hns.2 i (by rw [hns.1]; exact hi)).int (L := L) (hb _ (cD hi)); rw [bV hi] at this; exact this⟩⟩
theorem sf {P : Program} {S0 : Nat -> Prop} {w0 : World} {n : Nat} {ls : List (Nat × Value)} {es : List En} {fn : Func} {R : Ending -> World -> Prop} (k : ∀ w, Fr S0 w0 w es -> R (.returned (.tuple #[])) w) (h : fn.results = #[] := by rfl) : QW n S0 w0 (bodyPost P fn R) .normal ls es := fun a w ha hw =>
 bodyPost_end (v := .tuple #[]) (by simp [results, h]) ha.df (k w hw)
section
variable {P : Program} {ops : Array Oper} {Q : Exit -> Act -> World -> Prop} {ds : List Deferred} {S0 : Nat -> Prop} {w0 : World} {E0 : List En} {hd : List (List Nat)} {n j s : Nat} {l : List Nat} {G E : List En} {ls : List (Nat × Value)} {op : Op} {ty : TypeId} {pos : String} {af : Array Edge} {f : FuncId} {args : Array Value}
theorem cN3 {x y z : Int} (c : ∀ w, Fr S0 w0 w (G ++ E) -> Calls P f args w fun e w' => (∃ v v' v'', e = .returned (.tuple #[v, v', v'']) /\ ak w' w.heap.size v x /\ ak w' w.heap.size v' y /\ ak w' w.heap.size v'' z) /\ Below w.heap.size w w')
 (k : ∀ p q r : P4, cW ds ⟨P, ops, Q, S0, w0, E0, hd⟩ n l (.own w0.heap.size (av p) x :: .own w0.heap.size (av q) y :: .own w0.heap.size (av r) z :: G) E ((s, .tuple #[.agg #[.bool p.1, .slice p.2.1 p.2.2.1 p.2.2.2], .agg #[.bool q.1, .slice q.2.1 q.2.2.1 q.2.2.2], .agg #[.bool r.1, .slice r.2.1 r.2.2.1 r.2.2.2]]) :: ls))
 (ho : ops[j]? = some ⟨some s, op, ty, pos, af, none⟩ := by rfl) (hk : (!bE op && !cO op && di ls op && Nat.blt s n) = true := by kernel_rfl)
 (hr : ∀ w, (execOp (cj ls) ⟨some s, op, ty, pos, af, none⟩).run P w = .ok (.enter f args) w := by intro w; (try simp only [av]); go_simp <;> with_reducible rfl)
 (hst : ew ops hd j [] = true := by kernel_rfl) : cW ds ⟨P, ops, Q, S0, w0, E0, hd⟩ n (j :: l) G E ls := by
 refine cG (α := P4 × P4 × P4) (mk := fun p => .tuple #[av p.1, av p.2.1, av p.2.2]) (ens := fun p => [.own w0.heap.size (av p.1) x, .own w0.heap.size (av p.2.1) y, .own w0.heap.size (av p.2.2) z]) (fun w hw => (c w hw).mono ?_) (fun p => k p.1 p.2.1 p.2.2) ho hk hr ⟨(p0, p0, p0)⟩ hst;rintro e w' ⟨⟨v, v', v'', rfl, hv, hv', hv''⟩, hb⟩;obtain ⟨b, ao, l', k', rfl⟩ := ak.parts hv;obtain ⟨b2, ao2, l2, k2, rfl⟩ := ak.parts hv';obtain ⟨b3, ao3, l3, k3, rfl⟩ := ak.parts hv'';exact ⟨((b, ao, l', k'), (b2, ao2, l2, k2), (b3, ao3, l3, k3)), rfl, hb, fun e he => by
  simp only [List.mem_cons, List.mem_nil_iff, or_false] at he;rcases he with rfl | rfl | rfl
  · exact ⟨ak.mono hv hw.size, fun _ h => h.elim⟩
  · exact ⟨ak.mono hv' hw.size, fun _ h => h.elim⟩
  · exact ⟨ak.mono hv'' hw.size, fun _ h => h.elim⟩, .cons (fun e he => by
    simp only [List.mem_cons, List.mem_nil_iff, or_false] at he;rcases he with rfl | rfl <;> exact ⟨(fun h => nomatch h), (fun h => nomatch h)⟩) (.cons (fun e he => by
    rcases List.mem_singleton.1 he with rfl;exact ⟨(fun h => nomatch h), (fun h => nomatch h)⟩) (List.pairwise_singleton ..))⟩
end
theorem yu (v u : Value) (a b : Int) (w : World) (hA : aw w 4398046511103 v a) (hB : aw w 4398046511103 u b) :
 Calls Try.prog 57 #[v, u] w fun e w' => (∃ vg vx vy, e = .returned (.tuple #[vg, vx, vy]) /\ ak w' w.heap.size vg (bU a b) /\ ak w' w.heap.size vx (ef a b) /\ ak w' w.heap.size vy (gL a b)) /\ Below w.heap.size w w' :=
 (yB v u a b w hA hB).mono fun e w' ⟨⟨g, x, y, vg, vx, vy, he, hE, h1, h2, h3⟩, hb⟩ => by
  obtain ⟨e1, e2, e3⟩ := hE.unique (j6 a b);subst e1 e2 e3;exact ⟨⟨vg, vx, vy, he, h1, h2, h3⟩, hb⟩
theorem uT {a b d : Int} (ha : 0 < a /\ a <= d) (hb : 0 < b /\ b < d) : 0 < bU a b /\ a = bU a b * (a / bU a b) /\ b = bU a b * (b / bU a b) /\ (bU a b).natAbs <= d.natAbs /\ (ef a b).natAbs <= d.natAbs /\ (gL a b).natAbs <= d.natAbs /\ (a / bU a b).natAbs <= d.natAbs /\ (b / bU a b).natAbs <= d.natAbs := by
 have h := j6 a b;unfold ec at h;rw [if_neg (by omega)] at h;obtain ⟨h1, h2, h3, h4⟩ := h
 revert h1 h2 h3 h4
 generalize bU a b = g;generalize ef a b = x;generalize gL a b = y;intro h1 h2 h3 h4;have hga : g ∣ a := by rw [h1]; exact Int.gcd_dvd_left ..
 have hgb : g ∣ b := by rw [h1]; exact Int.gcd_dvd_right ..
 have hg0 : 0 < g := by
  rcases Int.lt_trichotomy g 0 with h5 | h5 | h5
  · rw [h1] at h5; omega
  · rw [h5] at hga; have := Int.zero_dvd.1 hga; omega
  · exact h5
 have hgle : g <= b := Int.le_of_dvd hb.1 hgb;have hxb : x < b := by
  have : x * 1 <= x * g := Int.mul_le_mul_of_nonneg_left (by omega) h2;omega
 have hy : y <= 1 /\ -a <= y := by
  constructor
  · by_cases h5 : 1 < y
    · have h6 : b * 2 <= b * y := Int.mul_le_mul_of_nonneg_left (by omega) (by omega);have h7 : 0 <= a * x := Int.mul_nonneg (by omega) h2;omega
    · omega
  · by_cases h5 : y < -a
    · have h6 : b * y <= b * (-a - 1) := Int.mul_le_mul_of_nonneg_left (by omega) (by omega);have h7 : a * x <= a * (b - 1) := Int.mul_le_mul_of_nonneg_left (by omega) (by omega);rw [Int.mul_sub, Int.mul_neg, Int.mul_one] at h6;rw [Int.mul_sub, Int.mul_one, Int.mul_comm a b] at h7;omega
    · omega
 have ha2 : 0 <= a / g /\ a / g <= a := ⟨Int.ediv_nonneg (by omega) (by omega), Int.ediv_le_self _ (by omega)⟩;have hb2 : 0 <= b / g /\ b / g <= b := ⟨Int.ediv_nonneg (by omega) (by omega), Int.ediv_le_self _ (by omega)⟩;refine ⟨hg0, (Int.mul_ediv_cancel' hga).symm, (Int.mul_ediv_cancel' hgb).symm, by omega, by omega, by omega, by omega, by omega⟩
theorem Fr.rwoN {S0 : Nat -> Prop} {w0 w : World} {es : List En} {gs o : List Nat} {E : List (List Int)} {t g : Nat} {ps : List P4} {tl : List Value} {xs : List Int} (ht : t < E.length) (hl : gs.length = E.length) (hn : aP tl)
 (h : Fr S0 w0 w (.row g 27 (rn ps tl) :: .ns ps xs :: .dV (t :: o) gs E :: es)) (hto : t ∉ o) : Fr S0 w0 w (.dV o (gs.set t g) (E.set t xs) :: es) /\ ∀ s, s < E.length -> s ≠ t -> s ∉ o -> gs.getD s 0 ≠ g := by
 have hr : ah w g 27 (rn ps tl) := h.m0;have hns : bg w ps xs := h.m1;have hF : tB (t :: o) gs E w := h.m2;have hs := List.pairwise_cons.1 h.sep;have eg : ∀ s, (gs.set t g).getD s 0 = if s = t then g else gs.getD s 0 := fun s => cn (by omega);have eE : ∀ s, (E.set t xs).getD s [] = if s = t then xs else E.getD s [] := fun s => cn ht;refine ⟨Fr.si (X := [.row g 27 (rn ps tl), .ns ps xs, .dV (t :: o) gs E]) h (fun s hs hso => ?_) fun b ⟨s, hs, hso, e⟩ => ?_, fun s h1 h2 h3 e => ?_⟩
 · rw [List.length_set] at hs;rw [eg, eE];by_cases q : s = t
   · rw [if_pos q, if_pos q]; exact ⟨ps, tl, hn, hr, hns⟩
   · rw [if_neg q, if_neg q]; exact hF s hs (by simp [q, hso])
 · rw [List.length_set] at hs;rw [eg] at e;by_cases q : s = t
   · rw [if_pos q] at e; exact ⟨.row g 27 (rn ps tl), by simp, rfl, e⟩
   · rw [if_neg q] at e; exact ⟨.dV (t :: o) gs E, by simp, rfl, s, hs, by simp [q, hso], e⟩
 · exact (hs.1 (.dV (t :: o) gs E) (by simp)).1 rfl g rfl ⟨s, h1, by simp [h2, h3], e.symm⟩
theorem vc {gs : List Nat} {n t g : Nat} (hl : gs.length = n) (ht : t < n) (h : eI gs n) (hg : ∀ s, s < n -> s ≠ t -> gs.getD s 0 ≠ g) : eI (gs.set t g) n := fun a b ha hb e => by
 rw [cn (by omega), cn (by omega)] at e;by_cases h1 : a = t <;> by_cases h2 : b = t
 · omega
 · rw [if_pos h1, if_neg h2] at e; exact absurd e.symm (hg b hb h2)
 · rw [if_neg h1, if_pos h2] at e; exact absurd e (hg a ha h1)
 · rw [if_neg h1, if_neg h2] at e; exact h a b ha hb e
theorem nz {E : List (List Int)} {j : Nat} {R : List Int} (hj : j < E.length) : bw (E.set j R) = bG (bw E) j (gi R) := by
 funext t i;unfold bw bG;rw [cn hj];split <;> rfl
structure PuX where
 j : Nat
 gs : List Nat
 E : List (List Int)
 bv : Nat
 ps : List P4
 tl : List Value
 xs : List Int
structure vH (n B : Nat) (d : Int) (E0 : Mx) (v0 : Nat -> Int) (x : PuX) : Prop where
 hj : x.j <= n
 gl : x.gs.length = n
 gi_ : eI x.gs n
 El : x.E.length = n
 rl : ∀ t < n, (x.E.getD t []).length = n
 pl : x.ps.length = n
 xl : x.xs.length = n
 pu : fG n d E0 v0 x.j (bw x.E) (gi x.xs)
 wb : ∀ a ∈ x.xs, ag a.natAbs <= B
 nt : aP x.tl
theorem vH.eb {n B : Nat} {d : Int} {E0 : Mx} {v0 : Nat -> Int} {x : PuX} (h : vH n B d E0 v0 x) {t : Nat} (ht : t < n) : ∀ a ∈ x.E.getD t [], ag a.natAbs <= ag d.natAbs := fun a ha => by
 obtain ⟨i, hi, rfl⟩ := List.getElem_of_mem ha;rw [<- bV hi];refine aH ?_;have e : gi (x.E.getD t []) i = bw x.E t i := rfl;rw [e];have h1 := h.pu.tri.low t ht i;have h2 := h.pu.tri.pos t ht;have h3 := h.pu.tri.red t ht i;rcases Nat.lt_trichotomy i t with q | q | q
 · rw [h1 q]; simp
 · rw [q]; omega
 · have := h3 q; omega
theorem nK {x d : Int} (hd : 0 < d) : ag (x % d).natAbs <= ag d.natAbs := aH (by have := Int.emod_nonneg x (show d ≠ 0 by omega); have := Int.emod_lt_of_pos x hd; omega)
theorem jT {xs : List Int} {B j : Nat} {x : Int} (h : ∀ a ∈ xs, ag a.natAbs <= B) (hx : ag x.natAbs <= B) : ∀ a ∈ xs.set j x, ag a.natAbs <= B := fun a ha => by
 rcases List.mem_or_eq_of_mem_set ha with h1 | rfl
 · exact h a h1
 · exact hx
theorem vH.skip {n B j : Nat} {d : Int} {E0 : Mx} {v0 : Nat -> Int} {gs : List Nat} {E : List (List Int)} {bv : Nat} {ps ps' : List P4} {tl : List Value} {xs : List Int} (h : vH n B d E0 v0 ⟨j, gs, E, bv, ps, tl, xs⟩) (hj : j < n) (hd : 0 < d) (hdB : ag d.natAbs <= B) (hp : ps'.length = n) (h0 : gi xs j % d = 0) : vH n B d E0 v0 ⟨j + 1, gs, E, bv, ps', tl, xs.set j (gi xs j % d)⟩ := by
 have xl : xs.length = n := h.xl;refine ⟨hj, h.gl, h.gi_, h.El, h.rl, hp, by show (xs.set j _).length = n; rw [List.length_set]; exact xl, ?_, jT h.wb (Nat.le_trans (nK hd) hdB), h.nt⟩;exact h.pu.skip hj (fun i => eY (by omega) _) h0
theorem vH.mix {n B j : Nat} {d : Int} {E0 : Mx} {v0 : Nat -> Int} {gs : List Nat} {E : List (List Int)} {bv g1 g2 : Nat} {ps ps' : List P4} {tl : List Value} {xs : List Int} (h : vH n B d E0 v0 ⟨j, gs, E, bv, ps, tl, xs⟩) (hj : j < n) (hd : 0 < d) (hdB : ag d.natAbs <= B) (hp : ps'.length = n) (h0 : gi xs j % d ≠ 0)
 {a b : Int} {top xs1 : List Int} (ht : E.getD j [] = top) (ha : gi top j = a) (hb : gi xs j % d = b) (hx1 : xs.set j b = xs1) (hg : ∀ s, s < n -> s ≠ j -> gs.getD s 0 ≠ g1) :
 vH n B d E0 v0 ⟨j + 1, gs.set j g1, E.set j (gJ n j (ef a b) top (gL a b) xs1 d), g2, ps', [], gJ n j (a / bU a b) xs1 (-(b / bU a b)) top d⟩ := by
 have xl : xs.length = n := h.xl;have El : E.length = n := h.El;have gl : gs.length = n := h.gl;have x1l : xs1.length = n := by rw [<- hx1, List.length_set]; exact xl
 have hm := h.pu.mod (V := gi xs1) hj fun i => by rw [<- hx1, eY (by omega), hb]
 have hE : ∀ i, bw E j i = gi top i := fun i => by unfold bw; rw [ht]
 have hb1 : gi xs1 j = b := by rw [<- hx1, eY (by omega), if_pos rfl]
 have hb2 : 0 < b /\ b < d := by
  have := Int.emod_nonneg (gi xs j) (show d ≠ 0 by omega); have := Int.emod_lt_of_pos (gi xs j) hd; omega
 have ha2 : 0 < a /\ a <= d := by have := hm.tri.pos j hj; rw [hE, ha] at this; exact this
 obtain ⟨e0, e1, e2, _⟩ := uT ha2 hb2;have hout : ∀ l : List Int, l.length = n -> ∀ i, n <= i -> gi l i = 0 := fun l hl i hi => er _ _ (by omega);have htl : top.length = n := by rw [<- ht]; exact h.rl j hj
 have hmx := hm.mix (g := bU a b) (x := ef a b) (y := gL a b) (p := a / bU a b) (q := b / bU a b) (R := gi (gJ n j (ef a b) top (gL a b) xs1 d)) (V := gi (gJ n j (a / bU a b) xs1 (-(b / bU a b)) top d)) hj hd (hout _ x1l) (fun i hi => by rw [hE]; exact hout _ htl i hi) (by rw [hb1]; exact hb2.1) (by rw [hE, ha, hb1]; exact j6 a b) (by rw [hE, ha]; exact e1) (by rw [hb1]; exact e2)
  (fun i => by
   by_cases hi : i < n
   · rw [kF hi, hE]; unfold mi;by_cases q : i < j
     · rw [if_pos q, if_pos (.inl q)]
     · rw [if_neg q, if_neg (c := i < j ∨ n <= i) (by omega)]
   · rw [if_pos (.inr (by omega))]; exact hout _ (ep ..) i (by omega))
  (fun i => by
   by_cases hi : i < n
   · rw [kF hi, hE]; unfold mi;by_cases q : i < j
     · rw [if_pos q, if_pos (.inl q)]
     · rw [if_neg q, if_neg (c := i < j ∨ n <= i) (by omega), Int.neg_mul, <- Int.sub_eq_add_neg]
   · rw [if_pos (.inr (by omega))]; exact hout _ (ep ..) i (by omega))
 refine ⟨hj, by show (gs.set j g1).length = n; rw [List.length_set]; exact gl, vc gl hj h.gi_ hg, by show (E.set j _).length = n; rw [List.length_set]; exact El, fun t htn => ?_, hp, ep .., ?_, fun c hc => ?_, aP.nil⟩
 · show ((E.set j _).getD t []).length = n;rw [cn (by omega)];split
   · exact ep ..
   · exact h.rl t htn
 · show fG n d E0 v0 (j + 1) (bw (E.set j _)) _;rw [nz (by omega)]; exact hmx
 · obtain ⟨i, hi, rfl⟩ := List.getElem_of_mem hc;have hin : i < n := by rw [ep] at hi; exact hi
   rw [<- bV hi];show ag (gi (gJ n j _ _ _ _ d) i).natAbs <= B;by_cases q : i < j + 1
   · rw [hmx.vz i q]; simp [aN]
   · rw [kF hin]; unfold mi;rw [if_neg (by omega), if_neg (by omega)];exact Nat.le_trans (nK hd) hdB
theorem yz {c j g : Nat} {gs : List Nat} (h : j < gs.length) (tl : List Value) : (hG c gs ++ tl).set j (.slice (some ⟨g, 0, none⟩) c c) = hG c (gs.set j g) ++ tl := by
 rw [List.set_append_left _ _ (by rw [gC]; exact h)];congr 1;unfold hG;rw [List.map_set]
theorem cT.of {gB m n rb rc : Nat} {gs : List Nat} {E : List (List Int)} {dp : P4} {d : Int} {tl1 : List Value} {w : World} (El : E.length = n) (gl : gs.length = n) (hi : eI gs n) (ht1 : aP tl1) (hl1 : (hG m gs ++ tl1).length = rc * 1)
 (h1 : ah w gB 71 [.slice (some ⟨rb, 0, none⟩) n rc, .bool dp.1, .slice dp.2.1 dp.2.2.1 dp.2.2.2]) (h2 : ah w rb 22 (hG m gs ++ tl1)) (h4 : tB [] gs E w) (h5 : aJ w (av dp) d) :
 cT gB m ⟨some ⟨rb, 0, none⟩, rc, gs, E, dp, d⟩ w := by
 subst El;refine ⟨⟨h1, ⟨by rw [gC, gl, Nat.mul_one], ?_, .inr ⟨rb, tl1, rfl, ht1, h2, hl1⟩⟩, fun t ht _ => h4 t ht (by simp), h5⟩, gl, hi⟩;show E.length <= rc;rw [List.length_append, gC] at hl1; omega
theorem cE.of {gB rb rc : Nat} {gs : List Nat} {E : List (List Int)} {dp : P4} {d : Int} {S : Nat -> Prop} (h1 : S gB) (h2 : S rb) (h4 : ∀ t, t < E.length -> S (gs.getD t 0)) : ∀ g, cE gB ⟨some ⟨rb, 0, none⟩, rc, gs, E, dp, d⟩ g -> S g := by
 rintro g (rfl | ⟨o, e⟩ | ⟨t, ht, _, rfl⟩)
 · exact h1
 · cases e; exact h2
 · exact h4 t ht
def oG (n : Nat) (z z' : iq) (xs : List Int) : Prop := z'.d = z.d /\ z'.E.length = n /\ (∀ t < n, (z'.E.getD t []).length = n) /\ ∃ V : List Int, V.length = n /\ fG n z.d (bw z.E) (gi xs) n (bw z'.E) (gi V)
theorem Fr.tP {gB m : Nat} {z : iq} {g : Nat} {ps : List P4} {tl : List Value} {xs : List Int} {w : World} (h : (En.tP gB m z g ps tl xs).F w) : Fr (fun b => cE gB z b ∨ b = g) w w [.jh gB m z, .row g 27 (rn ps tl), .ns ps xs] := by
 have h0 : Fr (fun b => cE gB z b ∨ b = g) w w [.tP gB m z g ps tl xs] := ⟨bZ.refl _ _, fun e he => by rcases List.mem_singleton.1 he with rfl; exact h, List.pairwise_singleton .., fun e he _ b hb => by rcases List.mem_singleton.1 he with rfl; exact .inl hb⟩;obtain ⟨h1, _, h2, h3, h4⟩ := h;refine h0.lv (X := [.jh gB m z, .row g 27 (rn ps tl), .ns ps xs]) rfl (fun x hx => ?_) ?_
 · simp only [List.mem_cons, List.mem_nil_iff, or_false] at hx;rcases hx with rfl | rfl | rfl
   · exact ⟨h1, fun b e => .inl e⟩
   · exact ⟨h2, fun b e => .inr e⟩
   · exact ⟨h3, fun _ h => h.elim⟩
 · refine .cons (fun x hx => ?_) (.cons (fun x hx => ?_) (List.pairwise_singleton ..))
   · simp only [List.mem_cons, List.mem_nil_iff, or_false] at hx;rcases hx with rfl | rfl
     · exact ⟨fun _ b hb e => h4 (e ▸ hb), fun _ b e hb => h4 (e ▸ hb)⟩
     · exact ⟨fun _ _ _ h => h, fun q => nomatch q⟩
   · rcases List.mem_singleton.1 hx with rfl;exact ⟨fun _ _ _ h => h, fun q => nomatch q⟩
set_option maxRecDepth 100000 in
set_option maxHeartbeats 1000000 in
theorem yK (gB g : Nat) (z : iq) (ps : List P4) (tl : List Value) (xs : List Int) (w : World) (hz : z.E.length = 0) (hP : fG 0 z.d (bw z.E) (gi xs) 0 (bw z.E) (gi xs)) (hxl : xs.length = 0) (h : (En.tP gB 0 z g ps tl xs).F w) :
 Calls Try.prog 31 #[.pointer (some ⟨gB, 0, none⟩), .slice (some ⟨g, 0, none⟩) 0 0] w fun e w' => ∃ z', e = .returned (.tuple #[]) /\ bZ (fun b => cE gB z b ∨ b = g) w w' /\ cT gB 0 z' w' /\ (∀ b, cE gB z' b -> (cE gB z b ∨ b = g) ∨ w.heap.size <= b) /\ oG 0 z z' xs := by
 have HF : Hid (cT gB 0 z w) := Lib.hid h.1;have HR : Hid (oG 0 z z xs) := Lib.hid ⟨rfl, hz, fun t ht => absurd ht (Nat.not_lt_zero _), xs, hxl, hP⟩;have c0 : w.cell? ⟨gB, 0, none⟩ = some (.slice z.ro 0 z.rc) := by rw [h.1.1.1.cell]; show some (Value.slice z.ro z.E.length z.rc) = _; rw [hz]
 have HA : Fr (fun _ => False) w w [.cell ⟨gB, 0, none⟩ (.slice z.ro 0 z.rc)] := Fr.cl (Fr.nil _ w) c0 (by simp);obtain ⟨ro, rc, gs, E, dp, d⟩ := z;have HN := Lib.hid (fun (w' : World) (hb : Below w.heap.size w w') => show bZ (fun b => cE gB ⟨ro, rc, gs, E, dp, d⟩ b ∨ b = g) w w' /\ cT gB 0 ⟨ro, rc, gs, E, dp, d⟩ w' from ⟨bZ.cP hb, HF.out.iG (bZ.cP (S := fun _ => False) hb) (Wl.none _) fun _ _ h => h⟩);clear h hz hP hxl c0;refine aZ (S0 := fun _ => False) Try.func31 HA ?_;clear HA;refine ae ?_;refine rW [] ?_;refine dW ?_;refine dW ?_;refine dW ?_;refine dW ?_;refine dW ?_;refine dW ?_;refine eW ?_;refine ae ?_;refine bF (X := Unit) (fun _ => True) (fun _ => 0) (fun _ => [(18, .int .i64 0), (17, .int .i64 0)]) (fun _ => []) () trivial fun _ _ => ?_;refine ae ?_;refine rW [] ?_;refine dB false ?_;refine eW ?_;refine ae ?_;refine bX ?_;refine ae ?_;refine sf fun w' H => ?_;obtain ⟨h1, h2⟩ := HN.out w' H.below;exact ⟨_, rfl, h1, h2, fun b h => .inl (.inl h), HR.out⟩
set_option maxRecDepth 100000 in
set_option maxHeartbeats 8000000 in
theorem yP (gB n B g : Nat) (z : iq) (ps : List P4) (tl : List Value) (xs : List Int) (w : World) (hn0 : 0 < n) (hn : n <= 64) (hB : B <= 1000000000) (hz : z.E.length = n) (hrl : ∀ t < n, (z.E.getD t []).length = n) (hd : 0 < z.d) (hdB : ag z.d.natAbs <= B) (hxl : xs.length = n) (hxb : ∀ a ∈ xs, ag a.natAbs <= B) (hP : fG n z.d (bw z.E) (gi xs) 0 (bw z.E) (gi xs)) (h : (En.tP gB n z g ps tl xs).F w) :
 Calls Try.prog 31 #[.pointer (some ⟨gB, 0, none⟩), .slice (some ⟨g, 0, none⟩) n n] w fun e w' => ∃ z', e = .returned (.tuple #[]) /\ bZ (fun b => cE gB z b ∨ b = g) w w' /\ cT gB n z' w' /\ (∀ b, cE gB z' b -> (cE gB z b ∨ b = g) ∨ w.heap.size <= b) /\ oG n z z' xs := by
 have H0 := (Fr.tP h).yy;have hnt : aP tl := h.2.1;have hpl : ps.length = n := h.2.2.2.1.1.trans hxl;obtain ⟨ro, rc, gs, E, dp, d⟩ := z
 replace hz : E.length = n := hz
 obtain ⟨H0, h6, h7⟩ := H0
 replace h6 : gs.length = n := h6.trans hz
 replace h7 : eI gs n := by rw [<- hz]; exact h7
 obtain ⟨E0, hE0⟩ : ∃ E0, bw E = E0 := ⟨_, rfl⟩;obtain ⟨v0, hv0⟩ : ∃ v0, gi xs = v0 := ⟨_, rfl⟩;have hI : vH n B d E0 v0 ⟨0, gs, E, g, ps, tl, xs⟩ := ⟨Nat.zero_le _, h6, h7, hz, hrl, hpl, hxl, by rw [<- hE0, <- hv0]; exact hP, hxb, hnt⟩;have H1 : Fr (fun b => cE gB ⟨ro, rc, gs, E, dp, d⟩ b ∨ b = g) w w [.lg 22 1 ro n rc (hG n gs), .row g 27 (rn ps tl), .row gB 71 [.slice ro n rc, .bool dp.1, .slice dp.2.1 dp.2.2.1 dp.2.2.2], .ns ps xs, .num (av dp) d, .dV [] gs E] := by
  have H := H0;simp only [wP, nH, List.cons_append, List.nil_append] at H;rw [hz] at H;have H2 : Fr _ w w (.gM n gs E :: [.lg 22 1 ro n rc (hG n gs), .row g 27 (rn ps tl), .row gB 71 [.slice ro n rc, .bool dp.1, .slice dp.2.1 dp.2.2.1 dp.2.2.2], .ns ps xs, .num (av dp) d]) := H.pick (by repeat (first | exact Pk.n | refine Pk.c (by repeat (first | exact Rm.z | apply Rm.s)) ?_));exact (H2.yp (by omega)).pick (by repeat (first | exact Pk.n | refine Pk.c (by repeat (first | exact Rm.z | apply Rm.s)) ?_))
 have HD : Hid (0 < d /\ ag d.natAbs <= B) := Lib.hid ⟨hd, hdB⟩;have HI := Lib.hid hI;have HE := Lib.hid (And.intro hE0 hv0);have HL := Lib.hid h6;clear H0 h hz hrl hd hdB hxl hxb hP hnt hpl h6 h7 hI hE0 hv0;refine aZ (S0 := fun b => cE gB ⟨ro, rc, gs, E, dp, d⟩ b ∨ b = g) Try.func31 H1 ?_;clear H1;refine ae ?_;refine rO (by omega) fun rb tl1 e1 ht1 hl1 => ?_;subst e1;have HT := Lib.hid (And.intro ht1 hl1);clear ht1 hl1;refine rW [] ?_;refine dW ?_;refine dW ?_;refine dW ?_;refine dW ?_;refine dW ?_;refine dW ?_;refine eW ?_;refine ae ?_;refine bF (X := PuX) (vH n B d E0 v0) (fun x => n - x.j) (fun x => [(18, .int .i64 (x.j : Int)), (17, .int .i64 (n : Int)), (16, .slice (some ⟨rb, 0, none⟩) n rc), (1, .slice (some ⟨x.bv, 0, none⟩) n n), (0, .pointer (some ⟨gB, 0, none⟩))])
  (fun x => [.row x.bv 27 (rn x.ps x.tl), .row rb 22 (hG n x.gs ++ tl1), .row gB 71 [.slice (some ⟨rb, 0, none⟩) n rc, .bool dp.1, .slice dp.2.1 dp.2.2.1 dp.2.2.2], .ns x.ps x.xs, .num (av dp) d, .dV [] x.gs x.E]) ⟨0, gs, E, g, ps, tl, xs⟩ HI.out fun x hx => ?_
 obtain ⟨j, gs1, E1, bv, ps1, tlv, xs1⟩ := x;have HM : Hid (vH n B d E0 v0 ⟨j, gs1, E1, bv, ps1, tlv, xs1⟩) := Lib.hid hx;have hj : j <= n := hx.hj;clear hx;by_cases h : j < n
 · have h01 : (j : Int) < (n : Int) := by omega
   obtain ⟨bt, hbt⟩ : ∃ bt, gs1.getD j 0 = bt := ⟨_, rfl⟩;have k1 := kg (c := n) tl1 (by rw [show gs1.length = n from HM.out.gl]; exact h) hbt;have HG := Lib.hid hbt;clear hbt;have k2 := ot tlv (ps := ps1) (i := j) (by rw [show ps1.length = n from HM.out.pl]; exact h);have k3 := pG tlv (ps := ps1) (i := j) (by rw [show ps1.length = n from HM.out.pl]; exact h);obtain ⟨m, hm⟩ : ∃ m, gi xs1 j % d = m := ⟨_, rfl⟩;have Hm := Lib.hid hm;clear hm;refine ae ?_;refine rW [] ?_;refine dB true ?_;refine eW ?_;refine ae ?_;refine dO ?_;refine ae ?_;refine rW [] ?_;refine dW ?_;refine dW ?_;refine dW ?_;refine dW ?_;refine dW ?_;refine eW ?_;refine ae ?_;refine rW [] ?_;refine dW ?_;refine dW ?_;refine dW ?_;refine dW ?_;refine dW ?_;refine dW ?_;refine dW ?_;refine dW ?_;refine dW ?_;refine dW ?_;refine sq (x := m) (z := .int .i64 0) (fun w' H => by
    have := qN (av (gp ps1 j)) (av dp) (gi xs1 j) d w' (aJ.int ((H.all (.ns ps1 xs1) (by simp) : bg ..).2 j (by rw [show ps1.length = n from HM.out.pl]; exact h)) (Nat.le_trans (HM.out.wb _ (cD (by rw [show xs1.length = n from HM.out.xl]; exact h))) (by omega))) (aJ.int (H.all (.num (av dp) d) (by simp)) (Nat.le_trans HD.out.2 (by omega))) (by have := HD.out.1; omega);rw [Hm.out] at this; exact this) fun p3 => ?_
   obtain ⟨ps2, hps2⟩ : ∃ l, ps1.set j p3 = l := ⟨_, rfl⟩;obtain ⟨xs2, hxs2⟩ : ∃ l, xs1.set j m = l := ⟨_, rfl⟩;refine fj (e := .ns ps2 xs2) (fun w' H => by rw [<- hps2, <- hxs2]; exact bg.set (H.all (.ns ps1 xs1) (by simp)) j (H.all (.own w.heap.size (av p3) m) (by simp [av]) : ak ..).num) ?_;refine dW ?_;refine dW ?_;refine dW ?_;refine dW ?_;refine sN (ps := ps1) (ps' := ps2) j p3 (by rw [show ps1.length = n from HM.out.pl]; exact h) HM.out.nt hps2 ?_;refine eW ?_;refine ae ?_;have hpl2 : ps2.length = n := by rw [<- hps2, List.length_set]; exact HM.out.pl
   have hxl2 : xs2.length = n := by rw [<- hxs2, List.length_set]; exact HM.out.xl
   have hmj : gi xs2 j = m := by rw [<- hxs2, eY (by rw [show xs1.length = n from HM.out.xl]; exact h), if_pos rfl]
   have HX2 := Lib.hid (And.intro hps2 (And.intro hxs2 (And.intro hpl2 (And.intro hxl2 hmj))));clear hps2 hxs2 hpl2 hxl2 hmj k2 k3;have k2 := ot tlv (ps := ps2) (i := j) (by rw [HX2.out.2.2.1]; exact h);have k3 := pG tlv (ps := ps2) (i := j) (by rw [HX2.out.2.2.1]; exact h);refine iZ (e := .num (av (gp ps2 j)) m) (fun w' H => by have := (H.all (.ns ps2 xs2) (by simp) : bg ..).2 j (by rw [HX2.out.2.2.1]; exact h); rw [HX2.out.2.2.2.2] at this; exact this) ?_;refine rW [] ?_;refine dW ?_;refine dW ?_;refine dW ?_;refine dW ?_;refine cV (v := .int .i64 (bb m)) (fun w' H => dy (av (gp ps2 j)) m w' (aJ.int (H.all (.num (av (gp ps2 j)) m) (by simp)) (by rw [<- Hm.out]; exact Nat.le_trans (nK HD.out.1) (Nat.le_trans HD.out.2 (by omega))))) ?_;by_cases hz : m = 0
   · have hz1 := zs0 hz;refine dB true ?_;refine eW ?_;refine ae ?_;refine dO ?_;refine ae ?_;refine rW [] ?_;refine dE (cd (a := j) (by omega)) ?_;refine dW ?_;refine eW ?_;refine ae ?_;exact bh (⟨j + 1, gs1, E1, bv, ps2, tlv, xs2⟩ : PuX) ⟨by have := HM.out.skip (ps' := ps2) h HD.out.1 HD.out.2 HX2.out.2.2.1 (by rw [Hm.out]; exact hz); rw [Hm.out, HX2.out.2.1] at this; exact this, by show n - (j + 1) < n - j; omega⟩
   · have hz1 := zs1 hz;have Hz := Lib.hid hz;clear hz;refine dB false ?_;refine eW ?_;refine ae ?_;refine cZ (es' := [.dV [] gs1 E1, .row bv 27 (rn ps2 tlv), .row rb 22 (hG n gs1 ++ tl1), .row gB 71 [.slice (some ⟨rb, 0, none⟩) n rc, .bool dp.1, .slice dp.2.1 dp.2.2.1 dp.2.2.2], .num (av (gp ps2 j)) m, .ns ps2 xs2, .num (av dp) d]) ?_;refine sT j (by rw [show E1.length = n from HM.out.El]; exact h) (by simp) (by rw [show E1.length = n from HM.out.El]; exact HM.out.gi_) fun bt' psT tlT hbt htlT hpT => ?_;obtain rfl : bt = bt' := HG.out.symm.trans hbt;obtain ⟨top, htop⟩ : ∃ top, E1.getD j [] = top := ⟨_, rfl⟩;have htl : top.length = n := by rw [<- htop]; exact HM.out.rl j h
     have htb : ∀ a ∈ top, ag a.natAbs <= B := fun a ha => Nat.le_trans (HM.out.eb h a (by show a ∈ E1.getD j []; rw [htop]; exact ha)) HD.out.2;rw [htop] at hpT ⊢;rw [htl] at hpT;have k4 := ot tlT (ps := psT) (i := j) (by omega);have k5 := pG tlT (ps := psT) (i := j) (by omega);obtain ⟨a, ha⟩ : ∃ a, gi top j = a := ⟨_, rfl⟩;refine iZ (e := .num (av (gp psT j)) a) (fun w' H => by have := (H.all (.ns psT top) (by simp) : bg ..).2 j (by omega); rw [ha] at this; exact this) ?_;have hm2 : 0 < m /\ m < d := by have h1 := Hm.out; have h2 := Hz.out; have h3 := HD.out.1; have := Int.emod_nonneg (gi xs1 j) (show d ≠ 0 by omega); have := Int.emod_lt_of_pos (gi xs1 j) h3; omega
     have ha2 : 0 < a /\ a <= d := by have := HM.out.pu.tri.pos j h; unfold bw at this; rw [show E1.getD j [] = top from htop, ha] at this; exact this
     have hex := uT ha2 hm2;have hw : ∀ y : Int, y.natAbs <= d.natAbs -> ag y.natAbs <= B := fun y hy => Nat.le_trans (aH hy) HD.out.2;have hwa := hw a (by omega);have hwm := hw m (by omega);have HW := Lib.hid (And.intro hex.1 (And.intro hex.2.1 (And.intro hex.2.2.1 (And.intro (hw _ hex.2.2.2.1) (And.intro (hw _ hex.2.2.2.2.1) (And.intro (hw _ hex.2.2.2.2.2.1) (And.intro (hw _ hex.2.2.2.2.2.2.1) (hw _ hex.2.2.2.2.2.2.2))))))));have HTT := Lib.hid (And.intro htlT (And.intro hpT (And.intro htop (And.intro htl (And.intro htb ha)))));have HWW := Lib.hid (And.intro hwa hwm);clear hbt htlT hpT htop htl htb ha hm2 ha2 hex hw hwa hwm;obtain ⟨eg, heg⟩ : ∃ y, bU a m = y := ⟨_, rfl⟩;obtain ⟨ex, hex⟩ : ∃ y, ef a m = y := ⟨_, rfl⟩;obtain ⟨ey, hey⟩ : ∃ y, gL a m = y := ⟨_, rfl⟩;rw [heg, hex, hey] at HW;have HEX := Lib.hid (And.intro heg (And.intro hex hey));clear heg hex hey;refine cZ (es' := [.row bt 27 (rn psT tlT), .row bv 27 (rn ps2 tlv), .row rb 22 (hG n gs1 ++ tl1), .row gB 71 [.slice (some ⟨rb, 0, none⟩) n rc, .bool dp.1, .slice dp.2.1 dp.2.2.1 dp.2.2.2], .num (av (gp ps2 j)) m, .num (av (gp psT j)) a, .ns ps2 xs2, .ns psT top, .num (av dp) d, .dV [j] gs1 E1]) ?_;refine bX ?_;refine ae ?_;refine rW [] ?_;refine dW ?_;refine dW ?_;refine dW ?_;refine dW ?_;refine dW ?_;refine dW ?_;refine dW ?_;refine dW ?_;refine cN3 (x := eg) (y := ex) (z := ey) (fun w' H => by
      have := yu (av (gp psT j)) (av (gp ps2 j)) a m w' (aJ.int (H.all (.num (av (gp psT j)) a) (by simp)) (Nat.le_trans HWW.out.1 (by omega))) (aJ.int (H.all (.num (av (gp ps2 j)) m) (by simp)) (Nat.le_trans HWW.out.2 (by omega)));rw [HEX.out.1, HEX.out.2.1, HEX.out.2.2] at this; exact this) fun pg px py => ?_
     refine dW ?_;refine dW ?_;refine dW ?_;refine dW ?_;refine aW fun g6 => ?_;refine aW fun g7 => ?_;refine aW fun g8 => ?_;refine sG ?_;refine sG ?_;refine sG ?_;refine eW ?_;refine ae ?_;refine rW [] ?_;refine dW ?_;refine dW ?_;refine dW ?_;refine dW ?_;refine dW ?_;refine sq (x := a / eg) (z := .int .i64 0) (fun w' H => fh (av (gp psT j)) (av pg) a eg w' (aJ.int (H.all (.num (av (gp psT j)) a) (by simp)) (Nat.le_trans HWW.out.1 (by omega))) (ak.int (H.all (.own w.heap.size (av pg) eg) (by simp [av])) (Nat.le_trans HW.out.2.2.2.1 (by omega))) (by have := HW.out.1; omega) ⟨_, HW.out.2.1⟩) fun pp => ?_;refine dW ?_;refine dW ?_;refine dW ?_;refine aW fun g9 => ?_;refine sG ?_;refine dW ?_;refine eW ?_;refine ae ?_;refine rW [] ?_;refine dW ?_;refine dW ?_;refine dW ?_;refine dW ?_;refine dW ?_;refine sq (x := m / eg) (z := .int .i64 0) (fun w' H => fh (av (gp ps2 j)) (av pg) m eg w' (aJ.int (H.all (.num (av (gp ps2 j)) m) (by simp)) (Nat.le_trans HWW.out.2 (by omega))) (ak.int (H.all (.own w.heap.size (av pg) eg) (by simp [av])) (Nat.le_trans HW.out.2.2.2.1 (by omega))) (by have := HW.out.1; omega) ⟨_, HW.out.2.2.1⟩) fun pq => ?_;refine dW ?_;refine dW ?_;refine dW ?_;refine aW fun g11 => ?_;refine sG ?_;refine dW ?_;refine eW ?_;refine ae ?_;refine rW [] ?_;refine dW ?_;refine dW ?_;refine dW ?_;refine dW ?_;refine dW ?_;refine dW ?_;refine dW ?_;refine dW ?_;refine dW ?_;refine dW ?_;refine dW ?_;refine cG (α := Nat × List P4) (mk := fun p => .slice (some ⟨p.1, 0, none⟩) n n) (ens := fun p => [.row p.1 27 (rn p.2 []), .ns p.2 (gJ n j ex top ey xs2 d), .pr (p.2.length = n)]) (fun w' H => by
      have hr : ah w' gB 71 [.slice (some ⟨rb, 0, none⟩) n rc, .bool dp.1, .slice dp.2.1 dp.2.2.1 dp.2.2.2] := H.all (.row gB 71 [.slice (some ⟨rb, 0, none⟩) n rc, .bool dp.1, .slice dp.2.1 dp.2.2.1 dp.2.2.2]) (by simp);exact tS gB n j B ex ey d px py dp (some ⟨bt, 0, none⟩) (some ⟨bv, 0, none⟩) n n top xs2 w' hn h hB (by have := HD.out.1; omega) (ak.int (H.all (.own w.heap.size (av px) ex) (by simp [av])) HW.out.2.2.2.2.1) (ak.int (H.all (.own w.heap.size (av py) ey) (by simp [av])) HW.out.2.2.2.2.2.1) (aJ.int (H.all (.num (av dp) d) (by simp)) HD.out.2) (by rw [hr.cell]; rfl) (by rw [hr.cell]; rfl)
       (lY (H.all (.row bt 27 (rn psT tlT)) (by simp)) (H.all (.ns psT top) (by simp)) HTT.out.2.2.2.2.1) (lY (H.all (.row bv 27 (rn ps2 tlv)) (by simp)) (H.all (.ns ps2 xs2) (by simp)) (by rw [<- HX2.out.2.1]; exact jT HM.out.wb HWW.out.2)) HTT.out.2.2.2.1 HX2.out.2.2.2.1) fun q1 => ?_
     refine dW ?_;refine sW (b := rb) (k := j) (cs := hG n gs1 ++ tl1) (us := [.slice (some ⟨q1.1, 0, none⟩) n n]) (hU := rfl) (hu := ⟨(fx n gs1).append HT.out.1, by decide⟩) ?_;refine eW ?_;refine ae ?_;refine rW [] ?_;refine dW ?_;refine dW ?_;refine dW ?_;refine dW ?_;refine dW ?_;refine cN (x := -(m / eg)) (fun w' H => kb (av pq) (m / eg) w' (ak.int (H.all (.own w.heap.size (av pq) (m / eg)) (by simp [av])) (Nat.le_trans HW.out.2.2.2.2.2.2.2 (by omega)))) fun pn => ?_;refine dW ?_;refine cG (α := Nat × List P4) (mk := fun p => .slice (some ⟨p.1, 0, none⟩) n n) (ens := fun p => [.row p.1 27 (rn p.2 []), .ns p.2 (gJ n j (a / eg) xs2 (-(m / eg)) top d), .pr (p.2.length = n)]) (fun w' H => by
      have hr : ah w' gB 71 [.slice (some ⟨rb, 0, none⟩) n rc, .bool dp.1, .slice dp.2.1 dp.2.2.1 dp.2.2.2] := H.all (.row gB 71 [.slice (some ⟨rb, 0, none⟩) n rc, .bool dp.1, .slice dp.2.1 dp.2.2.1 dp.2.2.2]) (by simp);exact tS gB n j B (a / eg) (-(m / eg)) d pp pn dp (some ⟨bv, 0, none⟩) (some ⟨bt, 0, none⟩) n n xs2 top w' hn h hB (by have := HD.out.1; omega) (ak.int (H.all (.own w.heap.size (av pp) (a / eg)) (by simp [av])) HW.out.2.2.2.2.2.2.1) (ak.int (H.all (.own w.heap.size (av pn) (-(m / eg))) (by simp [av])) (by rw [Int.natAbs_neg]; exact HW.out.2.2.2.2.2.2.2)) (aJ.int (H.all (.num (av dp) d) (by simp)) HD.out.2) (by rw [hr.cell]; rfl) (by rw [hr.cell]; rfl)
       (lY (H.all (.row bv 27 (rn ps2 tlv)) (by simp)) (H.all (.ns ps2 xs2) (by simp)) (by rw [<- HX2.out.2.1]; exact jT HM.out.wb HWW.out.2)) (lY (H.all (.row bt 27 (rn psT tlT)) (by simp)) (H.all (.ns psT top) (by simp)) HTT.out.2.2.2.2.1) HX2.out.2.2.2.1 HTT.out.2.2.2.1) fun q2 => ?_
     refine dW ?_;refine eW ?_;refine ae ?_;refine lJ (A := q2.2.length = n) (by simp) fun hq2 => ?_;refine sk (A := ∀ s, s < n -> s ≠ j -> gs1.getD s 0 ≠ q1.1) (fun w' h' => by
      have h2 : Fr _ w w' (.row q1.1 27 (rn q1.2 []) :: .ns q1.2 (gJ n j ex top ey xs2 d) :: .dV [j] gs1 E1 :: []) := h'.pick (by repeat (first | exact Pk.n | refine Pk.c (by repeat (first | exact Rm.z | apply Rm.s)) ?_));have h3 := (h2.rwoN (by rw [show E1.length = n from HM.out.El]; exact h) (by rw [show E1.length = n from HM.out.El]; exact HM.out.gl) aP.nil (by simp)).2;intro s h4 h5; exact h3 s (by rw [show E1.length = n from HM.out.El]; exact h4) h5 (by simp)) fun hne => ?_
     have HN := Lib.hid (And.intro hq2 hne);clear hq2 hne;refine rW [] ?_;refine dE (cd (a := j) (by omega)) ?_;refine dW ?_;refine eW ?_;refine ae ?_;exact bh (⟨j + 1, gs1.set j q1.1, E1.set j (gJ n j ex top ey xs2 d), q2.1, q2.2, [], gJ n j (a / eg) xs2 (-(m / eg)) top d⟩ : PuX) ⟨by have := HM.out.mix (g1 := q1.1) (g2 := q2.1) (ps' := q2.2) h HD.out.1 HD.out.2 HN.out.1 (by rw [Hm.out]; exact Hz.out) HTT.out.2.2.1 HTT.out.2.2.2.2.2 Hm.out HX2.out.2.1 HN.out.2; rw [HEX.out.1, HEX.out.2.1, HEX.out.2.2] at this; exact this, by show n - (j + 1) < n - j; omega⟩ (he := by
      intro w' h';have h2 : Fr _ w w' (.row q1.1 27 (rn q1.2 []) :: .ns q1.2 (gJ n j ex top ey xs2 d) :: .dV [j] gs1 E1 :: [.row q2.1 27 (rn q2.2 []), .row rb 22 ((hG n gs1 ++ tl1).set j (.slice (some ⟨q1.1, 0, none⟩) n n)), .row gB 71 [.slice (some ⟨rb, 0, none⟩) n rc, .bool dp.1, .slice dp.2.1 dp.2.2.1 dp.2.2.2], .ns q2.2 (gJ n j (a / eg) xs2 (-(m / eg)) top d), .num (av dp) d]) := h'.pick (by repeat (first | exact Pk.n | refine Pk.c (by repeat (first | exact Rm.z | apply Rm.s)) ?_));have h3 := (h2.rwoN (by rw [show E1.length = n from HM.out.El]; exact h) (by rw [show E1.length = n from HM.out.El]; exact HM.out.gl) aP.nil (by simp)).1;rw [yz (by rw [show gs1.length = n from HM.out.gl]; exact h)] at h3;exact h3.pick (by repeat (first | exact Pk.n | refine Pk.c (by repeat (first | exact Rm.z | apply Rm.s)) ?_)))
 · obtain rfl : n = j := by omega
   refine ae ?_;refine rW [] ?_;refine dB false ?_;refine eW ?_;refine ae ?_;refine bX ?_;refine ae ?_;refine sf fun w' H => ?_;have gl : gs1.length = n := HM.out.gl;have El : E1.length = n := HM.out.El;have hF := cT.of (dp := dp) (d := d) El gl HM.out.gi_ HT.out.1 (by have := HT.out.2; rw [List.length_append, gC] at this ⊢; rw [gl, <- HL.out]; exact this) (H.all (.row gB 71 [.slice (some ⟨rb, 0, none⟩) n rc, .bool dp.1, .slice dp.2.1 dp.2.2.1 dp.2.2.2]) (by simp)) (H.all (.row rb 22 (hG n gs1 ++ tl1)) (by simp)) (H.all (.dV [] gs1 E1) (by simp)) (H.all (.num (av dp) d) (by simp));refine ⟨_, rfl, H.bs, hF, cE.of (H.own (.row gB 71 [.slice (some ⟨rb, 0, none⟩) n rc, .bool dp.1, .slice dp.2.1 dp.2.2.1 dp.2.2.2]) (by simp) rfl gB rfl) (H.own (.row rb 22 (hG n gs1 ++ tl1)) (by simp) rfl rb rfl) (fun t ht => H.own (.dV [] gs1 E1) (by simp) rfl _ ⟨t, ht, by simp, rfl⟩), rfl, El, HM.out.rl, xs1, HM.out.xl, ?_⟩;show fG n d (bw E) (gi xs) n (bw E1) (gi xs1);rw [HE.out.1, HE.out.2]; exact HM.out.pu
theorem za (gB n B g : Nat) (z : iq) (ps : List P4) (tl : List Value) (xs : List Int) (w : World) (hn : n <= 64) (hB : B <= 1000000000) (hz : z.E.length = n) (hrl : ∀ t < n, (z.E.getD t []).length = n) (hd : 0 < z.d) (hdB : ag z.d.natAbs <= B) (hxl : xs.length = n) (hxb : ∀ a ∈ xs, ag a.natAbs <= B) (hP : fG n z.d (bw z.E) (gi xs) 0 (bw z.E) (gi xs)) (h : (En.tP gB n z g ps tl xs).F w) :
 Calls Try.prog 31 #[.pointer (some ⟨gB, 0, none⟩), .slice (some ⟨g, 0, none⟩) n n] w fun e w' => ∃ z', e = .returned (.tuple #[]) /\ bZ (fun b => cE gB z b ∨ b = g) w w' /\ cT gB n z' w' /\ (∀ b, cE gB z' b -> (cE gB z b ∨ b = g) ∨ w.heap.size <= b) /\ oG n z z' xs := by
 rcases Nat.eq_zero_or_pos n with rfl | h0
 · exact yK gB g z ps tl xs w hz hP hxl h
 · exact yP gB n B g z ps tl xs w h0 hn hB hz hrl hd hdB hxl hxb hP h
theorem lN.le {n r i : Nat} {d : Int} {A E : Mx} (h : lN n d r A i n E) {t : Nat} (ht : t < n) (k : Nat) : (E t k).natAbs <= d.natAbs := by
 rcases Nat.lt_trichotomy k t with q | q | q
 · rw [h.low t ht k q]; simp
 · have := h.pos t ht; rw [q]; omega
 · rcases Nat.lt_or_ge k n with hk | hk
   · have hp := h.pos k hk;rcases Nat.lt_trichotomy t i with q2 | q2 | q2
     · have := h.up t q2 k q; omega
     · subst q2; have := h.at_ ht k q hk hk; omega
     · have := h.dn t ht q2 k hk q; omega
   · rw [h.out t ht k hk]; simp
structure TyX where
 j : Nat
 E : List (List Int)
structure sY (n r : Nat) (d : Int) (A : Mx) (i : Nat) (x : TyX) : Prop where
 hj : i < x.j /\ x.j <= n
 El : x.E.length = n
 rl : ∀ t < n, (x.E.getD t []).length = n
 td : lN n d r A i x.j (bw x.E)
 bd : ∀ t < n, ∀ k, (bw x.E t k).natAbs <= (d.natAbs + 1) ^ (if t = i then x.j - i else 1)
section
variable {n r i j : Nat} {d : Int} {A : Mx} {E : List (List Int)}
theorem sY.open (h : lN n d r A (i + 1) n (bw E)) (hi : i < n) (El : E.length = n) (rl : ∀ t < n, (E.getD t []).length = n) : sY n r d A i ⟨i + 1, E⟩ :=
 ⟨⟨Nat.lt_succ_self _, hi⟩, El, rl, h.above hi, fun t ht k => by
  have h1 := h.le ht k;have e : (if t = i then i + 1 - i else 1) = 1 := by split <;> omega
  show (bw E t k).natAbs <= (d.natAbs + 1) ^ (if t = i then i + 1 - i else 1);have h1 : (bw E t k).natAbs <= d.natAbs := h1;rw [e, Nat.pow_one]; omega⟩
theorem nN {d : Int} {i j t : Nat} : (d.natAbs + 1) ^ (if t = i then j - i else 1) <= (d.natAbs + 1) ^ (if t = i then j + 1 - i else 1) := Nat.pow_le_pow_right (by omega) (by split <;> omega)
theorem sY.skip (h : sY n r d A i ⟨j, E⟩) (hi : i < n) (hj : j < n) (h0 : (bw E i j).fdiv (bw E j j) = 0) : sY n r d A i ⟨j + 1, E⟩ :=
 ⟨⟨Nat.lt_succ_of_lt h.hj.1, hj⟩, h.El, h.rl, h.td.skip hi hj h.hj.1 h0, fun t ht k => Nat.le_trans (h.bd t ht k) nN⟩
theorem sY.sub {q : Int} {xs : List Int} (h : sY n r d A i ⟨j, E⟩) (hi : i < n) (hj : j < n) (hq : q = (bw E i j).fdiv (bw E j j)) (hl : xs.length = n) (hx : ∀ k < n, gi xs k = if j <= k then -q * bw E j k + bw E i k else bw E i k) : sY n r d A i ⟨j + 1, E.set i xs⟩ := by
 have El : E.length = n := h.El;have hij : i < j := h.hj.1;have hR : ∀ k, gi xs k = if k < j ∨ n <= k then bw E i k else bw E i k - q * bw E j k := fun k => by
  by_cases h1 : k < n
  · rw [hx k h1];by_cases h2 : j <= k
    · rw [if_pos h2, if_neg (by omega), Int.neg_mul]; omega
    · rw [if_neg h2, if_pos (.inl (by omega))]
  · rw [if_pos (.inr (by omega)), h.td.out i hi k (by omega)]; exact er _ _ (by omega)
 refine ⟨⟨Nat.lt_succ_of_lt hij, hj⟩, by show (E.set i xs).length = n; rw [List.length_set]; exact El, fun t ht => ?_, ?_, fun t ht k => ?_⟩
 · show ((E.set i xs).getD t []).length = n;rw [cn (by omega)]; split
   · exact hl
   · exact h.rl t ht
 · show lN n d r A i (j + 1) (bw (E.set i xs));rw [nz (by omega)]; exact h.td.sub hi hj hij hq hR
 · show (bw (E.set i xs) t k).natAbs <= (d.natAbs + 1) ^ (if t = i then j + 1 - i else 1);rw [nz (by omega)];by_cases e : t = i
   · subst e;rw [bA, hR];have hb := h.bd t ht;rw [if_pos rfl] at hb;by_cases h1 : k < j ∨ n <= k
     · rw [if_pos h1]; exact Nat.le_trans (h.bd t ht k) nN
     · rw [if_neg h1, if_pos rfl];have hp : 0 < bw E j j /\ bw E j j <= d := h.td.pos j hj;have he : 0 <= bw E j k /\ bw E j k <= d := by
        by_cases h2 : k = j
        · subst h2; omega
        · have h3 := h.td.dn j hj hij k (by omega) (by omega);have h4 := h.td.pos k (by omega);have h3 : 0 <= bw E j k /\ bw E j k < bw E k k := h3;have h4 : 0 < bw E k k /\ bw E k k <= d := h4;omega
       have := vF (a := bw E t k) (e := bw E j k) (q := q) (x := bw E t j) (d := d) (M := (d.natAbs + 1) ^ (j - t)) (D := d.natAbs + 1) (hb k) (hb j) he (by omega) (by rw [hq]; exact mU hp.1) (Nat.le_refl _);rw [<- Nat.pow_succ] at this;rw [show j + 1 - t = (j - t).succ by omega]; exact this
   · rw [aK _ e]; exact Nat.le_trans (h.bd t ht k) nN
theorem ty_wl {x d : Int} {e : Nat} (h : x.natAbs <= (d.natAbs + 1) ^ e) (he : e <= 64) : ag x.natAbs <= 64 * ag d.natAbs + 1 := by
 have h1 : d.natAbs + 1 <= W ^ ag d.natAbs := aT _;have h2 := Nat.pow_le_pow_left h1 e;rw [<- Nat.pow_mul] at h2;have h3 : ag d.natAbs * e <= ag d.natAbs * 64 := Nat.mul_le_mul_left _ he;have h4 : W ^ (ag d.natAbs * e) < W ^ (64 * ag d.natAbs + 1) := Nat.pow_lt_pow_right (by unfold W; omega) (by omega);exact an (by omega)
theorem sY.wl (h : sY n r d A i ⟨j, E⟩) (hn : n <= 64) {t : Nat} (ht : t < n) (k : Nat) : ag (bw E t k).natAbs <= 64 * ag d.natAbs + 1 := by
 refine ty_wl (h.bd t ht k) ?_;have := h.hj.2;have : j <= n := this;show (if t = i then j - i else 1) <= 64;split <;> omega
end
structure TzX where
 k : Nat
 ps : List P4
 xs : List Int
structure TzI (n i j : Nat) (q : Int) (E : List (List Int)) (x : TzX) : Prop where
 hk : j <= x.k /\ x.k <= n
 pl : x.ps.length = n
 xl : x.xs.length = n
 val : ∀ k < n, gi x.xs k = if j <= k /\ k < x.k then -q * bw E j k + bw E i k else bw E i k
structure ToX where
 m : Nat
 v : Int
 E : List (List Int)
structure ToI (n r : Nat) (d : Int) (A : Mx) (x : ToX) : Prop where
 hm : x.m <= n
 hv : x.v = (x.m : Int) - 1
 El : x.E.length = n
 rl : ∀ t < n, (x.E.getD t []).length = n
 td : lN n d r A x.m n (bw x.E)
theorem yx {a : Int} (h : -9223372036854775800 < a) (h2 : a < 9223372036854775807) : Value.int .i64 (IntKind.i64.wrap (a - 1)) = .int .i64 (a - 1) := by
 simp only [IntKind.wrap, IntKind.signed, IntKind.bits];congr 1;simp; omega
def TdR (n r : Nat) (A : Mx) (z z' : iq) : Prop := z'.d = z.d /\ z'.E.length = n /\ (∀ t < n, (z'.E.getD t []).length = n) /\ Md n z.d r A (bw z'.E) /\ ∀ t < n, ∀ k, (bw z'.E t k).natAbs <= z.d.natAbs
set_option maxRecDepth 100000 in
set_option maxHeartbeats 1000000 in
theorem wT (gB r : Nat) (A : Mx) (z : iq) (w : World) (hz : z.E.length = 0) (hT : lN 0 z.d r A 0 0 (bw z.E)) (h : cT gB 0 z w) :
 Calls Try.prog 32 #[.pointer (some ⟨gB, 0, none⟩)] w fun e w' => ∃ z', e = .returned (.tuple #[]) /\ bZ (cE gB z) w w' /\ cT gB 0 z' w' /\ (∀ b, cE gB z' b -> cE gB z b ∨ w.heap.size <= b) /\ TdR 0 r A z z' := by
 have HF : Hid (cT gB 0 z w) := Lib.hid h;have HR : Hid (TdR 0 r A z z) := Lib.hid ⟨rfl, hz, fun t ht => absurd ht (Nat.not_lt_zero _), hT.done, fun t ht => absurd ht (Nat.not_lt_zero _)⟩;have c0 : w.cell? ⟨gB, 0, none⟩ = some (.slice z.ro 0 z.rc) := by rw [h.1.1.cell]; show some (Value.slice z.ro z.E.length z.rc) = _; rw [hz]
 have HA : Fr (fun _ => False) w w [.cell ⟨gB, 0, none⟩ (.slice z.ro 0 z.rc)] := Fr.cl (Fr.nil _ w) c0 (by simp);obtain ⟨ro, rc, gs, E, dp, d⟩ := z;have HN := Lib.hid (fun (w' : World) (hb : Below w.heap.size w w') => show bZ (cE gB ⟨ro, rc, gs, E, dp, d⟩) w w' /\ cT gB 0 ⟨ro, rc, gs, E, dp, d⟩ w' from ⟨bZ.cP hb, HF.out.iG (bZ.cP (S := fun _ => False) hb) (Wl.none _) fun _ _ h => h⟩);clear h hz hT c0;refine aZ (S0 := fun _ => False) Try.func32 HA ?_;clear HA;refine ae ?_;refine rW [] ?_;refine dW ?_;refine dW ?_;refine dW ?_;refine dW ?_;refine dW ?_;refine dE (v := .int .i64 (-1)) (yx (a := 0) (by omega) (by omega)) ?_;refine dW ?_;refine eW ?_;refine ae ?_;refine bF (X := Unit) (fun _ => True) (fun _ => 0) (fun _ => [(2, .int .i64 (-1))]) (fun _ => []) () trivial fun _ _ => ?_;refine ae ?_;refine rW [] ?_;refine dW ?_;refine dB false ?_;refine eW ?_;refine ae ?_;refine bX ?_;refine ae ?_;refine sf fun w' H => ?_;obtain ⟨h1, h2⟩ := HN.out w' H.below;exact ⟨_, rfl, h1, h2, fun b h => .inl h, HR.out⟩
set_option maxRecDepth 100000 in
set_option maxHeartbeats 8000000 in
theorem wQ (gB n r B : Nat) (A : Mx) (z : iq) (w : World) (hn0 : 0 < n) (hn : n <= 64) (hB : B <= 1000000000) (hz : z.E.length = n) (hrl : ∀ t < n, (z.E.getD t []).length = n) (hdB : ag z.d.natAbs <= B) (hT : lN n z.d r A n n (bw z.E)) (h : cT gB n z w) :
 Calls Try.prog 32 #[.pointer (some ⟨gB, 0, none⟩)] w fun e w' => ∃ z', e = .returned (.tuple #[]) /\ bZ (cE gB z) w w' /\ cT gB n z' w' /\ (∀ b, cE gB z' b -> cE gB z b ∨ w.heap.size <= b) /\ TdR n r A z z' := by
 have H0 := (Fr.basS h).yy;obtain ⟨ro, rc, gs, E, dp, d⟩ := z
 replace hz : E.length = n := hz
 obtain ⟨H0, h6, h7⟩ := H0
 replace h6 : gs.length = n := h6.trans hz
 replace h7 : eI gs n := by rw [<- hz]; exact h7
 have hI : ToI n r d A ⟨n, (n : Int) - 1, E⟩ := ⟨Nat.le_refl _, rfl, hz, hrl, hT⟩;have H1 : Fr (cE gB ⟨ro, rc, gs, E, dp, d⟩) w w [.lg 22 1 ro n rc (hG n gs), .row gB 71 [.slice ro n rc, .bool dp.1, .slice dp.2.1 dp.2.2.1 dp.2.2.2], .num (av dp) d, .dV [] gs E] := by
  have H := H0;simp only [wP, nH, List.cons_append, List.nil_append] at H;rw [hz] at H;have H2 : Fr _ w w (.gM n gs E :: [.lg 22 1 ro n rc (hG n gs), .row gB 71 [.slice ro n rc, .bool dp.1, .slice dp.2.1 dp.2.2.1 dp.2.2.2], .num (av dp) d]) := H.pick (by repeat (first | exact Pk.n | refine Pk.c (by repeat (first | exact Rm.z | apply Rm.s)) ?_));exact (H2.yp (by omega)).pick (by repeat (first | exact Pk.n | refine Pk.c (by repeat (first | exact Rm.z | apply Rm.s)) ?_))
 have HI := Lib.hid hI;have HL := Lib.hid (And.intro h6 h7);obtain ⟨B2, hB2⟩ : ∃ B2, 64 * ag d.natAbs + 1 = B2 := ⟨_, rfl⟩;have hBm : B2 <= 64000000001 := by have hdB : ag d.natAbs <= B := hdB; omega
 have HB := Lib.hid hB2;clear H0 h hz hrl hdB hT h6 h7 hI hB2;refine aZ (S0 := cE gB ⟨ro, rc, gs, E, dp, d⟩) Try.func32 H1 ?_;clear H1;refine ae ?_;refine rO (by omega) fun rb tl1 e1 ht1 hl1 => ?_;subst e1;have HT := Lib.hid (And.intro ht1 hl1);clear ht1 hl1;refine rW [] ?_;refine dW ?_;refine dW ?_;refine dW ?_;refine dW ?_;refine dW ?_;refine dE (yx (a := (n : Int)) (by omega) (by omega)) ?_;refine dW ?_;refine eW ?_;refine ae ?_;refine bF (X := ToX) (ToI n r d A) (fun x => x.m) (fun x => [(2, .int .i64 x.v), (0, .pointer (some ⟨gB, 0, none⟩))])
  (fun x => [.row rb 22 (hG n gs ++ tl1), .row gB 71 [.slice (some ⟨rb, 0, none⟩) n rc, .bool dp.1, .slice dp.2.1 dp.2.2.1 dp.2.2.2], .num (av dp) d, .dV [] gs x.E]) ⟨n, (n : Int) - 1, E⟩ HI.out fun x hx => ?_
 obtain ⟨m, v, E1⟩ := x;have hm : m <= n := hx.hm;have hv : v = (m : Int) - 1 := hx.hv;have HM : Hid (ToI n r d A ⟨m, v, E1⟩) := Lib.hid hx;clear hx;by_cases h : 0 < m
 · obtain ⟨i, rfl⟩ : ∃ i, m = i + 1 := ⟨m - 1, by omega⟩;obtain rfl : v = (i : Int) := by omega
   clear hv;have hi : i < n := by omega
   have h01 : (0 : Int) <= (i : Int) := by omega
   obtain ⟨bi, hbi⟩ : ∃ bi, gs.getD i 0 = bi := ⟨_, rfl⟩;have k1 := kg (c := n) tl1 (by rw [HL.out.1]; exact hi) hbi;have Hbi := Lib.hid hbi;clear hbi;refine ae ?_;refine rW [] ?_;refine dW ?_;refine dB true ?_;refine eW ?_;refine ae ?_;refine dO ?_;refine ae ?_;refine rW [] ?_;refine dW ?_;refine dE (cd (a := i) (by omega)) ?_;refine dW ?_;refine eW ?_;refine ae ?_;refine bF (X := TyX) (sY n r d A i) (fun x => n - x.j) (fun x => [(3, .int .i64 (x.j : Int)), (2, .int .i64 (i : Int)), (0, .pointer (some ⟨gB, 0, none⟩))])
    (fun x => [.row rb 22 (hG n gs ++ tl1), .row gB 71 [.slice (some ⟨rb, 0, none⟩) n rc, .bool dp.1, .slice dp.2.1 dp.2.2.1 dp.2.2.2], .num (av dp) d, .dV [] gs x.E]) ⟨i + 1, E1⟩ (sY.open HM.out.td hi HM.out.El HM.out.rl) fun x hx => ?_
   obtain ⟨j, E2⟩ := x;have hij : i < j := hx.hj.1;have hjn : j <= n := hx.hj.2;have HY : Hid (sY n r d A i ⟨j, E2⟩) := Lib.hid hx;clear hx;by_cases h2 : j < n
   · have h02 : (j : Int) < (n : Int) := by omega
     refine ae ?_;refine rW [] ?_;refine dW ?_;refine dW ?_;refine dW ?_;refine dW ?_;refine dW ?_;refine dW ?_;refine dB true ?_;obtain ⟨bj, hbj⟩ : ∃ bj, gs.getD j 0 = bj := ⟨_, rfl⟩;have k2 := kg (c := n) tl1 (by rw [HL.out.1]; exact h2) hbj;have Hbj := Lib.hid hbj;clear hbj;refine eW ?_;refine ae ?_;refine cZ (es' := [.dV [] gs E2, .row rb 22 (hG n gs ++ tl1), .row gB 71 [.slice (some ⟨rb, 0, none⟩) n rc, .bool dp.1, .slice dp.2.1 dp.2.2.1 dp.2.2.2], .num (av dp) d]) ?_;refine sT i (by rw [show E2.length = n from HY.out.El]; exact hi) (by simp) (by rw [show E2.length = n from HY.out.El]; exact HL.out.2) fun bi' psI tlI hbi htlI hpI => ?_;obtain rfl : bi = bi' := Hbi.out.symm.trans hbi;refine cZ (es' := [.dV [i] gs E2, .row bi 27 (rn psI tlI), .row rb 22 (hG n gs ++ tl1), .row gB 71 [.slice (some ⟨rb, 0, none⟩) n rc, .bool dp.1, .slice dp.2.1 dp.2.2.1 dp.2.2.2], .ns psI (E2.getD i []), .num (av dp) d]) ?_;refine sT j (by rw [show E2.length = n from HY.out.El]; exact h2) (by simp; omega) (by rw [show E2.length = n from HY.out.El]; exact HL.out.2) fun bj' psJ tlJ hbj htlJ hpJ => ?_;obtain rfl : bj = bj' := Hbj.out.symm.trans hbj;obtain ⟨xI, hxI⟩ : ∃ x, E2.getD i [] = x := ⟨_, rfl⟩;obtain ⟨xJ, hxJ⟩ : ∃ x, E2.getD j [] = x := ⟨_, rfl⟩;have hlI : xI.length = n := by rw [<- hxI]; exact HY.out.rl i hi
     have hlJ : xJ.length = n := by rw [<- hxJ]; exact HY.out.rl j h2
     have hgI : ∀ k, gi xI k = bw E2 i k := fun k => by unfold bw; rw [hxI]
     have hgJ : ∀ k, gi xJ k = bw E2 j k := fun k => by unfold bw; rw [hxJ]
     rw [hxI] at hpI ⊢;rw [hxJ] at hpJ ⊢;rw [hlI] at hpI;rw [hlJ] at hpJ;have k3 := ot tlI (ps := psI) (i := j) (by omega);have k4 := pG tlI (ps := psI) (i := j) (by omega);have k5 := ot tlJ (ps := psJ) (i := j) (by omega);have k6 := pG tlJ (ps := psJ) (i := j) (by omega);have hwI : ∀ k, ag (bw E2 i k).natAbs <= B2 := fun k => by rw [<- HB.out]; exact HY.out.wl hn hi k
     have hwJ : ∀ k, ag (gi xJ k).natAbs <= B2 := fun k => by rw [hgJ, <- HB.out]; exact HY.out.wl hn h2 k
     obtain ⟨a, ha⟩ : ∃ a, gi xI j = a := ⟨_, rfl⟩;obtain ⟨b, hb⟩ : ∃ b, gi xJ j = b := ⟨_, rfl⟩;have hwa : ag a.natAbs <= B2 := by rw [<- ha, hgI]; exact hwI j
     have hwb : ag b.natAbs <= B2 := by rw [<- hb]; exact hwJ j
     have hb0 : 0 < b := by rw [<- hb, hgJ]; exact (HY.out.td.pos j h2).1
     obtain ⟨q, hq⟩ : ∃ q, a.fdiv b = q := ⟨_, rfl⟩;have hwq : ag q.natAbs <= B2 := by rw [<- hq]; exact Nat.le_trans (aH (mU hb0)) hwa
     have hqe : q = (bw E2 i j).fdiv (bw E2 j j) := by rw [<- hq, <- ha, <- hb, hgI, hgJ]
     refine iZ (e := .num (av (gp psI j)) a) (fun w' H => by have := (H.all (.ns psI xI) (by simp) : bg ..).2 j (by omega); rw [ha] at this; exact this) ?_;refine iZ (e := .num (av (gp psJ j)) b) (fun w' H => by have := (H.all (.ns psJ xJ) (by simp) : bg ..).2 j (by omega); rw [hb] at this; exact this) ?_;have HII := Lib.hid (And.intro htlI (And.intro hpI (And.intro hxI (And.intro hlI hgI))));have HJJ := Lib.hid (And.intro htlJ (And.intro hpJ (And.intro hxJ (And.intro hlJ hgJ))));have HW := Lib.hid (And.intro hwI (And.intro hwJ (And.intro hwa (And.intro hwb (And.intro hwq (And.intro hb0 (And.intro hq hqe)))))));clear hbi hbj htlI htlJ hpI hpJ hxI hxJ hlI hlJ hgI hgJ hwI hwJ hwa hwb hwq hb0 hq hqe ha hb;refine cZ (es' := [.row bi 27 (rn psI tlI), .row bj 27 (rn psJ tlJ), .row rb 22 (hG n gs ++ tl1), .row gB 71 [.slice (some ⟨rb, 0, none⟩) n rc, .bool dp.1, .slice dp.2.1 dp.2.2.1 dp.2.2.2], .num (av (gp psI j)) a, .num (av (gp psJ j)) b, .ns psI xI, .ns psJ xJ, .num (av dp) d, .dV [j, i] gs E2]) ?_;refine dO ?_;refine ae ?_;refine rW [] ?_;refine dW ?_;refine dW ?_;refine dW ?_;refine dW ?_;refine dW ?_;refine dW ?_;refine dW ?_;refine dW ?_;refine dW ?_;refine dW ?_;refine dW ?_;refine dW ?_;refine dW ?_;refine dW ?_;refine dW ?_;refine dW ?_;refine dW ?_;refine dW ?_;refine dW ?_;refine dW ?_;refine cN2 (x := q) (y := a.fmod b) (z := .int .i64 0) (fun w' H => by
      have := um (av (gp psI j)) (av (gp psJ j)) a b w' (aJ.int (H.all (.num (av (gp psI j)) a) (by simp)) (Nat.le_trans HW.out.2.2.1 (by omega))) (aJ.int (H.all (.num (av (gp psJ j)) b) (by simp)) (Nat.le_trans HW.out.2.2.2.1 (by omega))) (by have := HW.out.2.2.2.2.2.1; omega);rw [HW.out.2.2.2.2.2.2.1] at this; exact this) fun pq pf => ?_
     refine dW ?_;refine dW ?_;refine dW ?_;refine dW ?_;refine aW fun g4 => ?_;refine aW fun g5 => ?_;refine sG ?_;refine sG ?_;refine dW ?_;refine eW ?_;refine ae ?_;refine rW [] ?_;refine dW ?_;refine cV (v := .int .i64 (bb q)) (fun w' H => dy (av pq) q w' (ak.int (H.all (.own w.heap.size (av pq) q) (by simp [av])) (Nat.le_trans HW.out.2.2.2.2.1 (by omega)))) ?_;by_cases hz : q = 0
     · have hz1 := zs0 hz;refine dB true ?_;refine eW ?_;refine ae ?_;refine dO ?_;refine ae ?_;refine rW [] ?_;refine dW ?_;refine dE (cd (a := j) (by omega)) ?_;refine dW ?_;refine eW ?_;refine ae ?_;exact bh (⟨j + 1, E2⟩ : TyX) ⟨HY.out.skip hi h2 (by rw [<- HW.out.2.2.2.2.2.2.2]; exact hz), by show n - (j + 1) < n - j; omega⟩ (he := by
        intro w' h';have h3 : Fr _ w w' (.row bj 27 (rn psJ tlJ) :: .ns psJ xJ :: .dV [j, i] gs E2 :: [.row bi 27 (rn psI tlI), .ns psI xI, .row rb 22 (hG n gs ++ tl1), .row gB 71 [.slice (some ⟨rb, 0, none⟩) n rc, .bool dp.1, .slice dp.2.1 dp.2.2.1 dp.2.2.2], .num (av dp) d]) := h'.pick (by repeat (first | exact Pk.n | refine Pk.c (by repeat (first | exact Rm.z | apply Rm.s)) ?_));rw [<- Hbj.out] at h3;have h4 := h3.oV (by rw [show E2.length = n from HY.out.El]; exact h2) (by simp; omega) HJJ.out.1;rw [<- HJJ.out.2.2.1, fH (by rw [show E2.length = n from HY.out.El]; exact h2)] at h4;have h5 : Fr _ w w' (.row bi 27 (rn psI tlI) :: .ns psI xI :: .dV [i] gs E2 :: [.row rb 22 (hG n gs ++ tl1), .row gB 71 [.slice (some ⟨rb, 0, none⟩) n rc, .bool dp.1, .slice dp.2.1 dp.2.2.1 dp.2.2.2], .num (av dp) d]) := h4.pick (by repeat (first | exact Pk.n | refine Pk.c (by repeat (first | exact Rm.z | apply Rm.s)) ?_));rw [<- Hbi.out] at h5;have h6 := h5.oV (by rw [show E2.length = n from HY.out.El]; exact hi) (by simp) HII.out.1;rw [<- HII.out.2.2.1, fH (by rw [show E2.length = n from HY.out.El]; exact hi)] at h6;exact h6.pick (by repeat (first | exact Pk.n | refine Pk.c (by repeat (first | exact Rm.z | apply Rm.s)) ?_)))
     · have hz1 := zs1 hz;clear hz;refine dB false ?_;refine eW ?_;refine ae ?_;refine bX ?_;refine ae ?_;refine rW [] ?_;refine dW ?_;refine cN (x := -q) (fun w' H => kb (av pq) q w' (ak.int (H.all (.own w.heap.size (av pq) q) (by simp [av])) (Nat.le_trans HW.out.2.2.2.2.1 (by omega)))) fun pn => ?_;refine sW ?_;refine eW ?_;refine ae ?_;refine rW [] ?_;refine dW ?_;refine dW ?_;refine eW ?_;refine ae ?_;clear k3 k4 k5 k6 hz1;refine bF (X := TzX) (TzI n i j q E2) (fun x => n - x.k) (fun x => [(7, .int .i64 (x.k : Int)), (4, .pointer (some ⟨g4, 0, none⟩)), (3, .int .i64 (j : Int)), (2, .int .i64 (i : Int)), (0, .pointer (some ⟨gB, 0, none⟩))])
        (fun x => [.row bi 27 (rn x.ps tlI), .row bj 27 (rn psJ tlJ), .row g4 27 [.bool pn.1, .slice pn.2.1 pn.2.2.1 pn.2.2.2], .row rb 22 (hG n gs ++ tl1), .row gB 71 [.slice (some ⟨rb, 0, none⟩) n rc, .bool dp.1, .slice dp.2.1 dp.2.2.1 dp.2.2.2], .own w.heap.size (av pn) (-q), .ns x.ps x.xs, .ns psJ xJ, .num (av dp) d, .dV [j, i] gs E2]) ⟨j, psI, xI⟩ ⟨⟨Nat.le_refl _, hjn⟩, HII.out.2.1, HII.out.2.2.2.1, fun k hk => by
         rw [if_neg (by show ¬ (j <= k /\ k < j); omega)]; exact HII.out.2.2.2.2 k⟩ fun x hx => ?_
       obtain ⟨k, ps3, xs3⟩ := x;have hk1 : j <= k := hx.hk.1;have hk2 : k <= n := hx.hk.2;have hpl : ps3.length = n := hx.pl;have hxl : xs3.length = n := hx.xl;have HZ : Hid (TzI n i j q E2 ⟨k, ps3, xs3⟩) := Lib.hid hx;have HPX := Lib.hid (And.intro hpl hxl);clear hx;by_cases h3 : k < n
       · have h03 : (k : Int) < (n : Int) := by omega
         have k3 := ot tlI (ps := ps3) (i := k) (by omega);have k4 := pG tlI (ps := ps3) (i := k) (by omega);have k5 := ot tlJ (ps := psJ) (i := k) (by rw [HJJ.out.2.1]; exact h3);have k6 := pG tlJ (ps := psJ) (i := k) (by rw [HJJ.out.2.1]; exact h3);have hxk : gi xs3 k = bw E2 i k := by have := HZ.out.val k h3; rw [if_neg (by show ¬ (j <= k /\ k < k); omega)] at this; exact this
         have Hxk := Lib.hid hxk;clear hxk hpl hxl;refine ae ?_;refine rW [] ?_;refine dW ?_;refine dW ?_;refine dW ?_;refine dW ?_;refine dW ?_;refine dW ?_;refine dB true ?_;refine eW ?_;refine ae ?_;refine dO ?_;refine ae ?_;refine rW [] ?_;refine dW ?_;refine dW ?_;refine dW ?_;refine dW ?_;refine dW ?_;refine dW ?_;refine dW ?_;refine dW ?_;refine dW ?_;refine dW ?_;refine dW ?_;refine dW ?_;refine dW ?_;refine dW ?_;refine dW ?_;refine dW ?_;refine dW ?_;refine dW ?_;refine dW ?_;refine dW ?_;refine dW ?_;refine dW ?_;refine dW ?_;refine dW ?_;refine dW ?_;refine dW ?_;refine dW ?_;refine dW ?_;refine dW ?_;refine cN (x := -q * gi xJ k + gi xs3 k) (fun w' H => iC (av pn) (av (gp psJ k)) (av (gp ps3 k)) (-q) (gi xJ k) (gi xs3 k) B2 B2 w' (ak.int (H.all (.own w.heap.size (av pn) (-q)) (by simp [av])) (by rw [Int.natAbs_neg]; exact HW.out.2.2.2.2.1)) (aJ.int ((H.all (.ns psJ xJ) (by simp) : bg ..).2 k (by rw [HJJ.out.2.1]; exact h3)) (HW.out.2.1 k)) (aJ.int ((H.all (.ns ps3 xs3) (by simp) : bg ..).2 k (by rw [HPX.out.1]; exact h3)) (by rw [Hxk.out]; exact Nat.le_trans (HW.out.1 k) (by omega))) (by omega)) fun p4 => ?_;refine fj (e := .ns (ps3.set k p4) (xs3.set k (-q * gi xJ k + gi xs3 k))) (fun w' H => bg.set (H.all (.ns ps3 xs3) (by simp)) k (H.all (.own w.heap.size (av p4) (-q * gi xJ k + gi xs3 k)) (by simp [av]) : ak ..).num) ?_;refine dW ?_;refine sN (ps := ps3) k p4 (by rw [HPX.out.1]; exact h3) HII.out.1 rfl ?_;refine eW ?_;refine ae ?_;refine rW [] ?_;refine dW ?_;refine dE (cd (a := k) (by omega)) ?_;refine dW ?_;refine eW ?_;refine ae ?_;exact bh (⟨k + 1, ps3.set k p4, xs3.set k (-q * gi xJ k + gi xs3 k)⟩ : TzX) ⟨⟨⟨by show j <= k + 1; omega, h3⟩, by show (ps3.set k p4).length = n; rw [List.length_set]; exact HPX.out.1, by show (xs3.set k _).length = n; rw [List.length_set]; exact HPX.out.2, fun t ht => by
          show gi (xs3.set k _) t = if j <= t /\ t < k + 1 then _ else _;rw [eY (by rw [HPX.out.2]; exact h3)];by_cases e : t = k
          · rw [if_pos e, if_pos (by omega), e, Hxk.out, HJJ.out.2.2.2.2]
          · rw [if_neg e];have := HZ.out.val t ht;rw [this];show (if j <= t /\ t < k then _ else _) = _;by_cases e2 : j <= t /\ t < k
            · rw [if_pos e2, if_pos (by omega)]
            · rw [if_neg e2, if_neg (by omega)]⟩, by show n - (k + 1) < n - k; omega⟩
       · obtain rfl : n = k := by omega
         refine ae ?_;refine rW [] ?_;refine dW ?_;refine dW ?_;refine dW ?_;refine dW ?_;refine dW ?_;refine dW ?_;refine dB false ?_;refine eW ?_;refine ae ?_;refine bX ?_;refine ae ?_;refine rW [] ?_;refine dW ?_;refine dE (cd (a := j) (by omega)) ?_;refine dW ?_;refine eW ?_;refine ae ?_;exact bh (⟨j + 1, E2.set i xs3⟩ : TyX) ⟨HY.out.sub hi h2 HW.out.2.2.2.2.2.2.2 HPX.out.2 (fun k hk => by have := HZ.out.val k hk; rw [this]; by_cases e : j <= k; rw [if_pos e, if_pos ⟨e, hk⟩]; rw [if_neg e, if_neg (fun q => e q.1)]), by show n - (j + 1) < n - j; omega⟩ (he := by
          intro w' h';have h3 : Fr _ w w' (.row bj 27 (rn psJ tlJ) :: .ns psJ xJ :: .dV [j, i] gs E2 :: [.row bi 27 (rn ps3 tlI), .ns ps3 xs3, .row rb 22 (hG n gs ++ tl1), .row gB 71 [.slice (some ⟨rb, 0, none⟩) n rc, .bool dp.1, .slice dp.2.1 dp.2.2.1 dp.2.2.2], .num (av dp) d]) := h'.pick (by repeat (first | exact Pk.n | refine Pk.c (by repeat (first | exact Rm.z | apply Rm.s)) ?_));rw [<- Hbj.out] at h3;have h4 := h3.oV (by rw [show E2.length = n from HY.out.El]; exact h2) (by simp; omega) HJJ.out.1;rw [<- HJJ.out.2.2.1, fH (by rw [show E2.length = n from HY.out.El]; exact h2)] at h4;have h5 : Fr _ w w' (.row bi 27 (rn ps3 tlI) :: .ns ps3 xs3 :: .dV [i] gs E2 :: [.row rb 22 (hG n gs ++ tl1), .row gB 71 [.slice (some ⟨rb, 0, none⟩) n rc, .bool dp.1, .slice dp.2.1 dp.2.2.1 dp.2.2.2], .num (av dp) d]) := h4.pick (by repeat (first | exact Pk.n | refine Pk.c (by repeat (first | exact Rm.z | apply Rm.s)) ?_));rw [<- Hbi.out] at h5;have h6 := h5.oV (by rw [show E2.length = n from HY.out.El]; exact hi) (by simp) HII.out.1;exact h6.pick (by repeat (first | exact Pk.n | refine Pk.c (by repeat (first | exact Rm.z | apply Rm.s)) ?_)))
   · obtain rfl : n = j := by omega
     refine ae ?_;refine rW [] ?_;refine dW ?_;refine dW ?_;refine dW ?_;refine dW ?_;refine dW ?_;refine dW ?_;refine dB false ?_;refine eW ?_;refine ae ?_;refine bX ?_;refine ae ?_;refine rW [] ?_;refine dW ?_;refine dE (yx (a := (i : Int)) (by omega) (by omega)) ?_;refine dW ?_;refine eW ?_;refine ae ?_;exact bh (⟨i, (i : Int) - 1, E2⟩ : ToX) ⟨⟨by show i <= n; omega, rfl, HY.out.El, HY.out.rl, HY.out.td⟩, Nat.lt_succ_self _⟩
 · obtain rfl : m = 0 := by omega
   obtain rfl : v = -1 := by omega
   clear hv;refine ae ?_;refine rW [] ?_;refine dW ?_;refine dB false ?_;refine eW ?_;refine ae ?_;refine bX ?_;refine ae ?_;refine sf fun w' H => ?_;have El : E1.length = n := HM.out.El;have hF := cT.of (dp := dp) (d := d) El HL.out.1 HL.out.2 HT.out.1 HT.out.2 (H.all (.row gB 71 [.slice (some ⟨rb, 0, none⟩) n rc, .bool dp.1, .slice dp.2.1 dp.2.2.1 dp.2.2.2]) (by simp)) (H.all (.row rb 22 (hG n gs ++ tl1)) (by simp)) (H.all (.dV [] gs E1) (by simp)) (H.all (.num (av dp) d) (by simp));exact ⟨_, rfl, H.bs, hF, cE.of (H.own (.row gB 71 [.slice (some ⟨rb, 0, none⟩) n rc, .bool dp.1, .slice dp.2.1 dp.2.2.1 dp.2.2.2]) (by simp) rfl gB rfl) (H.own (.row rb 22 (hG n gs ++ tl1)) (by simp) rfl rb rfl) (fun t ht => H.own (.dV [] gs E1) (by simp) rfl _ ⟨t, ht, by simp, rfl⟩), rfl, El, HM.out.rl, HM.out.td.done, fun t ht k => HM.out.td.le ht k⟩
theorem xG (gB n r B : Nat) (A : Mx) (z : iq) (w : World) (hn : n <= 64) (hB : B <= 1000000000) (hz : z.E.length = n) (hrl : ∀ t < n, (z.E.getD t []).length = n) (hdB : ag z.d.natAbs <= B) (hT : lN n z.d r A n n (bw z.E)) (h : cT gB n z w) :
 Calls Try.prog 32 #[.pointer (some ⟨gB, 0, none⟩)] w fun e w' => ∃ z', e = .returned (.tuple #[]) /\ bZ (cE gB z) w w' /\ cT gB n z' w' /\ (∀ b, cE gB z' b -> cE gB z b ∨ w.heap.size <= b) /\ TdR n r A z z' := by
 rcases Nat.eq_zero_or_pos n with rfl | h0
 · exact wT gB r A z w hz hT h
 · exact wQ gB n r B A z w h0 hn hB hz hrl hdB hT h
theorem cT.tK {gB m : Nat} {z : iq} {w : World} {l : Nat} {o o' : Obj} (hl : w.heap[l]? = some o) (hn : o.isCells = false) (h : cT gB m z w) : cT gB m z (w.putObj l o') := by
 obtain ⟨⟨h1, h2, h4, h5⟩, h6, h7⟩ := h;refine ⟨⟨fB hl hn h1, ?_, fun t ht hx => ?_, jo hl hn h5⟩, h6, h7⟩
 · exact Pz.lg (te := 22) (sz := 1) (ao := z.ro) (k := z.E.length) (cap := z.rc) (cs := hG m z.gs) w l o o' hl hn h2
 · exact Pz.gM (x := z.E.length) (gs := z.gs) (E := z.E) w l o o' hl hn h4 t ht hx
theorem Pz.jh {gB m : Nat} {z : iq} : Pz (.jh gB m z) := fun _ _ _ _ hl hn h => cT.tK hl hn h
theorem Cz.jh {gB m : Nat} {z : iq} : Cz (.jh gB m z) := fun w h _ g hg => by
 obtain ⟨t, cs, hr, hn, _⟩ := cT.rows (h : cT gB m z w) hg;exact ⟨t, cs, hr, hn⟩
theorem chgI {l N : Nat} {P : Program} {n : Nat} {S0 : Nat -> Prop} {w0 : World} {c : Code} {Q : Exit -> Act -> World -> Prop} {ls : List (Nat × Value)} {es es' : List En} (h : ∀ w, Fr S0 w0 w es -> Fr S0 w0 w es') (k : CI l N P n S0 w0 c Q ls es') : CI l N P n S0 w0 c Q ls es := fun a w ha hw => k a w ha (h w hw)
theorem Fr.bavI {S0 : Nat -> Prop} {w0 w : World} {es : List En} {gB m : Nat} {z : iq} {g : Nat} {ps : List P4} {tl : List Value} {xs : List Int} (hn : aP tl) (h : Fr S0 w0 w (.row g 27 (rn ps tl) :: .ns ps xs :: .jh gB m z :: es)) : Fr S0 w0 w (.tP gB m z g ps tl xs :: es) := by
 have hs := List.pairwise_cons.1 h.sep;refine Fr.si (X := [.row g 27 (rn ps tl), .ns ps xs, .jh gB m z]) h ⟨h.m2, hn, h.m0, h.m1, fun hb => ?_⟩ fun b hb => ?_
 · exact (hs.1 (.jh gB m z) (by simp)).1 rfl g rfl hb
 · rcases hb with hb | hb
   · exact ⟨.jh gB m z, by simp, rfl, hb⟩
   · exact ⟨.row g 27 (rn ps tl), by simp, rfl, hb⟩
theorem Fr.basR {S0 : Nat -> Prop} {w0 w : World} {es : List En} {gB m L : Nat} {z : iq} (h : Fr S0 w0 w (.jh gB m z :: es)) (hb : ∀ t < z.E.length, ∀ a ∈ z.E.getD t [], ag a.natAbs <= L) :
 Fr S0 w0 w (.row gB 71 (nH z) :: .rl z.ro (hG m z.gs) :: .xU L (z.gs.map fun g => (some ⟨g, 0, none⟩, m)) z.E :: es) := by
 obtain ⟨h1, h6, h7⟩ := h.yy;have h2 : Fr S0 w0 w (.lg 22 1 z.ro z.E.length z.rc (hG m z.gs) :: .gM z.E.length z.gs z.E :: .row gB 71 (nH z) :: es) := (h1.sub ((((List.Sublist.refl es).cons _).cons₂ _ |>.cons₂ _) |>.cons₂ _)).perm ((List.Perm.swap ..).trans ((List.Perm.swap ..).cons _));have h3 : Fr S0 w0 w (.rl z.ro (hG m z.gs) :: .gM z.E.length z.gs z.E :: .row gB 71 (nH z) :: es) := h2.conv kv.rl (fun b ⟨_, e⟩ => e) (fun q => nomatch q);have h4 : Fr S0 w0 w (.gM z.E.length z.gs z.E :: .rl z.ro (hG m z.gs) :: .row gB 71 (nH z) :: es) := h3.perm (List.Perm.swap ..);have hm : ∀ t, t < z.E.length -> ((z.gs.map fun g => ((some ⟨g, 0, none⟩ : Option Addr), m)).getD t (none, 0)).1 = some ⟨z.gs.getD t 0, 0, none⟩ := fun t ht => by
  rw [<- h6] at ht; simp [ht]
 have h5 : Fr S0 w0 w (.xU L (z.gs.map fun g => (some ⟨g, 0, none⟩, m)) z.E :: .rl z.ro (hG m z.gs) :: .row gB 71 (nH z) :: es) := h4.conv (fun hF t ht => by
  obtain ⟨ps, tl, _, hr, hns⟩ := (hF : wR z.E.length z.gs z.E w) t ht (by omega);rw [hm t ht]; exact lY hr hns (hb t ht)) (fun b ⟨t, ht, _, o, e⟩ => by
  rw [hm t ht] at e; cases e; exact ⟨t, ht, by omega, rfl⟩) (fun q => nomatch q)
 exact h5.perm (((List.Perm.swap ..).trans ((List.Perm.swap ..).cons _)).trans (List.Perm.swap ..))
def ed (E : List (List Int)) : Nat -> List Int
 | 0 => []
 | k + 1 => ed E k ++ E.getD k []
theorem jW {E : List (List Int)} {n : Nat} (hl : ∀ t < n, (E.getD t []).length = n) : ∀ k, k <= n -> (ed E k).length = k * n
 | 0, _ => by simp [ed]
 | k + 1, hk => by rw [ed, List.length_append, jW hl k (by omega), hl k (by omega), Nat.succ_mul]
theorem nd {E : List (List Int)} {n : Nat} (hl : ∀ t < n, (E.getD t []).length = n) : ∀ k, k <= n -> ∀ t < k, ∀ j < n, (ed E k).getD (t * n + j) 0 = gi (E.getD t []) j
 | 0, _, t, ht, _, _ => by omega
 | k + 1, hk, t, ht, j, hj => by
  have h0 := jW hl k (by omega);rw [ed, List.getD_eq_getElem?_getD];by_cases e : t < k
  · have h2 := bQ (r := k) (c := n) e hj;rw [List.getElem?_append_left (by omega), <- List.getD_eq_getElem?_getD]; exact nd hl k (by omega) t e j hj
  · obtain rfl : t = k := by omega
    rw [List.getElem?_append_right (by omega), h0, Nat.add_sub_cancel_left]; simp [gi]
theorem vN {E : List (List Int)} {n : Nat} (El : E.length = n) (hl : ∀ t < n, (E.getD t []).length = n) : ai (ed E n) n n = bw E := by
 funext t j;by_cases ht : t < n
 · by_cases hj : j < n
   · rw [aM ht hj, nd hl n (Nat.le_refl _) t ht j hj]; rfl
   · unfold ai bw;rw [if_neg (by omega)]; exact (er _ _ (by rw [hl t ht]; omega)).symm
 · unfold ai bw;rw [if_neg (by omega), List.getD_eq_getElem?_getD, List.getElem?_eq_none (by omega)]; simp [gi]
theorem wN {xs : List Int} {j : Nat} (h : j < xs.length) : xs.take (j + 1) = xs.take j ++ [gi xs j] := by
 rw [List.take_succ, List.getElem?_eq_getElem h, bV h]; rfl
theorem row_E {xs : List Int} {r n k : Nat} (hs : xs.length = r * n) (hk : k < r) : gi (rowOf xs n k) = ai xs r n k := by
 funext j;by_cases hj : j < n
 · unfold gi; rw [lC _ _ _ _ hj, aM hk hj]
 · unfold ai; rw [if_neg (by omega)]; exact er _ _ (by rw [dt hs hk]; omega)
structure vW (n r : Nat) (d : Int) (A : Mx) (k : Nat) (z : iq) : Prop where
 El : z.E.length = n
 rl : ∀ t < n, (z.E.getD t []).length = n
 dz : z.d = d
 bj : lu n d A k (bw z.E)
theorem vW.start {n r : Nat} {d : Int} {A : Mx} {z : iq} (hd : 0 < d) (h : z.E = jJ n d n /\ z.d = d) : vW n r d A 0 z :=
 ⟨by rw [h.1, eH], fun t ht => by rw [h.1]; simp [jJ, ht], h.2, lu.start hd A fun t ht i => by rw [h.1]; exact yS ht i⟩
theorem vW.next {n r k : Nat} {d : Int} {A : Mx} {z z' : iq} {xs : List Int} (h : vW n r d A k z) (hx : gi xs = A k) (hp : oG n z z' xs) : vW n r d A (k + 1) z' := by
 obtain ⟨h1, h2, h3, V, hV, hP⟩ := hp;rw [h.dz, hx] at hP;exact ⟨h2, h3, h1.trans h.dz, h.bj.next hP fun i hi => er _ _ (by omega)⟩
theorem vW.out {n r k : Nat} {d : Int} {A : Mx} {z : iq} (h : vW n r d A k z) : ∀ t < n, ∀ i, n <= i -> bw z.E t i = 0 := fun t ht i hi => er _ _ (by rw [h.rl t ht]; exact hi)
theorem factQ {P : Nat} {ds : List Deferred} {S0 : Nat -> Prop} {w0 : World} {n : Nat} {ls : List (Nat × Value)} {es : List En} {Q : Exit -> Act -> World -> Prop} {e : Exit} {A : Prop} (hA : ∀ w, Fr S0 w0 w es -> A) (k : A -> kP ds n S0 w0 Q e ls es) : kP ds n S0 w0 Q e ls es := fun a w ha hw => k (hA w hw) a w ha hw
theorem yn {gB m : Nat} {z : iq} {g : Nat} {ps : List P4} {tl : List Value} {xs : List Int} {w : World} (h : (En.tP gB m z g ps tl xs).F w) : Wl (fun b => cE gB z b ∨ b = g) w := fun b hb => by
 rcases hb with hb | rfl
 · exact h.1.rows hb
 · exact ⟨_, _, h.2.2.1, aP.rn h.2.1, by decide⟩
structure LoX where
 i : Nat
 k : Nat
 ao : Option Addr
 cap : Nat
 ps : List P4
structure LoI (n : Nat) (x : LoX) : Prop where
 hi : x.i <= n
 hk : x.i * n = x.k
structure LiX where
 j : Nat
 k : Nat
 ao : Option Addr
 cap : Nat
 ps : List P4
 zs : List Int
structure LiI (n i : Nat) (row base : List Int) (x : LiX) : Prop where
 hj : x.j <= n
 hk : i * n + x.j = x.k
 hz : x.zs = base ++ row.take x.j
def pj (n r : Nat) (d : Int) (A : Mx) (zs : List Int) : Prop := zs.length = n * n /\ Md n ((d.natAbs : Nat) : Int) r A (ai zs n n) /\ ∀ t < n, ∀ k, (ai zs n n t k).natAbs <= d.natAbs
set_option maxRecDepth 100000 in
set_option maxHeartbeats 8000000 in
theorem tI (r n nm B cap : Nat) (ao : Option Addr) (xs : List Int) (d : Int) (pd : P4) (w : World) (hr : r <= 64) (hn : n <= 64) (hB : B <= 1000000000) (hA : aI w B ao xs) (hs : xs.length = r * n) (hnm : xs.length = nm) (hd0 : d ≠ 0) (hD : aw w B (av pd) d) :
 Calls Try.prog 10 #[.agg #[.int .i64 (r : Int), .int .i64 (n : Int), .slice ao nm cap], av pd] w fun e w' => (∃ p : (Option Addr × Nat) × List Int, e = .returned (.tuple #[.agg #[.int .i64 (n : Int), .int .i64 (n : Int), .slice p.1.1 (n * n) p.1.2], .int .i64 0]) /\ ea w' p.1.1 p.2 /\ pj n r d (ai xs r n) p.2 /\ ∀ b o, p.1.1 = some ⟨b, o, none⟩ -> w.heap.size <= b) /\ Below w.heap.size w w' := by
 have hxb := fT hA;have hC : ∀ w', Calls Try.prog 14 #[.agg #[.int .i64 (r : Int), .int .i64 (n : Int), .slice ao nm cap]] w' fun e w'' => e = .returned (.int .i64 0) /\ Below w'.heap.size w' w'' := fun w' => by
  have := cF (r : Int) (n : Int) ao nm cap w' (by omega) (by omega);rw [dm (by unfold aR bB; rw [<- hnm, hs]; simp; omega)] at this; exact this
 have cL := fun w' (h : aI w' B ao xs) => od r n nm ao cap xs w' hr hn (fun hl => by
  obtain ⟨b, o, e, hlt, hc⟩ := h hl;exact ⟨b, o, e, hlt, fun i hi => by obtain ⟨p, h0, h1, hn⟩ := hc i hi; exact ⟨p, h0, h1, hn.mono (by omega)⟩⟩) hs hnm
 have hwx : ∀ x ∈ xs, ag x.natAbs <= B := fun x hx => an (hxb x hx);obtain ⟨dd, hdd⟩ : ∃ dd : Int, ((d.natAbs : Nat) : Int) = dd := ⟨_, rfl⟩;have hdp : 0 < dd := by omega
 have hdw : ag dd.natAbs <= B := by rw [<- hdd]; exact hD.ag
 obtain ⟨A, hAe⟩ : ∃ A, ai xs r n = A := ⟨_, rfl⟩;have hrow : ∀ k < r, gi (rowOf xs n k) = A k := fun k hk => by rw [<- hAe]; exact row_E hs hk
 have hrl : ∀ k < r, (rowOf xs n k).length = n := fun k hk => dt hs hk;have hrw : ∀ k, ∀ x ∈ rowOf xs n k, ag x.natAbs <= B := fun k x hx => hwx x (List.mem_of_mem_drop (List.mem_of_mem_take hx));have HC := Lib.hid (And.intro hC cL);have HS := Lib.hid (And.intro hs (And.intro hnm (fun x hx => Nat.le_trans (hwx x hx) (show B <= 17592186044415 by omega))));have HR := Lib.hid (And.intro hrow (And.intro hrl hrw));have HD := Lib.hid (And.intro hdd (And.intro hdp hdw));have HA := Lib.hid hAe;have hz1 := zs1 hd0;rw [hAe];have HF := ((Fr.nil (fun _ => False) w).i hD).l hA (by simp [En.wr, En.at]);clear hC cL hxb hwx hs hnm hrow hrl hrw hdd hdp hdw hAe hA hD;refine y8 (S0 := fun _ => False) Try.func10 HF ?_;clear HF;refine ae ?_;refine rW [] ?_;refine aW fun g2 => ?_;refine aW fun g3 => ?_;refine aW fun g4 => ?_;refine dW ?_;refine eW ?_;refine ae ?_;refine rW [] ?_;refine dW ?_;refine cV (v := .int .i64 0) (fun w' H => HC.out.1 w') ?_;refine dW ?_;refine eW ?_;refine ae ?_;refine rW [] ?_;refine dW ?_;refine dB false ?_;refine eW ?_;refine ae ?_;refine bX ?_;refine ae ?_;refine rW [] ?_;refine dW ?_;refine cV (v := .int .i64 (bb d)) (fun w' H => dy (av pd) d w' ((H.all (.at B (av pd) d) (by simp [av]) : aw ..).mono (by omega))) ?_;refine dB false ?_;refine eW ?_;refine ae ?_;refine bX ?_;refine ae ?_;refine rW [] ?_;refine dW ?_;refine dW ?_;refine dW ?_;refine cG (α := Nat × iq) (mk := fun q => .pointer (some ⟨q.1, 0, none⟩)) (ens := fun q => [.jh q.1 n q.2, .pr (q.2.E = jJ n dd n /\ q.2.d = dd)]) (hne := ⟨(0, ⟨none, 0, [], [], p0, 0⟩)⟩) (fun w' H => (tZ n d pd w' hn ((H.all (.at B (av pd) d) (by simp [av]) : aw ..).mono (by omega))).mono fun e w'' ⟨q, he, hnw, h1, h2⟩ => ⟨q, he, hnw.1, fun e he => by
  rcases List.mem_cons.1 he with rfl | he
  · exact hnw.2.1 _ (List.mem_singleton.2 rfl)
  · rcases List.mem_singleton.1 he with rfl;rw [<- HD.out.1]; exact ⟨⟨h1, h2⟩, fun _ h => h.elim⟩, .cons (fun x hx => by rcases List.mem_singleton.1 hx with rfl; exact ⟨fun _ _ _ h => h, fun q => nomatch q⟩) (List.pairwise_singleton ..)⟩) fun q0 => ?_
 refine aW fun g7 => ?_;refine sG ?_;refine eW ?_;refine ae ?_;refine lJ (A := q0.2.E = jJ n dd n /\ q0.2.d = dd) (by simp) fun hq0 => ?_;have HQ0 := Lib.hid (vW.start (r := r) (A := A) HD.out.2.1 hq0);clear hq0;obtain ⟨gB, z0⟩ := q0;refine cZ (es' := [.row g7 63 [.pointer (some ⟨gB, 0, none⟩)], .row g2 24 [.int .i64 (r : Int), .int .i64 (n : Int), .slice ao nm cap], .row g4 24 [.int .i64 0, .int .i64 0, .slice none 0 0], .ls B ao xs, .jh gB n z0]) ?_;refine rW [] ?_;refine dW ?_;refine cG (α := (Nat × Nat) × List P4 × List Value) (mk := fun q => .func (.func 55) #[] #[.pointer (some ⟨q.1.1, 0, none⟩)]) (ens := fun q => [.row q.1.1 24 [.int .i64 (r : Int), .int .i64 (n : Int), .slice (some ⟨q.1.2, 0, none⟩) nm nm], .row q.1.2 27 (rn q.2.1 q.2.2), .ns q.2.1 xs, .pr (aP q.2.2)]) (fun w' H => HC.out.2 w' (H.all (.ls B ao xs) (by simp))) fun q => ?_;refine eW ?_;refine ae ?_;refine lJ (A := aP q.2.2) (by simp) fun hq => ?_;refine sD (X := iq) (gb := q.1.1) (b := q.1.2) (r := r) (c := n) (m := nm) (ps := q.2.1) (tl := q.2.2) (xs := xs) (vW n r dd A)
  (fun x => [.row g7 63 [.pointer (some ⟨gB, 0, none⟩)], .row g2 24 [.int .i64 (r : Int), .int .i64 (n : Int), .slice ao nm cap], .row g4 24 [.int .i64 0, .int .i64 0, .slice none 0 0], .jh gB n x])
  (fun D x => [.row g7 63 [.pointer (some ⟨gB, 0, none⟩)], .row g2 24 [.int .i64 (r : Int), .int .i64 (n : Int), .slice ao nm cap], .row g4 24 [.int .i64 0, .int .i64 0, .slice none 0 0], .jh gB n x, .tt w.heap.size D])
  z0 (fun k g => [(9, .slice (some ⟨g, 0, none⟩) n n), (7, .pointer (some ⟨g7, 0, none⟩))]) hr hn HS.out.1 HS.out.2.1 HS.out.2.2 hq HQ0.out (fun l k g W => ?_) (fun l k x g qs tk S' W hx hk htk => ?_) (fun D x hx => ?_)
  (fun x => .cons .row .row (.cons .row .row (.cons .row .row (.cons .jh .jh .nil))))
 · refine vM ?_;refine rI [] ?_;refine dW ?_;refine eW ?_;refine vM ?_;exact asgE
 · have HX := Lib.hid hx;clear hx;refine vM ?_;refine chgI (es' := [.row g7 63 [.pointer (some ⟨gB, 0, none⟩)], .row g2 24 [.int .i64 (r : Int), .int .i64 (n : Int), .slice ao nm cap], .row g4 24 [.int .i64 0, .int .i64 0, .slice none 0 0], .tP gB n x g qs tk (rowOf xs n k)]) (fun w' h => by
    have h2 : Fr S' W w' (.row g 27 (rn qs tk) :: .ns qs (rowOf xs n k) :: .jh gB n x :: [.row g7 63 [.pointer (some ⟨gB, 0, none⟩)], .row g2 24 [.int .i64 (r : Int), .int .i64 (n : Int), .slice ao nm cap], .row g4 24 [.int .i64 0, .int .i64 0, .slice none 0 0]]) := h.pick (by repeat (first | exact Pk.n | refine Pk.c (by repeat (first | exact Rm.z | apply Rm.s)) ?_));exact (h2.bavI htk).pick (by repeat (first | exact Pk.n | refine Pk.c (by repeat (first | exact Rm.z | apply Rm.s)) ?_))) ?_
   refine rI [] ?_;refine dW ?_;refine dW ?_;refine cUp (α := iq) (mk := fun _ => .tuple #[]) (e := .tP gB n x g qs tk (rowOf xs n k)) (e' := fun p => .jh gB n p) (ens := fun p => [.pr (oG n x p (rowOf xs n k))]) (fun w' H => (za gB n B g x qs tk (rowOf xs n k) w' hn hB HX.out.El HX.out.rl (by rw [HX.out.dz]; exact HD.out.2.1) (by rw [HX.out.dz]; exact HD.out.2.2) (HR.out.2.1 k hk) (HR.out.2.2 k) (by rw [HX.out.dz, HR.out.1 k hk]; exact HX.out.bj.open) (H.all (.tP gB n x g qs tk (rowOf xs n k)) (by simp))).mono fun e w'' ⟨p, he, q1, q2, q3, q4⟩ => ⟨p, he, q1, q2, q3, fun y hy => by rcases List.mem_singleton.1 hy with rfl; exact ⟨q4, fun _ h => h⟩⟩) (fun w h => yn h) (hne := ⟨x⟩) fun p => ?_;refine eW ?_;refine vM ?_;refine factQ (P := 0) (A := oG n x p (rowOf xs n k)) (fun w' h => h.all (.pr (oG n x p (rowOf xs n k))) (by simp)) fun hp => ?_;exact rdE p (HX.out.next (HR.out.1 k hk) hp)
 have HX := Lib.hid hx;clear hx;refine ae ?_;refine rW [] ?_;refine dW ?_;refine cUp (α := iq) (mk := fun _ => .tuple #[]) (e := .jh gB n x) (e' := fun p => .jh gB n p) (ens := fun p => [.pr (TdR n r A x p)]) (fun w' H => (xG gB n r B A x w' hn hB HX.out.El HX.out.rl (by rw [HX.out.dz]; exact HD.out.2.2) (by rw [HX.out.dz]; exact lN.start HX.out.bj HD.out.2.1 HX.out.out) (H.all (.jh gB n x) (by simp))).mono fun e w'' ⟨p, he, q1, q2, q3, q4⟩ => ⟨p, he, q1, q2, q3, fun y hy => by rcases List.mem_singleton.1 hy with rfl; exact ⟨q4, fun _ h => h⟩⟩) (fun w h => cT.wl h) (hne := ⟨x⟩) fun p => ?_;refine eW ?_;refine ae ?_;refine lJ (A := TdR n r A x p) (by simp) fun hp => ?_;have HP := Lib.hid hp;clear hp;obtain ⟨ro, rc, gs, E, dp, d'⟩ := p;refine cZ (es' := [.row g7 63 [.pointer (some ⟨gB, 0, none⟩)], .row g2 24 [.int .i64 (r : Int), .int .i64 (n : Int), .slice ao nm cap], .row g4 24 [.int .i64 0, .int .i64 0, .slice none 0 0], .jh gB n ⟨ro, rc, gs, E, dp, d'⟩, .tt w.heap.size D]) ?_;have hEb : ∀ t < n, ∀ a ∈ E.getD t [], ag a.natAbs <= B := fun t ht a ha => by
  obtain ⟨i, hi, rfl⟩ := List.getElem_of_mem ha;rw [<- bV hi];have h1 : (bw E t i).natAbs <= x.d.natAbs := HP.out.2.2.2.2 t ht i;rw [HX.out.dz] at h1;exact Nat.le_trans (aH h1) HD.out.2.2
 have HEb := Lib.hid hEb;clear hEb;obtain ⟨hs, hhs⟩ : ∃ hs : List (Option Addr × Nat), (gs.map fun g => ((some ⟨g, 0, none⟩ : Option Addr), n)) = hs := ⟨_, rfl⟩;refine sk (A := gs.length = n) (fun w' h' => (h'.m3 : cT gB n ⟨ro, rc, gs, E, dp, d'⟩ w').2.1.trans HP.out.2.1) fun hgl => ?_;refine wW (es' := [.row g7 63 [.pointer (some ⟨gB, 0, none⟩)], .row g2 24 [.int .i64 (r : Int), .int .i64 (n : Int), .slice ao nm cap], .row g4 24 [.int .i64 0, .int .i64 0, .slice none 0 0], .row gB 71 [.slice ro n rc, .bool dp.1, .slice dp.2.1 dp.2.2.1 dp.2.2.2], .rl ro (hG n gs), .xU B hs E, .tt w.heap.size D]) (fun w' h' => by
  have h2 : Fr _ w w' (.jh gB n ⟨ro, rc, gs, E, dp, d'⟩ :: [.row g7 63 [.pointer (some ⟨gB, 0, none⟩)], .row g2 24 [.int .i64 (r : Int), .int .i64 (n : Int), .slice ao nm cap], .row g4 24 [.int .i64 0, .int .i64 0, .slice none 0 0], .tt w.heap.size D]) := h'.pick (by repeat (first | exact Pk.n | refine Pk.c (by repeat (first | exact Rm.z | apply Rm.s)) ?_));have h3 := h2.basR (L := B) (fun t ht => HEb.out t (by rw [<- HP.out.2.1]; exact ht));have h4 : Fr _ w w' (.row gB 71 [.slice ro E.length rc, .bool dp.1, .slice dp.2.1 dp.2.2.1 dp.2.2.2] :: .rl ro (hG n gs) :: .xU B (gs.map fun g => (some ⟨g, 0, none⟩, n)) E :: [.row g7 63 [.pointer (some ⟨gB, 0, none⟩)], .row g2 24 [.int .i64 (r : Int), .int .i64 (n : Int), .slice ao nm cap], .row g4 24 [.int .i64 0, .int .i64 0, .slice none 0 0], .tt w.heap.size D]) := h3;rw [show E.length = n from HP.out.2.1, hhs] at h4;exact h4.pick (by repeat (first | exact Pk.n | refine Pk.c (by repeat (first | exact Rm.z | apply Rm.s)) ?_))) ?_
 have HG := Lib.hid (And.intro hhs hgl);clear hhs hgl;refine rW [] ?_;refine dW ?_;refine dW ?_;refine dW ?_;refine dW ?_;refine dW ?_;refine aW fun g10 => ?_;refine sG ?_;refine eW ?_;refine ae ?_;refine rW [] ?_;refine dW ?_;refine dW ?_;refine dW ?_;refine dW ?_;refine dW ?_;refine dW ?_;refine eW ?_;refine ae ?_;refine lst0W ?_;refine iZ (e := .ns [] []) (fun w' _ => bg.nil w') ?_;refine bF (X := LoX) (LoI n) (fun x => n - x.i) (fun x => [(48, .int .i64 (x.i : Int)), (47, .int .i64 (n : Int)), (46, .slice ro n rc), (10, .pointer (some ⟨g10, 0, none⟩)), (4, .pointer (some ⟨g4, 0, none⟩))])
  (fun x => [.row g10 24 [.int .i64 (n : Int), .int .i64 (n : Int), .slice x.ao x.k x.cap], .row g4 24 [.int .i64 0, .int .i64 0, .slice none 0 0], .fV x.ao x.k x.cap x.ps, .ns x.ps (ed E x.i), .rl ro (hG n gs), .xU B hs E, .tt w.heap.size D]) ⟨0, 0, none, 0, []⟩ ⟨Nat.zero_le _, Nat.zero_mul _⟩ fun y hy => ?_
 obtain ⟨i, K, ao1, cap1, ps1⟩ := y;have hi : i <= n := hy.hi;have HK : Hid (i * n = K) := Lib.hid hy.hk;clear hy;by_cases h : i < n
 · have h01 : (i : Int) < (n : Int) := by omega
   refine ae ?_;refine rW [] ?_;refine dB true ?_;refine eW ?_;refine ae ?_;obtain ⟨bi, hbi⟩ : ∃ bi, gs.getD i 0 = bi := ⟨_, rfl⟩;have k1 := kg (c := n) [] (by rw [HG.out.2]; exact h) hbi;rw [List.append_nil] at k1;refine rlW (ao := ro) (cs := hG n gs) (v := .slice (some ⟨bi, 0, none⟩) n n) i (by simp) k1 fun rb hrb => ?_;subst hrb;refine lrsW (L := B) (hs := hs) (R := E) i (by simp) (by rw [show E.length = n from HP.out.2.1]; exact h) ?_;rw [show (hs.getD i (none, 0)).1 = some ⟨bi, 0, none⟩ by rw [<- HG.out.1, <- hbi]; have := HG.out.2; simp [show i < gs.length by omega]];obtain ⟨row, hrow⟩ : ∃ row, E.getD i [] = row := ⟨_, rfl⟩;rw [hrow];have hrl : row.length = n := by rw [<- hrow]; exact HP.out.2.2.1 i h
   have HW := Lib.hid (And.intro hrow hrl);clear hrow hrl hbi k1;refine dO ?_;refine ae ?_;refine rW [] ?_;refine dW ?_;refine dW ?_;refine dW ?_;refine eW ?_;refine ae ?_;refine rW [] ?_;refine dW ?_;refine dW ?_;refine dW ?_;refine eW ?_;refine ae ?_;refine bF (X := LiX) (LiI n i row (ed E i)) (fun x => n - x.j) (fun x => [(54, .int .i64 (x.j : Int)), (53, .int .i64 (n : Int)), (52, .slice (some ⟨bi, 0, none⟩) n n), (48, .int .i64 (i : Int)), (47, .int .i64 (n : Int)), (46, .slice (some ⟨rb, 0, none⟩) n rc), (10, .pointer (some ⟨g10, 0, none⟩)), (4, .pointer (some ⟨g4, 0, none⟩))])
    (fun x => [.row g10 24 [.int .i64 (n : Int), .int .i64 (n : Int), .slice x.ao x.k x.cap], .row g4 24 [.int .i64 0, .int .i64 0, .slice none 0 0], .fV x.ao x.k x.cap x.ps, .ns x.ps x.zs, .ls B (some ⟨bi, 0, none⟩) row, .rl (some ⟨rb, 0, none⟩) (hG n gs), .xU B hs E, .tt w.heap.size D]) ⟨0, K, ao1, cap1, ps1, ed E i⟩ ⟨Nat.zero_le _, HK.out, by simp⟩ fun y hy => ?_
   obtain ⟨j, K2, ao2, cap2, ps2, zs⟩ := y;have hj : j <= n := hy.hj;have HY := Lib.hid (And.intro (show i * n + j = K2 from hy.hk) (show zs = ed E i ++ row.take j from hy.hz));clear hy;by_cases h2 : j < n
   · have h02 : (j : Int) < (n : Int) := by omega
     have hKN : K2 <= 100000000 := by have h3 := HY.out.1; have h4 := bQ (r := n) (c := n) h h2; have := Nat.mul_le_mul hn hn; omega
     refine ae ?_;refine rW [] ?_;refine dB true ?_;refine eW ?_;refine ae ?_;refine jj (L := B) (xs := row) (b := bi) (o := 0) j (by simp) (by rw [HW.out.2]; exact h2) fun pv => ?_;rw [Nat.zero_add];refine dO ?_;refine ae ?_;refine rW [] ?_;refine dW ?_;refine dW ?_;refine aW fun g14 => ?_;refine sG ?_;refine eW ?_;refine ae ?_;refine rW [] ?_;refine dW ?_;refine dW ?_;refine dW ?_;refine cN (x := gi row j) (fun w' H => fJ (av pv) (gi row j) w' ((H.all (.at B (av pv) (gi row j)) (by simp [av]) : aw ..).mono (by omega))) fun q => ?_;refine fj (e := .ns (ps2 ++ [q]) (zs ++ [gi row j])) (fun w' H => bg.snoc (H.all (.ns ps2 zs) (by simp)) (H.all (.own w.heap.size (av q) (gi row j)) (by simp [av]) : ak ..).num) ?_;refine bW (m := 1) fun g62 => ?_;refine zj (g := g62) (t := 27) (c := 1) (ao := ao2) (k := K2) (cap := cap2) (ps := ps2) q hKN (by simp) fun z => ?_;refine dW ?_;refine sW ?_;refine eW ?_;refine ae ?_;refine rW [] ?_;refine dE (cd (a := j) (by omega)) ?_;refine dW ?_;refine eW ?_;refine ae ?_;exact bh (⟨j + 1, K2 + 1, z.1, z.2, ps2 ++ [q], zs ++ [gi row j]⟩ : LiX) ⟨⟨h2, by show i * n + (j + 1) = K2 + 1; have := HY.out.1; omega, by show zs ++ [gi row j] = ed E i ++ row.take (j + 1); rw [wN (by rw [HW.out.2]; exact h2), HY.out.2, List.append_assoc]⟩, by show n - (j + 1) < n - j; omega⟩
   · obtain rfl : n = j := by omega
     have hzs : zs = ed E (i + 1) := by rw [HY.out.2, ed, HW.out.1, <- HW.out.2, List.take_length]
     have HZ := Lib.hid hzs;clear hzs;refine ae ?_;refine rW [] ?_;refine dB false ?_;refine eW ?_;refine ae ?_;refine bX ?_;refine ae ?_;refine rW [] ?_;refine dE (cd (a := i) (by omega)) ?_;refine dW ?_;refine eW ?_;refine ae ?_;exact bh (⟨i + 1, K2, ao2, cap2, ps2⟩ : LoX) ⟨⟨h, by show (i + 1) * n = K2; rw [Nat.succ_mul]; exact HY.out.1⟩, by show n - (i + 1) < n - i; omega⟩ (he := by
      intro w' h';rw [HZ.out] at h';exact h'.pick (by repeat (first | exact Pk.n | refine Pk.c (by repeat (first | exact Rm.z | apply Rm.s)) ?_)))
 · obtain rfl : n = i := by omega
   refine ae ?_;refine rW [] ?_;refine dB false ?_;refine eW ?_;refine ae ?_;refine bX ?_;refine ae ?_;refine rW [] ?_;refine dW ?_;refine sW ?_;refine dW ?_;refine eW ?_;refine ae ?_;refine fin2M (D := D) (es' := [.row g4 24 [.int .i64 (n : Int), .int .i64 (n : Int), .slice ao1 K cap1], .fV ao1 K cap1 ps1, .ns ps1 (ed E n)]) (fun w' H => ?_) (.cons .row .row (.cons .fV .fV (.cons .ns (.no rfl) .nil))) (by simp);have hK := HK.out;subst hK;have hE := vN HP.out.2.1 HP.out.2.2.1;refine ⟨_, _, lO H.m0, cX, ⟨((ao1, cap1), ed E n), rfl, kO H.m1 H.m2, ⟨jW HP.out.2.2.1 n (Nat.le_refl _), ?_, ?_⟩, fun b o e => (H.own (.fV ao1 (n * n) cap1 ps1) (by simp) rfl b ⟨o, e⟩).elim (fun h => h.elim) id⟩, H.below⟩
   · show Md n _ r A (ai (ed E n) n n);rw [hE, HD.out.1, <- HX.out.dz]; exact HP.out.2.2.2.1
   · show ∀ t < n, ∀ k, (ai (ed E n) n n t k).natAbs <= _;rw [hE];intro t ht k;have := HP.out.2.2.2.2 t ht k;rw [HX.out.dz, <- HD.out.1] at this; exact this
section
variable {ops : Array Oper} {Q : Exit -> Act -> World -> Prop} {ds : List Deferred} {S0 : Nat -> Prop} {w0 : World} {E0 : List En} {hd : List (List Nat)} {n j s : Nat} {l : List Nat} {G E : List En} {ls : List (Nat × Value)} {ty : TypeId} {pos : String} {af : Array Edge}
theorem mI {sl sc : Operand} (y : Nat) (hb : y <= 4096) (k : ∀ g, cW ds ⟨Try.prog, ops, Q, S0, w0, E0, hd⟩ n l (.row g 3 (iL (List.replicate y 0)) :: G) E ((s, .slice (some ⟨g, 0, none⟩) y y) :: ls))
 (ho : ops[j]? = some ⟨some s, .makeSlice 54 sl sc, ty, pos, af, none⟩ := by rfl) (hk : (di ls (.makeSlice 54 sl sc) && Nat.blt s n) = true := by kernel_rfl)
 (h1 : cj ls sl = .int .i64 (y : Int) := by (simp only [bN, Nat.reduceEqDiff, ↓reduceIte]) <;> rfl) (h2 : cj ls sc = .int .i64 (y : Int) := by (simp only [bN, Nat.reduceEqDiff, ↓reduceIte]) <;> rfl) : cW ds ⟨Try.prog, ops, Q, S0, w0, E0, hd⟩ n (j :: l) G E ls := fun A hA => by
 simp only [Bool.and_eq_true] at hk;refine ⟨_, ho, .inr (.inl ⟨rfl, rfl, fun g => .slice (some ⟨g, 0, none⟩) y y, 3, iL (List.replicate y 0), ⟨rfl, fun w => ?_⟩, fun g => k g _ (hA.put (Nat.le_of_ble_eq_true hk.2) _)⟩)⟩;rw [hA.exec (o := ⟨some s, .makeSlice 54 sl sc, ty, pos, af, none⟩) hk.1];obtain ⟨i, hi, hz, hs, hbt⟩ := info_parts rj;have hr := run_make (P := Try.prog) w 54 3 i (.int .i64 0) Try.underlying54 hi hz .i64 .i64 y y (by omega) (by omega) (by rw [hbt]; omega) (by omega);simp only [Int.toNat_natCast] at hr;have e : madeCells (Value.int .i64 0).cells (y * i.size) = (iL (List.replicate y 0)).toArray := by
  have := iP (.int .i64 0) rfl y;rw [hs, show iL (List.replicate y 0) = List.replicate y (.int .i64 0) by simp [iL], <- this]
 simp [execOp, h1, h2, hr, Result.andThen, e]
end
structure UtX where
 k : Nat
 ns : List Nat
structure UtI (n : Nat) (x : UtX) : Prop where
 hk : x.k <= n
 hl : x.ns.length = n
 val : ∀ t < x.k, x.ns.getD t 0 = t
theorem yY {ns : List Nat} {k x : Nat} : (iL ns).set k (.int .i64 (x : Int)) = iL (ns.set k x) := by unfold iL; rw [List.map_set]
set_option maxRecDepth 100000 in
set_option maxHeartbeats 1000000 in
theorem sb (n : Nat) (w : World) (hn : n <= 64) : Calls Try.prog 37 #[.int .i64 (n : Int)] w fun e w' => ∃ g : Nat, e = .returned (.slice (some ⟨g, 0, none⟩) n n) /\ Nw w w' [.row g 3 (iL (List.range n))] := by
 refine aZ (S0 := fun _ => False) Try.func37 (Fr.nil _ w) ?_;refine ae ?_;refine rW [] ?_;refine dW ?_;refine eW ?_;refine ae ?_;refine rW [] ?_;refine dW ?_;refine mI n (by omega) fun g => ?_;refine dW ?_;refine eW ?_;refine ae ?_;refine rW [] ?_;refine dW ?_;refine dW ?_;refine dW ?_;refine eW ?_;refine ae ?_;refine bF (X := UtX) (UtI n) (fun x => n - x.k) (fun x => [(9, .int .i64 (x.k : Int)), (8, .int .i64 (n : Int)), (3, .slice (some ⟨g, 0, none⟩) n n)])
  (fun x => [.row g 3 (iL x.ns)]) ⟨0, List.replicate n 0⟩ ⟨Nat.zero_le _, by simp, fun t ht => absurd ht (Nat.not_lt_zero _)⟩ fun x hx => ?_
 obtain ⟨k, ns⟩ := x;have hk : k <= n := hx.hk;have HX : Hid (UtI n ⟨k, ns⟩) := Lib.hid hx;clear hx;by_cases h : k < n
 · have h01 : (k : Int) < (n : Int) := by omega
   obtain ⟨x0, hx0⟩ : ∃ x0, ns.getD k 0 = x0 := ⟨_, rfl⟩;have k1 := kY [] (by rw [show ns.length = n from HX.out.hl]; exact h) hx0;rw [List.append_nil] at k1;clear hx0;refine ae ?_;refine rW [] ?_;refine dB true ?_;refine eW ?_;refine ae ?_;refine dO ?_;refine ae ?_;refine rW [] ?_;refine dW ?_;refine dW ?_;refine eW ?_;refine ae ?_;refine rW [] ?_;refine dW ?_;refine dW ?_;refine dW ?_;refine dW ?_;refine sW (b := g) (k := k) (cs := iL ns) (us := [.int .i64 (k : Int)]) (hU := rfl) (hu := ⟨fY ns, by decide⟩) ?_;refine eW ?_;refine ae ?_;refine rW [] ?_;refine dE (cd (a := k) (by omega)) ?_;refine dW ?_;refine eW ?_;refine ae ?_;exact bh (⟨k + 1, ns.set k k⟩ : UtX) ⟨⟨h, by show (ns.set k k).length = n; rw [List.length_set]; exact HX.out.hl, fun t ht => by
    show (ns.set k k).getD t 0 = t;rw [cn (by rw [show ns.length = n from HX.out.hl]; exact h)];split
    · omega
    · exact HX.out.val t (by show t < k; have ht : t < k + 1 := ht; omega)⟩, by show n - (k + 1) < n - k; omega⟩ (he := by
    intro w' h';rw [yY] at h';exact h'.pick (by repeat (first | exact Pk.n | refine Pk.c (by repeat (first | exact Rm.z | apply Rm.s)) ?_)))
 · obtain rfl : n = k := by omega
   have hE : ns = List.range n := List.ext_getElem (by rw [show ns.length = n from HX.out.hl]; simp) fun t h1 h2 => by
    have := HX.out.val t (by show t < n; have := HX.out.hl; have h3 : ns.length = n := this; omega);rw [show ns.getD t 0 = ns[t] by simp [h1]] at this;rw [this]; simp
   have HE := Lib.hid hE;clear hE;refine ae ?_;refine rW [] ?_;refine dB false ?_;refine eW ?_;refine ae ?_;refine bX ?_;refine ae ?_;refine rW [] ?_;refine dW ?_;refine dW ?_;refine eW ?_;refine ae ?_;refine cQ fun w' H => ?_;exact ⟨_, cX, g, rfl, H.below, fun e he => by rcases List.mem_singleton.1 he with rfl; exact ⟨by rw [<- HE.out]; exact H.m0, fun b hb => (H.own _ (List.mem_cons_self ..) rfl b hb).elim (fun h => h.elim) id⟩, List.pairwise_singleton ..⟩
theorem ir {m k mw : Nat} {xs : List Int} {c1 c2 : Nat -> Nat} (hk : k <= 64) (h : ∀ x ∈ xs, ag x.natAbs <= mw) : ag (bK m xs k c1 c2).natAbs <= 64 * (mw + 1) := by
 unfold bK;refine an (Nat.lt_of_le_of_lt (rC (B := W ^ mw) k _ fun i j => ?_) (pO hk));have hb := fm (m := m) (K := k * k) (k := k) (rs := (List.range k).map c1) (cs := (List.range k).map c2) h;refine Nat.le_of_lt (dC (Nat.pow_pos (by unfold W; omega)) (fun x hx => ?_) i j);exact Nat.lt_of_lt_of_le (aT _) (Nat.pow_le_pow_right (by decide) (hb x hx))
def ei (n m : Nat) (xs : List Int) (k : Nat) (c1 c2 : Nat -> Nat) (zs : List Int) : Prop := eu m n (ai (jq n m xs) m n) k c1 /\ eu n m (ai xs n m) k c2 /\ pj k n (bK m xs k c1 c2) (ai (aC k (bL m xs (List.range n) ((List.range k).map c2)) (n * k)) n k) zs
set_option maxRecDepth 100000 in
set_option maxHeartbeats 4000000 in
theorem mQ (n m nm mw cap : Nat) (ao : Option Addr) (xs : List Int) (w : World) (hn : n <= 64) (hm : m <= 64) (hmw : mw <= 1048577) (hA : aI w mw ao xs) (hs : xs.length = n * m) (hnm : xs.length = nm) (hrk : ∀ k1 c1 k2 c2, eu m n (ai (jq n m xs) m n) k1 c1 -> eu n m (ai xs n m) k2 c2 -> k1 = k2) (hcd : ∀ k c1 c2, eu m n (ai (jq n m xs) m n) k c1 -> eu n m (ai xs n m) k c2 -> bK m xs k c1 c2 ≠ 0) :
 Calls Try.prog 25 #[.agg #[.int .i64 (n : Int), .int .i64 (m : Int), .slice ao nm cap]] w fun e w' => ∃ p : (((Option Addr × Nat) × List Int) × (Option Addr × Nat) × (Option Addr × Nat)) × (Nat × (Nat -> Nat) × (Nat -> Nat)) × P4, e = .returned (.tuple #[.agg #[.int .i64 (p.2.1.1 : Int), .int .i64 (p.2.1.1 : Int), .slice p.1.1.1.1 (p.2.1.1 * p.2.1.1) p.1.1.1.2], .slice p.1.2.1.1 p.2.1.1 p.1.2.1.2, .slice p.1.2.2.1 p.2.1.1 p.1.2.2.2, av p.2.2, .int .i64 0]) /\ Nw w w' [.pr (ei n m xs p.2.1.1 p.2.1.2.1 p.2.1.2.2 p.1.1.2), .gX p.1.1.1.1 p.1.1.2, .lg 3 1 p.1.2.1.1 p.2.1.1 p.1.2.1.2 (iL ((List.range p.2.1.1).map p.2.1.2.1)), .lg 3 1 p.1.2.2.1 p.2.1.1 p.1.2.2.2 (iL ((List.range p.2.1.1).map p.2.1.2.2)), .own w.heap.size (av p.2.2) (bK m xs p.2.1.1 p.2.1.2.1 p.2.1.2.2)] := by
 have hwx : ∀ x ∈ xs, ag x.natAbs <= mw := fun x hx => an (fT hA x hx);have hC := fun w' (h : aI w' mw ao xs) => xo n m nm mw cap ao xs w' hn hm hmw h hs hnm hrk;have hK := fun k1 c1 k2 c2 ro co (rs cs : List Nat) w' a1 a2 (a3 : aI w' mw ao xs) a4 a5 a6 a7 a8 a9 => nT n m nm cap k1 c1 k2 c2 mw ao ro co rs cs xs w' a1 a2 a3 (by omega) a4 a5 hs hnm a6 a7 hn hm a8 a9;have HC := Lib.hid (And.intro hC (And.intro hK (And.intro hcd hwx)));obtain ⟨B, hB⟩ : ∃ B, 64 * (mw + 1) = B := ⟨_, rfl⟩;have hBm : B <= 1000000000 := by omega
 have hmB : mw <= B := by omega
 have HB := Lib.hid hB;clear hC hK hrk hcd hwx hs hnm hB;refine aZ (S0 := fun _ => False) Try.func25 ((Fr.nil _ w).l hA (by simp)) ?_;clear hA;refine ae ?_;refine rW [] ?_;refine aW fun g1 => ?_;refine aW fun g2 => ?_;refine dW ?_;refine dW ?_;refine aW fun g5 => ?_;refine dW ?_;refine eW ?_;refine ae ?_;refine rW [] ?_;refine dW ?_;refine cG (α := ((Option Addr × Nat) × (Option Addr × Nat)) × (Nat × (Nat -> Nat) × (Nat -> Nat)) × P4) (mk := fun p => .tuple #[.slice p.1.1.1 p.2.1.1 p.1.1.2, .slice p.1.2.1 p.2.1.1 p.1.2.2, .agg #[.bool p.2.2.1, .slice p.2.2.2.1 p.2.2.2.2.1 p.2.2.2.2.2], .int .i64 0]) (ens := fun p => [.pr (eu m n (ai (jq n m xs) m n) p.2.1.1 p.2.1.2.1 /\ eu n m (ai xs n m) p.2.1.1 p.2.1.2.2), .lg 3 1 p.1.1.1 p.2.1.1 p.1.1.2 (iL ((List.range p.2.1.1).map p.2.1.2.1)), .lg 3 1 p.1.2.1 p.2.1.1 p.1.2.2 (iL ((List.range p.2.1.1).map p.2.1.2.2)), .own w.heap.size (av p.2.2) (bK m xs p.2.1.1 p.2.1.2.1 p.2.1.2.2)]) (hne := ⟨(((none, 0), (none, 0)), (0, fun _ => 0, fun _ => 0), p0)⟩) (fun w' H => (HC.out.1 w' (H.all (.ls mw ao xs) (by simp))).mono fun e w'' ⟨p, he, hb, hx, hp⟩ => ⟨p, he, hb, fun e he => by
  simp only [List.mem_cons, List.mem_nil_iff, or_false] at he;rcases he with rfl | rfl | rfl | rfl
  · exact hx _ (by simp)
  · exact hx _ (by simp)
  · exact hx _ (by simp)
  · exact ⟨ak.mono (hx (.own w'.heap.size (av p.2.2) (bK m xs p.2.1.1 p.2.1.2.1 p.2.1.2.2)) (by simp [av])).1 H.size, fun _ h => h.elim⟩, by
  refine .cons (fun x _ => ⟨(fun q => nomatch q), fun _ _ _ h => h⟩) ?_;have h2 := (List.pairwise_cons.1 hp).2;refine .cons (fun x hx => ?_) (.cons (fun x hx => ?_) (List.pairwise_singleton ..))
  · rcases List.mem_cons.1 hx with rfl | hx
    · exact (List.pairwise_cons.1 h2).1 _ (by simp)
    · rcases List.mem_singleton.1 hx with rfl;exact ⟨fun _ _ _ h => h, fun q => nomatch q⟩
  · rcases List.mem_singleton.1 hx with rfl;exact ⟨fun _ _ _ h => h, fun q => nomatch q⟩⟩) fun q1 => ?_
 refine dW ?_;refine dW ?_;refine dW ?_;refine dW ?_;refine dW ?_;refine dW ?_;refine dW ?_;refine sW ?_;refine dW ?_;refine eW ?_;refine ae ?_;refine rW [] ?_;refine dW ?_;refine dB false ?_;refine eW ?_;refine ae ?_;obtain ⟨⟨⟨ro, rc⟩, ⟨co, cc⟩⟩, ⟨k, c1, c2⟩, pd⟩ := q1;refine lJ (A := eu m n (ai (jq n m xs) m n) k c1 /\ eu n m (ai xs n m) k c2) (by simp) fun hp => ?_;have hl1 := eu.lt hp.1;have hl2 := eu.lt hp.2;have hk64 : k <= 64 := by omega
 have HP := Lib.hid (And.intro hp (And.intro hl2.2 (HC.out.2.2.1 k c1 c2 hp.1 hp.2)));clear hp hl1 hl2;refine bX ?_;refine ae ?_;refine rW [] ?_;refine dW ?_;refine dW ?_;refine dW ?_;refine cG (α := Nat) (mk := fun g => .slice (some ⟨g, 0, none⟩) n n) (ens := fun g => [.row g 3 (iL (List.range n))]) (fun w' H => sb n w' hn) fun gu => ?_;refine dW ?_;refine kJ (α := Option Addr × Nat) (mk := fun p => .tuple #[.agg #[.int .i64 (n : Int), .int .i64 (k : Int), .slice p.1 (n * k) p.2], .int .i64 0]) (ao := fun p => p.1) (xs := fun _ => aC k (bL m xs (List.range n) ((List.range k).map c2)) (n * k)) (A := fun _ => True) (fun w' H => HC.out.2.1 n n k cc (some ⟨gu, 0, none⟩) co (List.range n) ((List.range k).map c2) w' (fun _ => by have h1 : ah w' gu 3 (iL (List.range n)) := H.all (.row gu 3 (iL (List.range n))) (by simp); exact ⟨gu, rfl, h1.lt, fun i v hv => by rw [h1.cell]; exact hv⟩) (kv.rl (H.all (.lg 3 1 co k cc (iL ((List.range k).map c2))) (by simp))) (H.all (.ls mw ao xs) (by simp)) (by simp) (by simp) (fun i hi => by simpa [hi] using hi) HP.out.2.1 hn hk64) fun t => ?_;refine dW ?_;refine dW ?_;refine dW ?_;refine aW fun g7 => ?_;refine sG ?_;refine dW ?_;refine eW ?_;refine ae ?_;refine rW [] ?_;refine dW ?_;refine dW ?_;refine kJ (α := (Option Addr × Nat) × List Int) (mk := fun p => .tuple #[.agg #[.int .i64 (k : Int), .int .i64 (k : Int), .slice p.1.1 (k * k) p.1.2], .int .i64 0]) (ao := fun p => p.1.1) (xs := fun p => p.2) (A := fun p => pj k n (bK m xs k c1 c2) (ai (aC k (bL m xs (List.range n) ((List.range k).map c2)) (n * k)) n k) p.2) (hne := ⟨((none, 0), [])⟩) (fun w' H => tI n k (n * k) B t.2 t.1 _ (bK m xs k c1 c2) pd w' hn hk64 hBm (ea.gK (H.all (.gX t.1 (aC k (bL m xs (List.range n) ((List.range k).map c2)) (n * k))) (by simp)) (fun x hx => Nat.le_trans (fm HC.out.2.2.2 x hx) hmB)) (aA ..) (aA ..) HP.out.2.2 (ak.int (H.all (.own w.heap.size (av pd) (bK m xs k c1 c2)) (by simp [av])) (by rw [<- HB.out]; exact ir hk64 HC.out.2.2.2))) fun z => ?_;refine dW ?_;refine dW ?_;refine dW ?_;refine sW ?_;refine dW ?_;refine eW ?_;refine ae ?_;refine cZ (es' := [.row g2 24 [.int .i64 (k : Int), .int .i64 (k : Int), .slice z.1.1 (k * k) z.1.2], .row g5 27 [.bool pd.1, .slice pd.2.1 pd.2.2.1 pd.2.2.2], .gX z.1.1 z.2, .pr (pj k n (bK m xs k c1 c2) (ai (aC k (bL m xs (List.range n) ((List.range k).map c2)) (n * k)) n k) z.2 /\ ∀ b o, z.1.1 = some ⟨b, o, none⟩ -> w.heap.size <= b), .lg 3 1 ro k rc (iL ((List.range k).map c1)), .lg 3 1 co k cc (iL ((List.range k).map c2)), .own w.heap.size (av pd) (bK m xs k c1 c2)]) ?_;refine rW [[], [], [], [0]] ?_;refine dH ?_;refine dH ?_;refine dH ?_;refine dH ?_;refine dH ?_;refine sW ?_;refine dH ?_;refine dH ?_;refine sW ?_;refine dH ?_;refine eW ?_;refine ae ?_;refine fin5 (fun w' H => ?_);have hA : pj k n (bK m xs k c1 c2) (ai (aC k (bL m xs (List.range n) ((List.range k).map c2)) (n * k)) n k) z.2 /\ ∀ b o, z.1.1 = some ⟨b, o, none⟩ -> w.heap.size <= b := H.all (.pr (pj k n (bK m xs k c1 c2) (ai (aC k (bL m xs (List.range n) ((List.range k).map c2)) (n * k)) n k) z.2 /\ ∀ b o, z.1.1 = some ⟨b, o, none⟩ -> w.heap.size <= b)) (by simp);have H2 : Fr _ w w' [.gX z.1.1 z.2, .lg 3 1 ro k rc (iL ((List.range k).map c1)), .lg 3 1 co k cc (iL ((List.range k).map c2)), .own w.heap.size (av pd) (bK m xs k c1 c2)] := H.pick (by repeat (first | exact Pk.n | refine Pk.c (by repeat (first | exact Rm.z | apply Rm.s)) ?_));have H3 := H2.pure (e := .pr (ei n m xs k c1 c2 z.2)) ⟨HP.out.1.1, HP.out.1.2, hA.1⟩ (fun _ h => h);refine ⟨_, _, _, _, _, lO (H.all (.row g2 24 [.int .i64 (k : Int), .int .i64 (k : Int), .slice z.1.1 (k * k) z.1.2]) (by simp)), cX, cX, gD (H.all (.row g5 27 [.bool pd.1, .slice pd.2.1 pd.2.2.1 pd.2.2.2]) (by simp)), cX, ((z, (ro, rc), (co, cc)), (k, c1, c2), pd), rfl, H.below, fun e he => ⟨H3.all e he, fun b hb => ?_⟩, H3.sep⟩;have he' := he;simp only [List.mem_cons, List.mem_nil_iff, or_false] at he';rcases he' with rfl | rfl | rfl | rfl | rfl
 · exact hb.elim
 · obtain ⟨_, o, e⟩ := hb; exact hA.2 b o e
 · exact (H3.own _ he rfl b hb).elim (fun h => h.elim) id
 · exact (H3.own _ he rfl b hb).elim (fun h => h.elim) id
 · exact hb.elim
def mE (E : Mx) : Nat -> Int
 | 0 => 1
 | t + 1 => mE E t * E t t
theorem pj.wl {n r B : Nat} {d : Int} {A : Mx} {zs : List Int} (h : pj n r d A zs) (hB : ag d.natAbs <= B) : ∀ x ∈ zs, ag x.natAbs <= B := fun x hx => by
 obtain ⟨i, hi, rfl⟩ := List.getElem_of_mem hx;rw [h.1] at hi;have hn : 0 < n := by
  rcases Nat.eq_zero_or_pos n with e | e
  · subst e; omega
  · exact e
 have h1 : i / n < n := Nat.div_lt_of_lt_mul hi;have h2 := Nat.mod_lt i hn;have h3 := h.2.2 (i / n) h1 (i % n);rw [aM h1 h2] at h3;have e : i / n * n + i % n = i := by rw [Nat.mul_comm]; exact Nat.div_add_mod i n
 rw [e] at h3;refine Nat.le_trans (aH ?_) hB;rw [show zs.getD i 0 = zs[i] by simp [show i < zs.length by rw [h.1]; exact hi]] at h3;exact h3
theorem ry {E : Mx} {B : Nat} (h : ∀ t, ag (E t t).natAbs <= B) : ∀ k, ag (mE E k).natAbs <= k * B + 1
 | 0 => by show ag (1 : Int).natAbs <= _; exact Nat.le_trans (an (k := 1) (by unfold W; decide)) (by omega)
 | k + 1 => by
  have h1 := ry h k;have h2 := h k;show ag (mE E k * E k k).natAbs <= _;rw [Int.natAbs_mul];have := cK (mE E k).natAbs (E k k).natAbs;have : (k + 1) * B = k * B + B := Nat.succ_mul k B;omega
set_option maxRecDepth 100000 in
set_option maxHeartbeats 4000000 in
theorem sr (n m nm mw cap : Nat) (ao : Option Addr) (xs : List Int) (w : World) (hn : n <= 64) (hm : m <= 64) (hmw : mw <= 1048577) (hA : aI w mw ao xs) (hs : xs.length = n * m) (hnm : xs.length = nm) (hrk : ∀ k1 c1 k2 c2, eu m n (ai (jq n m xs) m n) k1 c1 -> eu n m (ai xs n m) k2 c2 -> k1 = k2) (hcd : ∀ k c1 c2, eu m n (ai (jq n m xs) m n) k c1 -> eu n m (ai xs n m) k c2 -> bK m xs k c1 c2 ≠ 0) :
 Calls Try.prog 8 #[.agg #[.int .i64 (n : Int), .int .i64 (m : Int), .slice ao nm cap]] w fun e w' => (∃ k c1 c2 zs v, ei n m xs k c1 c2 zs /\ e = .returned (.tuple #[v, .int .i64 0]) /\ ak w' w.heap.size v (mE (ai zs k k) k)) /\ Below w.heap.size w w' := by
 have hwx : ∀ x ∈ xs, ag x.natAbs <= mw := fun x hx => an (fT hA x hx);have hN := fun w' (h : aI w' mw ao xs) => mQ n m nm mw cap ao xs w' hn hm hmw h hs hnm hrk hcd;have HC := Lib.hid (And.intro hN hwx);obtain ⟨B, hB⟩ : ∃ B, 64 * (mw + 1) = B := ⟨_, rfl⟩;have hBm : B <= 1000000000 := by omega
 have HB := Lib.hid hB;clear hN hrk hcd hwx hs hnm hB;refine aZ (S0 := fun _ => False) Try.func8 ((Fr.nil _ w).l hA (by simp)) ?_;clear hA;refine ae ?_;refine rW [] ?_;refine aW fun g1 => ?_;refine aW fun g2 => ?_;refine dW ?_;refine eW ?_;refine ae ?_;refine rW [] ?_;refine dW ?_;refine cG (α := (((Option Addr × Nat) × List Int) × (Option Addr × Nat) × (Option Addr × Nat)) × (Nat × (Nat -> Nat) × (Nat -> Nat)) × P4) (mk := fun p => .tuple #[.agg #[.int .i64 (p.2.1.1 : Int), .int .i64 (p.2.1.1 : Int), .slice p.1.1.1.1 (p.2.1.1 * p.2.1.1) p.1.1.1.2], .slice p.1.2.1.1 p.2.1.1 p.1.2.1.2, .slice p.1.2.2.1 p.2.1.1 p.1.2.2.2, .agg #[.bool p.2.2.1, .slice p.2.2.2.1 p.2.2.2.2.1 p.2.2.2.2.2], .int .i64 0]) (ens := fun p => [.pr (ei n m xs p.2.1.1 p.2.1.2.1 p.2.1.2.2 p.1.1.2), .gX p.1.1.1.1 p.1.1.2]) (hne := ⟨(((((none, 0), []), (none, 0), (none, 0))), (0, fun _ => 0, fun _ => 0), p0)⟩) (fun w' H => (HC.out.1 w' (H.all (.ls mw ao xs) (by simp))).mono fun e w'' ⟨p, he, hb, hx, hp⟩ => ⟨p, he, hb, fun e he => by
  simp only [List.mem_cons, List.mem_nil_iff, or_false] at he;rcases he with rfl | rfl
  · exact hx _ (by simp)
  · exact hx _ (by simp), .cons (fun x _ => ⟨(fun q => nomatch q), fun _ _ _ h => h⟩) (List.pairwise_singleton ..)⟩) fun q1 => ?_
 refine dW ?_;refine dW ?_;refine dW ?_;refine dW ?_;refine dW ?_;refine dW ?_;refine aW fun g4 => ?_;refine aW fun g7 => ?_;refine sG ?_;refine dW ?_;refine dW ?_;refine sG ?_;refine dW ?_;refine eW ?_;refine ae ?_;obtain ⟨⟨⟨⟨zo, zc⟩, zs⟩, ⟨ro, rc⟩, ⟨co, cc⟩⟩, ⟨k, c1, c2⟩, pd⟩ := q1;refine lJ (A := ei n m xs k c1 c2 zs) (by simp) fun hp => ?_;have hk64 : k <= 64 := by have := (eu.lt hp.2.1).1; omega
 have hzl : zs.length = k * k := hp.2.2.1;have hzw := hp.2.2.wl (B := B) (by rw [<- HB.out]; exact ir hk64 HC.out.2);have HP := Lib.hid (And.intro hp (And.intro hzl hzw));clear hp hzl hzw;refine cZ (es' := [.gX zo zs, .row g4 24 [.int .i64 (k : Int), .int .i64 (k : Int), .slice zo (k * k) zc], .row g2 27 [.bool false, .slice none 0 0]]) ?_;refine wW (es' := [.ls B zo zs, .row g4 24 [.int .i64 (k : Int), .int .i64 (k : Int), .slice zo (k * k) zc], .row g2 27 [.bool false, .slice none 0 0]]) (fun w' h' => h'.conv (fun h => ea.gK h HP.out.2.2) (fun b h => h) (fun q => nomatch q)) ?_;refine rW [] ?_;refine dW ?_;refine dB false ?_;refine eW ?_;refine ae ?_;refine bX ?_;refine ae ?_;refine rW [] ?_;refine cN (fun w' H => im 1 w' (by omega) (by omega)) fun p1 => ?_;refine aW fun g9 => ?_;refine sG ?_;refine eW ?_;refine ae ?_;refine rW [] ?_;refine dW ?_;refine dW ?_;refine dW ?_;refine eW ?_;refine ae ?_;obtain ⟨K, hK⟩ : ∃ K, k * k = K := ⟨_, rfl⟩;rw [hK];have HK := Lib.hid hK;clear hK;refine bF (X := Nat × P4) (fun x => x.1 <= k) (fun x => k - x.1) (fun x => [(26, .int .i64 (x.1 : Int)), (25, .int .i64 (k : Int)), (9, .pointer (some ⟨g9, 0, none⟩)), (4, .pointer (some ⟨g4, 0, none⟩)), (2, .pointer (some ⟨g2, 0, none⟩))])
  (fun x => [.row g9 27 [.bool x.2.1, .slice x.2.2.1 x.2.2.2.1 x.2.2.2.2], .row g4 24 [.int .i64 (k : Int), .int .i64 (k : Int), .slice zo K zc], .row g2 27 [.bool false, .slice none 0 0], .own w.heap.size (av x.2) (mE (ai zs k k) x.1), .ls B zo zs]) (0, p1) (Nat.zero_le _) fun x hx => ?_
 obtain ⟨i, p⟩ := x
 replace hx : i <= k := hx
 by_cases h : i < k
 · have h01 : (i : Int) < (k : Int) := by omega
   have hlt := bQ h h;have hb1 : i * k <= 4096 := Nat.mul_le_mul (show i <= 64 by omega) hk64;obtain ⟨t, ht⟩ : ∃ t, i * k + i = t := ⟨_, rfl⟩;have htK : t < K := by rw [<- HK.out, <- ht]; exact hlt
   have htl : t < zs.length := by rw [HP.out.2.1, HK.out]; exact htK
   have h03 : (t : Int) < (K : Int) := by omega
   have HT := Lib.hid ht;clear ht hlt;refine ae ?_;refine rW [] ?_;refine dB true ?_;refine eW ?_;refine ae ?_;refine mJ (L := B) (ao := zo) (xs := zs) (by simp) (by omega) fun bx ox e => ?_;subst e;refine jj (L := B) (xs := zs) (b := bx) (o := ox) t (by simp) htl fun pv => ?_;refine dO ?_;refine ae ?_;refine rW [] ?_;refine dW ?_;refine dW ?_;refine eW ?_;refine ae ?_;refine rW [] ?_;refine dW ?_;refine dW ?_;refine dW ?_;refine dW ?_;refine dW ?_;refine dW ?_;refine dE (jR (a := i) (b := k) (by omega)) ?_;refine dW ?_;refine dE ((oe (a := i * k) (b := i) (by omega)).trans (by rw [HT.out])) ?_;refine dW ?_;refine dW ?_;refine cN (x := mE (ai zs k k) (i + 1)) (fun w' H => by
    have hE : ∀ t, ag (ai zs k k t t).natAbs <= B := fun t => by
     by_cases q : t < k
     · rw [aM q q];have h4 : t * k + t < zs.length := by rw [HP.out.2.1]; exact bQ q q
       exact HP.out.2.2 _ (cD h4)
     · unfold ai; rw [if_neg (by omega)]; simp [aN]
    have h5 : gi zs t = ai zs k k i i := by rw [aM h h, HT.out]; rfl
    have h6 := ry hE i;have h7 : i * B <= 64 * B := Nat.mul_le_mul_right _ (by omega);have := il (av p) (av pv) (mE (ai zs k k) i) (gi zs t) (64 * B + 1) B w' (ak.int (H.all (.own w.heap.size (av p) (mE (ai zs k k) i)) (by simp [av])) (by omega)) (H.all (.at B (av pv) (gi zs t)) (by simp [av])) (by omega);rw [h5] at this; exact this) fun p2 => ?_
   refine sW ?_;refine eW ?_;refine ae ?_;refine rW [] ?_;refine dE (cd (a := i) (by omega)) ?_;refine dW ?_;refine eW ?_;refine ae ?_;exact bh (i + 1, p2) ⟨h, by show k - (i + 1) < k - i; omega⟩
 · obtain rfl : k = i := by omega
   refine ae ?_;refine rW [] ?_;refine dB false ?_;refine eW ?_;refine ae ?_;refine bX ?_;refine ae ?_;refine rW [] ?_;refine dW ?_;refine sW ?_;refine dW ?_;refine eW ?_;refine ae ?_;refine dX fun w' H => ?_;exact ⟨_, _, gD (H.all (.row g2 27 [.bool p.1, .slice p.2.1 p.2.2.1 p.2.2.2]) (by simp)), cX, ⟨k, c1, c2, zs, _, HP.out.1, rfl, H.all (.own w.heap.size (av p) (mE (ai zs k k) k)) (by simp [av])⟩, H.below⟩
end Go.Proofs.Ytjjlmfmoihooiaa
namespace Go.Proofs.Ytjjlmfmoihooiaa
theorem jG {r c : Nat} (f : Nat -> Nat -> Int) (i j : Nat) : ai (aC c f (r * c)) r c i j = if i < r /\ j < c then f i j else 0 := by
 by_cases h : i < r /\ j < c
 · rw [aM h.1 h.2, if_pos h]; exact eP f h.1 h.2
 · rw [if_neg h, ai, if_neg h]
theorem qI {r c : Nat} (xs : List Int) : ai (jq r c xs) c r = tp (ai xs r c) := by
 funext i j;show ai (jq r c xs) c r i j = ai xs r c j i;unfold jq;rw [jG];by_cases h : i < c /\ j < r
 · rw [if_pos h, aM h.2 h.1]; rfl
 · rw [if_neg h]; unfold ai; rw [if_neg fun q => h ⟨q.2, q.1⟩]
theorem eu.rank {n m : Nat} {xs : List Int} {k1 k2 : Nat} {c1 c2 : Nat -> Nat} (h1 : eu m n (ai (jq n m xs) m n) k1 c1) (h2 : eu n m (ai xs n m) k2 c2) : k1 = k2 := by
 rw [qI] at h1;obtain ⟨_, _, _, h1⟩ := h1;obtain ⟨_, _, _, h2⟩ := h2;exact (h2.turn h1 (fun i j hj => dQ i hj) fun i j hi => jk hi j).symm
theorem eu.oD {n m k : Nat} {A : Mx} {cs : Nat -> Nat} (h : eu n m A k cs) : ∀ t < k, cs t < m := by
 obtain ⟨nu, R, d, h⟩ := h;exact h.csl
theorem gn {k t : Nat} {c : Nat -> Nat} (h : t < k) : ((List.range k).map c).getD t 0 = c t := by simp [h]
theorem nW {n m k : Nat} {xs : List Int} {c1 c2 : Nat -> Nat} (h1 : ∀ t < k, c1 t < n) (h2 : ∀ t < k, c2 t < m) : bK m xs k c1 c2 = aF k fun a b => ai xs n m (c1 a) (c2 b) := by
 unfold bK;refine aG k fun a ha b hb => ?_;rw [jG, if_pos ⟨ha, hb⟩];unfold bL;rw [gn ha, gn hb, aM (h1 a ha) (h2 b hb)];rfl
theorem eu.core {n m : Nat} {xs : List Int} {k : Nat} {c1 c2 : Nat -> Nat} (h1 : eu m n (ai (jq n m xs) m n) k c1) (h2 : eu n m (ai xs n m) k c2) : bK m xs k c1 c2 ≠ 0 := by
 rw [nW (n := n) h1.oD h2.oD];rw [qI] at h1;obtain ⟨_, _, _, h1⟩ := h1;obtain ⟨_, _, _, h2⟩ := h2;exact h2.core h1 (fun i j hj => dQ i hj) fun i j hi => jk hi j
theorem eu.leads {n m k K : Nat} {xs hs : List Int} {cs l : Nat -> Nat} (hp : eu n m (ai xs n m) k cs) (hH : du K m (ai hs K m) l) (hsp : aO n (ai xs n m) K (ai hs K m)) : k = K /\ ∀ t < k, cs t = l t := by
 obtain ⟨_, _, _, h⟩ := hp;exact h.leads (fun i j hj => dQ i hj) hH.toEch hsp.symm
theorem uI {k : Nat} (C : Mx) {i : Nat} (hi : i < k) : Sp k (fun a b => if b < k then C a b else 0) (eD (aF k C) i) := by
 obtain ⟨A, hA⟩ : ∃ A : Mx, A = fun a b => if a < k then C a b else if b = i then 1 else 0 := ⟨_, rfl⟩;obtain ⟨y, hy⟩ := gh k A (fun t => t) (fun t => t) k;have e0 : dn k A (fun t => t) (fun t => t) = aF k C := aG k fun a ha b _ => by rw [hA]; exact if_pos ha
 refine ⟨fun t => - y t, fun b => ?_⟩;have hn : ∀ f : Nat -> Int, (sm k fun t => - y t * f t) = - sm k fun t => y t * f t := fun f => by
  have := bC k (-1) fun t => y t * f t;rw [show (-1 : Int) * (sm k fun t => y t * f t) = - sm k fun t => y t * f t by omega] at this;rw [<- this];exact aj fun t _ => by rw [Int.neg_mul]; omega
 show eD (aF k C) i b = sm k fun t => - y t * (if b < k then C t b else 0);rw [hn fun t => if b < k then C t b else 0];by_cases hb : b < k
 · have h1 := hy b;rw [kH (A := A) (nu := fun t => t) (cs := fun t => t) hb k, e0] at h1;have e1 : A k b = if b = i then 1 else 0 := by rw [hA]; exact if_neg (Nat.lt_irrefl k)
   have e2 : (sm k fun t => y t * A t b) = sm k fun t => y t * (if b < k then C t b else 0) := aj fun t ht => by
    rw [if_pos hb, show A t b = C t b by rw [hA]; exact if_pos ht]
   rw [e1, e2] at h1;unfold eD;by_cases q : b = i
   · rw [if_pos q, Int.mul_one] at h1;rw [if_pos q]; omega
   · rw [if_neg q, Int.mul_zero] at h1;rw [if_neg q]; omega
 · unfold eD;rw [if_neg (by omega), bf fun t _ => by rw [if_neg hb, Int.mul_zero]];rfl
def jx (k : Nat) (c : Nat -> Nat) (A : Mx) : Mx := fun a b => if b < k then A a (c b) else 0
theorem Sp.jx {n k : Nat} {c : Nat -> Nat} {A : Mx} {v : Nat -> Int} (h : Sp n A v) : Sp n (Go.Proofs.Ytjjlmfmoihooiaa.jx k c A) fun b => if b < k then v (c b) else 0 := by
 obtain ⟨y, hy⟩ := h;refine ⟨y, fun b => ?_⟩;unfold Go.Proofs.Ytjjlmfmoihooiaa.jx;show (if b < k then v (c b) else 0) = Go.Proofs.Ytjjlmfmoihooiaa.sm n fun t => y t * (if b < k then A t (c b) else 0);by_cases hb : b < k
 · rw [if_pos hb, hy]; exact aj fun t _ => by rw [if_pos hb]
 · rw [if_neg hb, bf fun t _ => by rw [if_neg hb, Int.mul_zero]]
theorem rE {n m k : Nat} {xs : List Int} {rs : List Nat} {c2 : Nat -> Nat} {r : Nat} (h1 : ∀ t < r, rs.getD t 0 < n) (h2 : ∀ t < k, c2 t < m) {i : Nat} (hi : i < r) (b : Nat) : ai (aC k (bL m xs rs ((List.range k).map c2)) (r * k)) r k i b = Go.Proofs.Ytjjlmfmoihooiaa.jx k c2 (ai xs n m) (rs.getD i 0) b := by
 rw [jG];unfold Go.Proofs.Ytjjlmfmoihooiaa.jx;by_cases hb : b < k
 · rw [if_pos ⟨hi, hb⟩, if_pos hb];unfold bL;rw [gn hb, aM (h1 i hi) (h2 b hb)]; rfl
 · rw [if_neg fun q => hb q.2, if_neg hb]
theorem pK {E : Mx} : ∀ k, (∀ t < k, 0 < E t t) -> 0 < mE E k /\ (mE E k).natAbs = et k fun t => (E t t).natAbs
 | 0, _ => ⟨by show (0 : Int) < 1; omega, rfl⟩
 | k + 1, h => by
  obtain ⟨h1, h2⟩ := pK k fun t ht => h t (by omega);exact ⟨Int.mul_pos h1 (h k (by omega)), by show (mE E k * E k k).natAbs = et k _ * _; rw [Int.natAbs_mul, h2]⟩
def plP (H : Mx) (l : Nat -> Nat) : Nat -> Int
 | 0 => 1
 | t + 1 => plP H l t * H t (l t)
theorem qk {H : Mx} {l : Nat -> Nat} : ∀ k, (∀ t < k, 0 < H t (l t)) -> 0 < plP H l k /\ (plP H l k).natAbs = et k fun t => (H t (l t)).natAbs
 | 0, _ => ⟨by show (0 : Int) < 1; omega, rfl⟩
 | k + 1, h => by
  obtain ⟨h1, h2⟩ := qk k fun t ht => h t (by omega);exact ⟨Int.mul_pos h1 (h k (by omega)), by show (plP H l k * H k (l k)).natAbs = et k _ * _; rw [Int.natAbs_mul, h2]⟩
section
variable {n m k : Nat} {xs zs : List Int} {c1 c2 : Nat -> Nat}
theorem ei.xL (h : ei n m xs k c1 c2 zs) {i : Nat} (hi : i < n) : Sp k (ai zs k k) (jx k c2 (ai xs n m) i) := by
 have h1 := (h.2.2.2.1.sp _).2 (LD.row hi);exact h1.congr fun b => by
  rw [rE (n := n) (r := n) (fun t ht => by rw [show (List.range n).getD t 0 = t by simp [ht]]; exact ht) h.2.1.oD hi b, show (List.range n).getD i 0 = i by simp [hi]]
theorem ei.pos (h : ei n m xs k c1 c2 zs) : 0 < mE (ai zs k k) k /\ (mE (ai zs k k) k).natAbs = (aF k (ai zs k k)).natAbs := by
 have hp := pK k fun t ht => h.2.2.2.1.herm.pos t ht;refine ⟨hp.1, ?_⟩;rw [hp.2, jN k (ai zs k k) (fun i => i) (fun i hi => hi) (fun i _ j _ e => e) fun i hi j hj => h.2.2.2.1.herm.zero i hi j hj]
theorem ei.prod (h : ei n m xs k c1 c2 zs) {hs : List Int} {l : Nat -> Nat} (hH : du k m (ai hs k m) l) (hsp : aO n (ai xs n m) k (ai hs k m)) : mE (ai zs k k) k = plP (ai hs k m) l k := by
 have hl := (h.2.1.leads hH hsp).2;have hp := qk k fun t ht => hH.pos t ht;have h1 := h.pos;have hd : (aF k (ai zs k k)).natAbs = (aF k (jx k c2 (ai hs k m))).natAbs := by
  refine pL k ⟨fun t ht => ?_, fun t ht => ?_⟩
  · refine ((h.2.2.2.1.sp _).1 (Sp.row _ ht)).least (P := Sp k (jx k c2 (ai hs k m))) ⟨⟨fun _ => 0, fun i => (bf fun t _ => Int.zero_mul _).symm⟩, fun _ _ h k => h.add k, fun s _ h => h.smul s⟩ (fun i hi => ?_) fun i hi => ?_
    · refine ((hsp.1 i hi).jx (k := k) (c := c2)).congr fun b => ?_;rw [rE (n := n) (r := n) (fun t ht => by rw [show (List.range n).getD t 0 = t by simp [ht]]; exact ht) h.2.1.oD hi b, show (List.range n).getD i 0 = i by simp [hi]]; rfl
    · have h2 := uI (fun a b => ai xs n m (c1 a) (c2 b)) hi;rw [<- nW (n := n) h.1.oD h.2.1.oD] at h2;have h3 : Sp k (jx k c2 (ai hs k m)) (eD (bK m xs k c1 c2) i) := h2.trans fun a ha => (((hsp.1 (c1 a) (h.1.oD a ha)).jx (k := k) (c := c2))).congr fun b => rfl;rcases Int.natAbs_eq (bK m xs k c1 c2) with e | e
      · rw [<- e]; exact h3
      · refine (h3.smul (-1)).congr fun b => ?_;unfold eD; split <;> omega
  · obtain ⟨y, hy⟩ := hsp.2 t ht;refine Sp.trans (E := ai zs k k) (n := k) (F := jx k c2 (ai xs n m)) (m := n) ?_ fun i hi => h.xL hi;exact (show Sp n (ai xs n m) (ai hs k m t) from ⟨y, hy⟩).jx
 have h5 : (aF k (jx k c2 (ai hs k m))).natAbs = et k fun t => (ai hs k m t (l t)).natAbs := by
  rw [jN k (jx k c2 (ai hs k m)) (fun i => i) (fun i hi => hi) (fun i _ j _ e => e) fun i hi j hj => ?_]
  · exact fp k fun t ht => by unfold jx; rw [if_pos ht, hl t ht]
  · unfold jx;rw [if_pos (by omega), hl j (by omega)];exact hH.zero i hi _ (hH.inc j i hj hi)
 have h6 : (mE (ai zs k k) k).natAbs = (plP (ai hs k m) l k).natAbs := by rw [h1.2, hd, h5, hp.2]
 have := h1.1;have := hp.1;omega
end
end Go.Proofs.Ytjjlmfmoihooiaa
namespace Go.Proofs.Ytjjlmfmoihooiaa
open Go.RowKit
set_option maxRecDepth 100000 in
set_option maxHeartbeats 1000000 in
theorem lR (v u : Value) (x y : Int) (w : World) (h1 : aJ w v x) (h2 : aJ w u y) (hx : ag x.natAbs <= 17592186044415) (hy : ag y.natAbs <= 17592186044415) :
 Calls Try.prog 21 #[v, u] w fun e w' => e = .returned (.bool (decide (x = y))) /\ Below w.heap.size w w' := by
 obtain ⟨ao1, cap1, rfl, hW1, _⟩ := h1.least;obtain ⟨ao2, cap2, rfl, hW2, _⟩ := h2.least;have hAL := rm x y;obtain ⟨n1, hn1⟩ : ∃ n1, decide (x < 0) = n1 := ⟨_, rfl⟩;obtain ⟨n2, hn2⟩ : ∃ n2, decide (y < 0) = n2 := ⟨_, rfl⟩;obtain ⟨m, hm⟩ : ∃ m, decide (ez x.natAbs = ez y.natAbs) = m := ⟨_, rfl⟩;have hS := fun w' => xd ao1 ao2 (ag x.natAbs) cap1 (ag y.natAbs) cap2 (ez x.natAbs) (ez y.natAbs) w';simp only [hm] at hS;obtain ⟨r, hr⟩ : ∃ r, decide (x = y) = r := ⟨_, rfl⟩;rw [hn1, hn2, hm, hr] at hAL;rw [hn1, hn2, hr];refine aZ (S0 := fun _ => False) Try.func21 (Fr.nil _ w) ?_;refine ae ?_;refine rW [] ?_;refine aW fun g2 => ?_;refine aW fun g3 => ?_;refine dW ?_;refine eW ?_;refine ae ?_;refine rW [] ?_;refine dW ?_;refine dW ?_;refine dW ?_;refine dW ?_;clear hn1 hn2 hm hr;by_cases e : n1 = n2
 · subst e;have hAL : m = r := by simpa using hAL
   subst hAL;refine dB true ?_;refine dW ?_;refine dG ?_;refine dG ?_;refine dG ?_;refine dG ?_;refine vR (fun w' H => hS w' (hW1.below H.below) (hW2.below H.below) rfl rfl hx hy) ?_;refine dW ?_;refine dW ?_;refine eW ?_;refine ae ?_;refine cQ fun w' H => ?_;exact ⟨_, cX, rfl, H.below⟩
 · have hr : r = false := by rw [<- hAL]; cases n1 <;> cases n2 <;> simp_all
   subst hr;refine dB false ?_;refine dW ?_;refine uG ?_;refine uG ?_;refine uG ?_;refine uG ?_;refine uC ?_;refine dW ?_;refine dW ?_;refine eW ?_;refine ae ?_;refine cQ fun w' H => ?_;exact ⟨_, cX, rfl, H.below⟩
set_option maxRecDepth 100000 in
set_option maxHeartbeats 2000000 in
theorem qG (aoA aoB : Option Addr) (cA cB : Nat) (xs ys : List Int) (w : World) (hA : ea w aoA xs) (hB : ea w aoB ys) (hmA : xs.length <= 8796093022208) (hmB : ys.length <= 8796093022208)
 (hx : ∀ x ∈ xs, ag x.natAbs <= 17592186044415) (hy : ∀ x ∈ ys, ag x.natAbs <= 17592186044415) :
 Calls Try.prog 42 #[.slice aoA xs.length cA, .slice aoB ys.length cB] w fun e w' => e = .returned (.bool (decide (xs = ys))) /\ Below w.heap.size w w' := by
 refine aZ (S0 := fun _ => False) Try.func42 (((Fr.nil _ w).ln hA (by simp)).ln hB (by simp [En.wr, En.gX])) ?_;refine ae ?_;refine rW [] ?_;refine dW ?_;refine eW ?_;refine ae ?_;refine rW [] ?_;refine dW ?_;refine dW ?_;refine dW ?_;refine dW ?_;by_cases hs : xs.length = ys.length
 · have HS := Lib.hid hs;have hne : ((xs.length : Int) != (ys.length : Int)) = false := by rw [hs]; simp
   clear hs;refine dB false ?_;refine eW ?_;refine ae ?_;refine bX ?_;refine ae ?_;refine rW [] ?_;refine dW ?_;refine eW ?_;refine ae ?_;refine bF (X := Nat) (fun i => i <= xs.length /\ ∀ k, k < i -> gi xs k = gi ys k) (fun i => xs.length - i) (fun i => [(5, .int .i64 (i : Int)), (0, .slice aoA xs.length cA), (1, .slice aoB ys.length cB)]) (fun _ => [.gX aoB ys, .gX aoA xs]) 0 ⟨Nat.zero_le _, fun k h => absurd h (Nat.not_lt_zero k)⟩ fun i hz => ?_;obtain ⟨hi, hag⟩ := hz;by_cases h : i < xs.length
   · have h' : i < ys.length := by have := HS.out; omega
     obtain ⟨bx, ox, rfl⟩ := hA.pos h;obtain ⟨b_, oy, rfl⟩ := hB.pos h';have HX := Lib.hid (hx _ (cD h));have HY := Lib.hid (hy _ (cD h'));have HH := Lib.hid h;refine ae ?_;refine rW [] ?_;refine dW ?_;refine dW ?_;refine dW ?_;refine dB true ?_;refine eW ?_;refine ae ?_;refine dO ?_;refine xP (xs := xs) (b := bx) (o := ox) i (by simp) h fun p => ?_;refine xP (xs := ys) (b := b_) (o := oy) i (by simp) h' fun q => ?_;refine ae ?_;refine rW [] ?_;refine dW ?_;refine dW ?_;refine dW ?_;refine dW ?_;refine dW ?_;refine dW ?_;refine dW ?_;refine dW ?_;refine cV (fun w' H => lR (av p) (av q) _ _ w' H.m5 H.m2 HX.out HY.out) ?_;by_cases e : gi xs i = gi ys i
     · have HE := Lib.hid e;rw [decide_eq_true e];clear e;refine dW ?_;refine eW ?_;refine ae ?_;refine bX ?_;refine ae ?_;refine rW [] ?_;refine dW ?_;refine dE (cd (a := i) (by omega)) ?_;refine dW ?_;refine eW ?_;refine ae ?_;exact bh (i + 1) ⟨⟨h, fun k hk => by
        by_cases e : k = i
        · subst e; exact HE.out
        · exact hag k (by omega)⟩, by omega⟩
     · have hd : decide (xs = ys) = false := by
        rw [decide_eq_false_iff_not]; intro h; exact e (by rw [h])
       rw [decide_eq_false e, hd];refine dW ?_;refine eW ?_;refine ae ?_;refine dO ?_;refine ae ?_;refine rW [] ?_;refine dW ?_;refine eW ?_;refine ae ?_;refine cQ fun w' H => ?_;exact ⟨_, cX, rfl, H.below⟩
   · obtain rfl : i = xs.length := by omega
     have hd : decide (xs = ys) = true := by
      rw [decide_eq_true_iff];refine List.ext_getElem HS.out fun j h1 h2 => ?_;have := hag j h1
      rwa [bV h1, bV h2] at this
     rw [hd];refine ae ?_;refine rW [] ?_;refine dW ?_;refine dW ?_;refine dW ?_;refine dB false ?_;refine eW ?_;refine ae ?_;refine bX ?_;refine ae ?_;refine rW [] ?_;refine dW ?_;refine eW ?_;refine ae ?_;refine cQ fun w' H => ?_;exact ⟨_, cX, rfl, H.below⟩
 · have hne : ((xs.length : Int) != (ys.length : Int)) = true := by rw [bne_iff_ne]; omega
   have hd : decide (xs = ys) = false := by
    rw [decide_eq_false_iff_not]; intro h; exact hs (by rw [h])
   rw [hd];clear hs;refine dB true ?_;refine eW ?_;refine ae ?_;refine dO ?_;refine ae ?_;refine rW [] ?_;refine dW ?_;refine eW ?_;refine ae ?_;refine cQ fun w' H => ?_;exact ⟨_, cX, rfl, H.below⟩
set_option maxRecDepth 100000 in
set_option maxHeartbeats 1000000 in
theorem rf (r c : Nat) (aoA aoB : Option Addr) (cA cB : Nat) (xs ys : List Int) (w : World) (hA : ea w aoA xs) (hB : ea w aoB ys) (hmA : xs.length <= 8796093022208) (hmB : ys.length <= 8796093022208)
 (hx : ∀ x ∈ xs, ag x.natAbs <= 17592186044415) (hy : ∀ x ∈ ys, ag x.natAbs <= 17592186044415) :
 Calls Try.prog 13 #[.agg #[.int .i64 (r : Int), .int .i64 (c : Int), .slice aoA xs.length cA], .agg #[.int .i64 (r : Int), .int .i64 (c : Int), .slice aoB ys.length cB]] w fun e w' => e = .returned (.bool (decide (xs = ys))) /\ Below w.heap.size w w' := by
 have hK := fun w' (hA : ea w' aoA xs) (hB : ea w' aoB ys) => qG aoA aoB cA cB xs ys w' hA hB hmA hmB hx hy;refine aZ (S0 := fun _ => False) Try.func13 (Fr.nil _ w) ?_;refine ae ?_;refine rW [] ?_;refine aW fun g2 => ?_;refine aW fun g3 => ?_;refine dW ?_;refine eW ?_;refine ae ?_;refine rW [] ?_;refine dW ?_;refine dW ?_;refine dW ?_;refine dW ?_;refine dB true ?_;refine dW ?_;refine dG ?_;refine dG ?_;refine dG ?_;refine dG ?_;refine j8 true ?_;refine dW ?_;refine dW ?_;refine dG ?_;refine dG ?_;refine dG ?_;refine dG ?_;refine vR (fun w' H => hK w' (hA.below H.below) (hB.below H.below)) ?_;refine dW ?_;refine dW ?_;refine eW ?_;refine ae ?_;refine cQ fun w' H => ?_;exact ⟨_, cX, rfl, H.below⟩
set_option maxRecDepth 100000 in
set_option maxHeartbeats 1000000 in
theorem rQ (n : Nat) (w : World) (h0 : 0 < n) (hW : n < W) : Calls Try.prog 22 #[.int .u64 (n : Int)] w fun e w' => (∃ v', e = .returned v' /\ ak w' w.heap.size v' (n : Int)) /\ Below w.heap.size w w' := by
 refine aZ (S0 := fun _ => False) Try.func22 (Fr.nil _ w) ?_;refine ae ?_;refine rW [] ?_;refine aW fun g2 => ?_;refine eW ?_;refine ae ?_;refine rW [] ?_;refine dW ?_;refine bW (m := 1) fun g4 => ?_;refine dW ?_;refine sW ?_;refine eW ?_;refine ae ?_;refine cQ fun w' H => ?_;have hown := ah.own (ws := [n]) (B := w.heap.size) (n := 1) (cap := 1) H.m0 (Ok.one hW) ((H.own _ (List.mem_cons_self ..) rfl _ rfl).elim (fun h => h.elim) id) (by simp) rfl (by unfold maxLen; omega);have h1 := ak.mk (m := n) false (by rw [fU (by omega) hW, ui (by omega) hW]; exact hown);rw [fU (by omega) hW] at h1;exact ⟨_, gD H.m1, ⟨_, rfl, h1⟩, H.below⟩
theorem nh {A : Mx} {k : Nat} {c : Nat -> Nat} (h : eu 1 1 A k c) (hA : A 0 0 ≠ 0) : k = 1 /\ c 0 = 0 := by
 obtain ⟨nu, R, d, h⟩ := h;have hk := h.kn;have h1 : k = 1 := by
  rcases Nat.eq_zero_or_pos k with e | e
  · exfalso;subst e;have h2 := h.z 0 (Nat.le_refl _) (by omega) 0 (by omega);have h3 := h.row 0 (Nat.le_refl _) (by omega) 0 (by omega);have h4 : nu 0 = 0 := by have := h.lt 0 (by omega); omega
    rw [h2, h4] at h3;have h5 : mn 0 A nu c 0 0 = A 0 0 := by
     show 0 + dr 0 * A (if 0 < 0 then nu 0 else 0) (if 0 < 0 then c 0 else 0) * 1 = A 0 0;rw [if_neg (Nat.lt_irrefl 0), if_neg (Nat.lt_irrefl 0), show dr 0 = 1 by decide]; omega
    exact hA (h5.symm.trans h3.symm)
  · omega
 subst h1;exact ⟨rfl, by have := h.csl 0 (by omega); omega⟩
theorem y6 {k : Nat} {c1 c2 : Nat -> Nat} (h1 : eu 1 1 (ai (jq 1 1 [-6]) 1 1) k c1) (h2 : eu 1 1 (ai [-6] 1 1) k c2) : k = 1 /\ c1 0 = 0 /\ c2 0 = 0 /\ bK 1 [-6] k c1 c2 = -6 := by
 obtain ⟨_, e1⟩ := nh h1 (by decide);obtain ⟨rfl, e2⟩ := nh h2 (by decide);refine ⟨rfl, e1, e2, ?_⟩;unfold bK;rw [show (List.range 1).map c1 = [0] by simp [List.range_succ, e1], show (List.range 1).map c2 = [0] by simp [List.range_succ, e2]];decide
theorem vol6 {k : Nat} {c1 c2 : Nat -> Nat} {zs : List Int} (h : ei 1 1 [-6] k c1 c2 zs) : mE (ai zs k k) k = 6 := by
 obtain ⟨h1, h2, h3⟩ := h;obtain ⟨rfl, e1, e2, e3⟩ := y6 h1 h2;rw [e3, show (List.range 1).map c2 = [0] by simp [List.range_succ, e2]] at h3;have h4 := wG (n := 1) (r := 1) (d := 6) (by omega) h3.2.1 (fun t ht i => by
  obtain rfl : t = 0 := by omega
  by_cases hi : i < 1
  · obtain rfl : i = 0 := by omega
    decide
  · unfold ai; rw [if_neg (by omega)]; exact Int.dvd_zero _) (fun t ht i hi => by unfold ai; rw [if_neg (by omega)]) 0 (by omega) 0
 show 1 * ai zs 1 1 0 0 = 6;rw [h4]; simp
set_option maxRecDepth 100000 in
set_option maxHeartbeats 2000000 in
theorem ly (w : World) : Calls Try.prog 5 #[] w fun e w' => e = .returned (.bool true) /\ Below w.heap.size w w' := by
 have hV := fun cap ao w' (h : aI w' 1 ao [-6]) => sr 1 1 1 1 cap ao [-6] w' (by omega) (by omega) (by omega) h rfl rfl (fun k1 c1 k2 c2 h1 h2 => by rw [(nh h1 (by decide)).1, (nh h2 (by decide)).1]) (fun k c1 c2 h1 h2 => by rw [(y6 h1 h2).2.2.2]; decide);have HV := Lib.hid hV;clear hV;refine aZ (S0 := fun _ => False) Try.func5 (Fr.nil _ w) ?_;refine ae ?_;refine rW [] ?_;refine dW ?_;refine eW ?_;refine ae ?_;refine rW [] ?_;refine bW (m := 1) fun g4 => ?_;refine dW ?_;refine bW (m := 1) fun g6 => ?_;refine dW ?_;refine sq (x := 6) (z := .int .i64 0) (fun w' H => (HV.out 1 (some ⟨g6, 0, none⟩) w' (by
  have a1 : ah w' g4 51 [.int .u64 6] := H.all (.row g4 51 [.int .u64 6]) (by simp);have a2 : ah w' g6 27 [.bool true, .slice (some ⟨g4, 0, none⟩) 1 1] := H.all (.row g6 27 [.bool true, .slice (some ⟨g4, 0, none⟩) 1 1]) (by simp);have hown := ah.own (ws := [6]) (B := w.heap.size) (n := 1) (cap := 1) a1 (Ok.one (by unfold W; omega)) ((H.own (.row g4 51 [.int .u64 6]) (by simp) rfl _ rfl).elim (fun h => h.elim) id) (by simp) rfl (by unfold maxLen; omega);have h1 := ak.mk (m := 6) true (by rw [fU (by omega) (by unfold W; omega), ui (by omega) (by unfold W; omega)]; exact hown);rw [fU (by omega) (by unfold W; omega)] at h1;intro _;refine ⟨g6, 0, rfl, a2.lt, fun i hi => ?_⟩;obtain rfl : i = 0 := by simpa using hi
  exact ⟨(true, some ⟨g4, 0, none⟩, 1, 1), a2.cell 0, a2.cell 1, show aw w' 1 _ (-6) from ak.int h1 (by show ag 6 <= 1; rw [fU (by omega) (by unfold W; omega)]; omega)⟩)).mono fun e w'' ⟨⟨k, c1, c2, zs, v, hn, he, hv⟩, hb⟩ => by rw [vol6 hn] at hv; exact ⟨⟨v, he, hv⟩, hb⟩) fun p => ?_
 refine dW ?_;refine dW ?_;refine dW ?_;refine aW fun g1 => ?_;refine sG ?_;refine dW ?_;refine eW ?_;refine ae ?_;refine rW [] ?_;refine dW ?_;refine dB true ?_;refine dW ?_;refine dG ?_;refine cGg (mk := av) (ens := fun p => [.own w.heap.size (av p) ((6 : Nat) : Int)]) (fun w' H => cNo' (rQ 6 w' (by omega) (by unfold W; omega)) H.size) fun q => ?_;refine vR (v := .bool true) (fun w' H => by have := lR (av p) (av q) 6 6 w' (ak.num (H.all (.own w.heap.size (av p) 6) (by simp [av]))) (ak.num (H.all (.own w.heap.size (av q) 6) (by simp [av]))) (by show ag 6 <= _; rw [fU (by omega) (by unfold W; omega)]; omega) (by show ag 6 <= _; rw [fU (by omega) (by unfold W; omega)]; omega); exact this) ?_;refine dW ?_;refine dW ?_;refine eW ?_;refine ae ?_;refine cQ fun w' H => ?_;exact ⟨_, cX, rfl, H.below⟩
def kz (n m : Nat) (xs : List Int) (x : Int) : Prop := ∃ k c1 c2 zs, ei n m xs k c1 c2 zs /\ x = mE (ai zs k k) k
theorem wE {B k : Nat} {zs : List Int} (hk : k <= 64) (hz : ∀ x ∈ zs, ag x.natAbs <= B) (hl : zs.length = k * k) : ag (mE (ai zs k k) k).natAbs <= 64 * B + 1 := by
 have hE : ∀ t, ag (ai zs k k t t).natAbs <= B := fun t => by
  by_cases q : t < k
  · rw [aM q q];exact hz _ (cD (by rw [hl]; exact bQ q q))
  · unfold ai; rw [if_neg (by omega)]; simp [aN]
 exact Nat.le_trans (ry hE k) (Nat.succ_le_succ (Nat.mul_le_mul_right B hk))
theorem kz.wl {n m mw : Nat} {xs : List Int} {x : Int} (h : kz n m xs x) (hn : n <= 64) (hx : ∀ y ∈ xs, ag y.natAbs <= mw) : ag x.natAbs <= 64 * (64 * (mw + 1)) + 1 := by
 obtain ⟨k, c1, c2, zs, hN, rfl⟩ := h;have hk : k <= 64 := Nat.le_trans (eu.lt hN.2.1).1 hn;exact wE hk (hN.2.2.wl (ir hk hx)) hN.2.2.1
theorem cND9 {P : Program} {f : FuncId} {args : Array Value} {w : World} {B : Nat} {A : Int -> Prop} (h : Calls P f args w fun e w' => (∃ x : Int, A x /\ ∃ v', e = .returned (.tuple #[v', .int .i64 0]) /\ ak w' w.heap.size v' x) /\ Below w.heap.size w w') (hB : B <= w.heap.size) : Calls P f args w fun e w' => ∃ q : Int × P4, e = .returned (.tuple #[av q.2, .int .i64 0]) /\ Nw w w' [.own B (av q.2) q.1, .pr (A q.1)] := h.mono fun e w' ⟨⟨x, hx, v, he, hv⟩, hb⟩ => by
 subst he;obtain ⟨b, ao, l', k', rfl⟩ := ak.parts hv;exact ⟨(x, b, ao, l', k'), rfl, hb, fun e he => by
  rcases List.mem_cons.1 he with rfl | he
  · exact ⟨ak.mono hv hB, fun _ h => h.elim⟩
  · rcases List.mem_singleton.1 he with rfl;exact ⟨hx, fun _ h => h.elim⟩, .cons (fun x hx => by rcases List.mem_singleton.1 hx with rfl; exact ⟨(fun q => nomatch q), fun q => nomatch q⟩) (List.pairwise_singleton ..)⟩
theorem sQ (n m nm mw cap : Nat) (ao : Option Addr) (xs : List Int) (w : World) (hn : n <= 64) (hm : m <= 64) (hmw : mw <= 1048577) (hA : aI w mw ao xs) (hs : xs.length = n * m) (hnm : xs.length = nm) :
 Calls Try.prog 8 #[.agg #[.int .i64 (n : Int), .int .i64 (m : Int), .slice ao nm cap]] w fun e w' => (∃ x : Int, kz n m xs x /\ ∃ v, e = .returned (.tuple #[v, .int .i64 0]) /\ ak w' w.heap.size v x) /\ Below w.heap.size w w' :=
 (sr n m nm mw cap ao xs w hn hm hmw hA hs hnm (fun _ _ _ _ h1 h2 => h1.rank h2) (fun _ _ _ h1 h2 => h1.core h2)).mono fun e w' ⟨⟨k, c1, c2, zs, v, hN, he, hv⟩, hb⟩ => ⟨⟨_, ⟨k, c1, c2, zs, hN, rfl⟩, v, he, hv⟩, hb⟩
theorem Fr.roB {S0 : Nat -> Prop} {w0 w : World} {es : List En} (h : Fr S0 w0 w es) {e : En} (he : e.F w) (hwr : e.wr = false) (hS : ∀ e ∈ es, e.wr = false) : Fr S0 w0 w (e :: es) :=
 h.cons he (fun e' he' => ⟨(fun q => by rw [hwr] at q; cases q), fun q => by rw [hS e' he'] at q; cases q⟩) (fun q => by rw [hwr] at q; cases q)
structure rA (w : World) (g : Nat) (a b : Value × Value × Value) : Prop where
 h0 : w.cell? ⟨g, 0, none⟩ = some a.1
 h1 : w.cell? ⟨g, 1, none⟩ = some a.2.1
 h2 : w.cell? ⟨g, 2, none⟩ = some a.2.2
 h3 : w.cell? ⟨g, 3, none⟩ = some b.1
 h4 : w.cell? ⟨g, 4, none⟩ = some b.2.1
 h5 : w.cell? ⟨g, 5, none⟩ = some b.2.2
theorem rA.fr {w : World} {g : Nat} {a b : Value × Value × Value} (h : rA w g a b) : Fr (fun _ => False) w w [.cell ⟨g, 0, none⟩ a.1, .cell ⟨g, 1, none⟩ a.2.1, .cell ⟨g, 2, none⟩ a.2.2, .cell ⟨g, 3, none⟩ b.1, .cell ⟨g, 4, none⟩ b.2.1, .cell ⟨g, 5, none⟩ b.2.2] := by
 refine Fr.roB (Fr.roB (Fr.roB (Fr.roB (Fr.roB (Fr.roB (Fr.nil _ w) (e := .cell ⟨g, 5, none⟩ b.2.2) h.h5 rfl ?_) (e := .cell ⟨g, 4, none⟩ b.2.1) h.h4 rfl ?_) (e := .cell ⟨g, 3, none⟩ b.1) h.h3 rfl ?_) (e := .cell ⟨g, 2, none⟩ a.2.2) h.h2 rfl ?_) (e := .cell ⟨g, 1, none⟩ a.2.1) h.h1 rfl ?_) (e := .cell ⟨g, 0, none⟩ a.1) h.h0 rfl ?_ <;> simp [En.wr]
set_option maxRecDepth 100000 in
set_option maxHeartbeats 1000000 in
theorem mA (g r c s d n k : Nat) (ao bo : Option Addr) (ca cb : Nat) (w : World) (hr : r <= 64) (hc : c <= 64) (hs : s <= 64) (hd : d <= 64) (hn : n = r * c) (hk : k = s * d) (h : rA w g (.int .i64 (r : Int), .int .i64 (c : Int), .slice ao n ca) (.int .i64 (s : Int), .int .i64 (d : Int), .slice bo k cb)) :
 Calls Try.prog 67 #[.slice (some ⟨g, 0, none⟩) 2 2] w fun e w' => e = .returned (.int .i64 0) /\ Below w.heap.size w w' := by
 have hS : ∀ r c : Nat, r <= 64 -> c <= 64 -> aR (r : Int) (c : Int) (r * c) = true := fun r c hr hc => by
  have h3 : decide ((r : Int) <= 64) = true := by simp; omega
  have h4 : decide ((c : Int) <= 64) = true := by simp; omega
  simp [aR, bB, h3, h4]
 have c1 := fun w' => cF (r : Int) (c : Int) ao n ca w' (by omega) (by omega);have c2 := fun w' => cF (s : Int) (d : Int) bo k cb w' (by omega) (by omega);rw [dm (by rw [hn]; exact hS r c hr hc)] at c1;rw [dm (by rw [hk]; exact hS s d hs hd)] at c2;have HC := Lib.hid (And.intro c1 c2);clear c1 c2 hS hn hk;refine aZ (S0 := fun _ => False) Try.func67 h.fr ?_;clear h;refine ae ?_;refine rW [] ?_;refine dW ?_;refine eW ?_;refine ae ?_;refine rW [] ?_;refine dW ?_;refine dW ?_;refine dW ?_;refine eW ?_;refine ae ?_;refine bF (X := Nat) (fun i => i <= 2) (fun i => 2 - i) (fun i => [(7, .int .i64 (i : Int)), (6, .int .i64 2), (5, .slice (some ⟨g, 0, none⟩) 2 2)]) (fun _ => [.cell ⟨g, 0, none⟩ (.int .i64 (r : Int)), .cell ⟨g, 1, none⟩ (.int .i64 (c : Int)), .cell ⟨g, 2, none⟩ (.slice ao n ca), .cell ⟨g, 3, none⟩ (.int .i64 (s : Int)), .cell ⟨g, 4, none⟩ (.int .i64 (d : Int)), .cell ⟨g, 5, none⟩ (.slice bo k cb)]) 0 (Nat.zero_le _) fun i hi => ?_;by_cases h0 : i = 0
 · subst h0;refine ae ?_;refine rW [] ?_;refine dB true ?_;refine eW ?_;refine ae ?_;refine dO ?_;refine ae ?_;refine rW [] ?_;refine dW ?_;refine dW ?_;refine aW fun g4 => ?_;refine sG ?_;refine eW ?_;refine ae ?_;refine rW [] ?_;refine dW ?_;refine cV (v := .int .i64 0) (fun w' H => HC.out.1 w') ?_;refine dB false ?_;refine eW ?_;refine ae ?_;refine bX ?_;refine ae ?_;refine rW [] ?_;refine dE (cd (a := 0) (by omega)) ?_;refine dW ?_;refine eW ?_;refine ae ?_;exact bh (1 : Nat) ⟨by omega, by omega⟩
 · by_cases h1 : i = 1
   · subst h1;refine ae ?_;refine rW [] ?_;refine dB true ?_;refine eW ?_;refine ae ?_;refine dO ?_;refine ae ?_;refine rW [] ?_;refine dW ?_;refine dW ?_;refine aW fun g4 => ?_;refine sG ?_;refine eW ?_;refine ae ?_;refine rW [] ?_;refine dW ?_;refine cV (v := .int .i64 0) (fun w' H => HC.out.2 w') ?_;refine dB false ?_;refine eW ?_;refine ae ?_;refine bX ?_;refine ae ?_;refine rW [] ?_;refine dE (cd (a := 1) (by omega)) ?_;refine dW ?_;refine eW ?_;refine ae ?_;exact bh (2 : Nat) ⟨by omega, by omega⟩
   · obtain rfl : i = 2 := by omega
     refine ae ?_;refine rW [] ?_;refine dB false ?_;refine eW ?_;refine ae ?_;refine bX ?_;refine ae ?_;refine rW [] ?_;refine dW ?_;refine eW ?_;refine ae ?_;refine cQ fun w' H => ?_;exact ⟨_, cX, rfl, H.below⟩
end Go.Proofs.Ytjjlmfmoihooiaa
