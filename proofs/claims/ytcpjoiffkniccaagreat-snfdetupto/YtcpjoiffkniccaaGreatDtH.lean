/- Part 8 of 8 of the proof that the law SnfDet returns true for every input of bulk at most 1048576 and leaves its arguments as they were: the law itself. -/
import Derived.Test.YtcpjoiffkniccaaGreatDtG
set_option linter.all false
namespace Go.Proofs.YtcpjoiffkniccaaGreat
open Go.RowKit
def trnF (c : Nat) (xs : List Int) (i j : Nat) : Int := gi xs (j * c + i)
def trn (r c : Nat) (xs : List Int) : List Int := tabK r (trnF c xs) (c * r)
theorem trn_length (r c : Nat) (xs : List Int) : (trn r c xs).length = c * r := tabK_length ..
theorem trn_gi {r c i j : Nat} (xs : List Int) (hi : i < c) (hj : j < r) : gi (trn r c xs) (i * r + j) = gi xs (j * c + i) := tabK_matE (trnF c xs) hi hj
theorem trn_mem {r c : Nat} {xs : List Int} (hs : xs.length = r * c) {x : Int} (h : x ∈ trn r c xs) : x ∈ xs := by
 unfold trn tabK at h;obtain ⟨q, hq, rfl⟩ := List.mem_map.1 h;have hq := List.mem_range.1 hq;have hr : 0 < r := by
  rcases Nat.eq_zero_or_pos r with h | h
  · subst h; simp at hq
  · exact h
 refine gi_mem ?_;rw [hs];exact idxL (Nat.mod_lt _ hr) (Nat.div_lt_of_lt_mul (by rw [Nat.mul_comm]; exact hq))
set_option maxRecDepth 100000 in
set_option maxHeartbeats 1000000 in
theorem Turn1n_c (r c i j g : Nat) (ao : Option Addr) (cap L : Nat) (xs : List Int) (w : World) (hr : r <= 64) (hc : c <= 64) (hi : i < c) (hj : j < r) (hg : RowAt w g 24 [.int .i64 (r : Int), .int .i64 (c : Int), .slice ao xs.length cap]) (hA : LsAt w L ao xs) (hL : L <= 17592186044415) (hs : xs.length = r * c) :
 Calls Tryz.prog 66 #[.int .i64 (i : Int), .int .i64 (j : Int), .pointer (some ⟨g, 0, none⟩)] w fun e w' => (∃ v, e = .returned v /\ OwnI w' w.heap.size v (trnF c xs i j)) /\ Below w.heap.size w w' := by
 have hlt := idxL (r := r) (c := c) hj hi;have hrc : r * c <= 4096 := Nat.mul_le_mul hr hc;obtain ⟨bx, ox, rfl⟩ := hA.pos (i := j * c + i) (by rw [hs]; exact hlt);obtain ⟨A, hA'⟩ : ∃ A, j * c = A := ⟨_, rfl⟩;obtain ⟨B, hB⟩ : ∃ B, A + i = B := ⟨_, rfl⟩;have hBl : B < xs.length := by rw [hs, <- hB, <- hA']; exact hlt
 have hBl' : (B : Int) < (xs.length : Int) := by omega
 have hAs : j * c < 9223372036854775808 := by omega
 have hgl : A + i < 9223372036854775807 := by omega
 have e0 : trnF c xs i j = gi xs B := by rw [trnF, hA', hB]
 rw [e0];have HB : Hid (B < xs.length) := Lib.hid hBl;clear hs hlt hrc e0 hBl;refine funW (S0 := fun _ => False) Tryz.func66 ((((Fr.nil _ w).l hA (by simp)).cl (hg.cell 2) (by simp [En.wr])).cl (hg.cell 1) (by simp [En.wr])) ?_;refine goW ?_;refine rW [] ?_;refine aW fun g5 => ?_;refine eW ?_;refine numW (L := L) (xs := xs) (b := bx) (o := ox) B (by simp) HB.out fun p => ?_;refine goW ?_;refine rW [] ?_;refine dW ?_;refine dW ?_;refine dW ?_;refine dW ?_;refine dW ?_;refine dE ((mulI (a := j) (b := c) hAs).trans (by rw [hA'])) ?_;refine dW ?_;refine dE ((sumI (a := A) (b := i) hgl).trans (by rw [hB])) ?_;refine dW ?_;refine dW ?_;refine cN (fun w' H => ILeast_c (av p) _ w' (H.m2.mono hL)) fun q => ?_;refine sW ?_;refine eW ?_;refine goW ?_;refine fin1 fun w' H => ?_;exact ⟨_, rvI H.m4, ⟨_, rfl, H.m0⟩, H.below⟩
set_option maxRecDepth 100000 in
set_option maxHeartbeats 1000000 in
theorem MTurn2_c (r c : Nat) (ao : Option Addr) (cap L : Nat) (xs : List Int) (w : World) (hr : r <= 64) (hc : c <= 64) (hA : LsAt w L ao xs) (hL : L <= 17592186044415) (hs : xs.length = r * c) :
 Calls Tryz.prog 49 #[.agg #[.int .i64 (r : Int), .int .i64 (c : Int), .slice ao xs.length cap]] w fun e w' => (∃ p : Option Addr × Nat, e = .returned (.tuple #[.agg #[.int .i64 (c : Int), .int .i64 (r : Int), .slice p.1 (c * r) p.2], .int .i64 0]) /\ LsN w' p.1 (trn r c xs) /\ True /\ ∀ b o, p.1 = some ⟨b, o, none⟩ -> w.heap.size <= b) /\ Below w.heap.size w w' := by
 have hC : ∀ w', Calls Tryz.prog 25 #[.agg #[.int .i64 (r : Int), .int .i64 (c : Int), .slice ao xs.length cap]] w' fun e w'' => e = .returned (.int .i64 0) /\ Below w'.heap.size w' w'' := fun w' => by
  have := Check_c (r : Int) (c : Int) ao xs.length cap w' (by omega) (by omega);rw [chkM_ok (by unfold soundM sideOk; rw [hs]; simp; omega)] at this; exact this
 have HS : Hid (xs.length = r * c) := Lib.hid hs;clear hs;refine funW (S0 := fun _ => False) Tryz.func49 ((Fr.nil _ w).l hA (by simp)) ?_;refine goW ?_;refine rW [] ?_;refine aW fun g1 => ?_;refine aW fun g2 => ?_;refine dW ?_;refine eW ?_;refine goW ?_;refine rW [] ?_;refine dW ?_;refine cV (fun w' H => hC w') ?_;refine dW ?_;refine eW ?_;refine goW ?_;refine rW [] ?_;refine dW ?_;refine dW ?_;refine eW ?_;refine goW ?_;refine cfW ?_;refine goW ?_;refine rW [] ?_;refine dW ?_;refine dW ?_;refine dW ?_;refine dW ?_;refine fW ?_;refine cLn (α := Option Addr × Nat) (mk := fun p => .agg #[.int .i64 (c : Int), .int .i64 (r : Int), .slice p.1 (c * r) p.2]) (ao := fun p => p.1) (xs := fun _ => trn r c xs) (A := fun _ => True)
  (fun w' H => (Build1_c 66 (fun _ _ => by go_simp) c r g1 (trnF c xs) w' hc hr (fun i j w2 hi hj hb => by
   have h1 : RowAt w' g1 24 [.int .i64 (r : Int), .int .i64 (c : Int), .slice ao xs.length cap] := H.m1;have h2 : LsAt w' L ao xs := H.m2;exact Turn1n_c r c i j g1 ao cap L xs w2 hr hc hi hj (h1.below hb h1.lt) (h2.below hb) hL HS.out)).mono (by
    rintro e w3 ⟨⟨ao', cap', rfl, hl, _, hS⟩, hb⟩;exact ⟨⟨(ao', cap'), rfl, hl, trivial, hS⟩, hb⟩)) fun q => ?_
 refine sW ?_;refine dW ?_;refine eW ?_;refine goW ?_;refine fin2 fun w' H => ?_;exact ⟨_, _, rvM H.m2, rvT, ⟨q, rfl, H.m0, trivial, (show True /\ ∀ b o, q.1 = some ⟨b, o, none⟩ -> w.heap.size <= b from H.m1).2⟩, H.below⟩
theorem Form_n (r c m : Nat) (ao : Option Addr) (cap : Nat) (xs : List Int) (w : World) (hr : r <= 64) (hc : c <= 64) (h : LsAt w 17592186044415 ao xs) (hm : ∀ x ∈ xs, x.natAbs < W ^ m) (hm1 : m <= 140000000) (hs : xs.length = r * c) :
 Calls Tryz.prog 30 #[.agg #[.int .i64 (r : Int), .int .i64 (c : Int), .slice ao (r * c) cap]] w fun e w' => (∃ p : Nat × List Int, e = .returned (.tuple #[.agg #[.int .i64 (r : Int), .int .i64 (c : Int), .slice (some ⟨p.1, 0, none⟩) (r * c) (r * c)], .int .i64 0]) /\ LsN w' (some ⟨p.1, 0, none⟩) p.2 /\ ((∃ k l, IsHnf r c xs p.2 k l) /\ p.2.length = r * c /\ ∀ x ∈ p.2, x.natAbs < W ^ hW m) /\ ∀ b o, some (⟨p.1, 0, none⟩ : Addr) = some ⟨b, o, none⟩ -> w.heap.size <= b) /\ Below w.heap.size w w' :=
 (Form_c r c m ao (r * c) cap xs w hr hc h hm hm1 hs.symm hs).mono fun e w'' ⟨⟨b, hs', k, l, he, hb, hR, hH, hB⟩, hbl⟩ => ⟨⟨(b, hs'), he, hR.lsN, ⟨⟨k, l, hH⟩, hH.len, hB⟩, fun b' o e => by cases e; exact hb⟩, hbl⟩
theorem lsN_at {w : World} {m : Nat} {ao : Option Addr} {xs : List Int} (h : LsN w ao xs) (hm : ∀ x ∈ xs, x.natAbs < W ^ m) (h1 : m <= 17592186044415) : LsAt w 17592186044415 ao xs := h.lsAt fun x hx => Nat.le_trans (wlen_le_of_lt (hm x hx)) h1
set_option maxRecDepth 100000 in
set_option maxHeartbeats 1000000 in
theorem STurned_c (r c m : Nat) (ao : Option Addr) (cap : Nat) (xs : List Int) (w : World) (hr : r <= 64) (hc : c <= 64) (hA : LsAt w 17592186044415 ao xs) (hm : ∀ x ∈ xs, x.natAbs < W ^ m) (hm1 : m <= 140000000) (hs : xs.length = r * c) :
 Calls Tryz.prog 32 #[.agg #[.int .i64 (r : Int), .int .i64 (c : Int), .slice ao (r * c) cap]] w fun e w' => (∃ p : List Int × Option Addr × Nat, e = .returned (.agg #[.int .i64 (r : Int), .int .i64 (c : Int), .slice p.2.1 (r * c) p.2.2]) /\ LsN w' p.2.1 (trn c r p.1) /\ ((∃ k l, IsHnf c r (trn r c xs) p.1 k l) /\ p.1.length = c * r /\ ∀ x ∈ p.1, x.natAbs < W ^ hW m) /\ ∀ b o, p.2.1 = some ⟨b, o, none⟩ -> w.heap.size <= b) /\ Below w.heap.size w w' := by
 have hT1 := fun w' h => MTurn2_c r c ao cap 17592186044415 xs w' hr hc h (Nat.le_refl _) hs;rw [hs] at hT1;have hF := fun w' ao cap (h : LsN w' ao (trn r c xs)) => Form_n c r m ao cap (trn r c xs) w' hc hr (lsN_at h (fun x hx => hm x (trn_mem hs hx)) (by omega)) (fun x hx => hm x (trn_mem hs hx)) hm1 (trn_length ..);have hhw : hW m <= 17592186044415 := by unfold hW hermW; omega
 have hT2 := fun w' ao cap (ts : List Int) (h : LsN w' ao ts) (hl : ts.length = c * r) (hB : ∀ x ∈ ts, x.natAbs < W ^ hW m) => by
  have := MTurn2_c c r ao cap 17592186044415 ts w' hc hr (lsN_at h hB hhw) (Nat.le_refl _) hl;rw [hl] at this; exact this
 obtain ⟨M, hM⟩ : ∃ M, hW m = M := ⟨_, rfl⟩;rw [hM] at hF hT2 ⊢;have HT1 := Lib.hid hT1;have HF := Lib.hid hF;have HT2 := Lib.hid hT2;clear hT1 hF hT2 hM hhw hs hm;refine funW (S0 := fun _ => False) Tryz.func32 ((Fr.nil _ w).l hA (by simp)) ?_;refine goW ?_;refine rW [] ?_;refine aW fun g1 => ?_;refine aW fun g2 => ?_;refine eW ?_;refine goW ?_;refine rW [] ?_;refine dW ?_;refine cLn (α := Option Addr × Nat) (mk := fun p => .tuple #[.agg #[.int .i64 (c : Int), .int .i64 (r : Int), .slice p.1 (c * r) p.2], .int .i64 0]) (ao := fun p => p.1) (xs := fun _ => trn r c xs) (A := fun _ => True) (fun w' H => HT1.out w' H.m2) fun q1 => ?_;refine dW ?_;refine dW ?_;refine dW ?_;refine aW fun g3 => ?_;refine sG ?_;refine dW ?_;refine eW ?_;refine goW ?_;refine rW [] ?_;refine dW ?_;refine cLn (α := Nat × List Int) (mk := fun p => .tuple #[.agg #[.int .i64 (c : Int), .int .i64 (r : Int), .slice (some ⟨p.1, 0, none⟩) (c * r) (c * r)], .int .i64 0]) (ao := fun p => some ⟨p.1, 0, none⟩) (xs := fun p => p.2) (A := fun p => (∃ k l, IsHnf c r (trn r c xs) p.2 k l) /\ p.2.length = c * r /\ ∀ x ∈ p.2, x.natAbs < W ^ M) (fun w' H => HF.out w' _ _ H.m1) fun q2 => ?_;obtain ⟨b, ts⟩ := q2;refine dW ?_;refine dW ?_;refine dW ?_;refine sW ?_;refine eW ?_;refine prW (A := ((∃ k l, IsHnf c r (trn r c xs) ts k l) /\ ts.length = c * r /\ ∀ x ∈ ts, x.natAbs < W ^ M) /\ ∀ b' o, some (⟨b, 0, none⟩ : Addr) = some ⟨b', o, none⟩ -> w.heap.size <= b') (by simp) fun hA => ?_;have HH := Lib.hid hA.1;clear hA;refine pickW (es' := [.row g3 24 [.int .i64 (c : Int), .int .i64 (r : Int), .slice (some ⟨b, 0, none⟩) (c * r) (c * r)], .row g2 24 [.int .i64 0, .int .i64 0, .slice none 0 0], .lsn (some ⟨b, 0, none⟩) ts]) ?_;refine goW ?_;refine rW [] ?_;refine dW ?_;refine cLn (α := Option Addr × Nat) (mk := fun p => .tuple #[.agg #[.int .i64 (r : Int), .int .i64 (c : Int), .slice p.1 (r * c) p.2], .int .i64 0]) (ao := fun p => p.1) (xs := fun _ => trn c r ts) (A := fun _ => True) (fun w' H => HT2.out w' _ _ ts H.m2 HH.out.2.1 HH.out.2.2) fun q3 => ?_;refine dW ?_;refine dW ?_;refine dW ?_;refine sW ?_;refine eW ?_;refine pickW (es' := [.row g3 24 [.int .i64 (r : Int), .int .i64 (c : Int), .slice q3.1 (r * c) q3.2], .row g2 24 [.int .i64 0, .int .i64 0, .slice none 0 0], .lsn q3.1 (trn c r ts), .pr (True /\ ∀ b o, q3.1 = some ⟨b, o, none⟩ -> w.heap.size <= b)]) ?_;refine goW ?_;refine rW [] ?_;refine dW ?_;refine sW ?_;refine eW ?_;refine goW ?_;refine fin1 fun w' H => ?_;exact ⟨_, rvM H.m1, ⟨(ts, q3), rfl, H.m2, HH.out, (show True /\ ∀ b o, q3.1 = some ⟨b, o, none⟩ -> w.heap.size <= b from H.m3).2⟩, H.below⟩
theorem Fr.rep {S0 : Nat -> Prop} {w0 w w' : World} {e : En} {es X : List En} (h : Fr S0 w0 w (e :: es)) (hw : e.wr = true) (hc : Chg e.S w w') (hT : Wl e.S w) (hX : ∀ x ∈ X, x.F w' /\ ∀ b, x.S b -> e.S b ∨ w.heap.size <= b) (hp : X.Pairwise Ap) : Fr S0 w0 w' (X ++ es) := by
 obtain ⟨e0, he0⟩ : ∃ e0 : En, e0 = .fact false true (fun b => (e.S b ∨ w.heap.size <= b) /\ b < w'.heap.size) (fun w'' => w'.heap.size <= w''.heap.size) (fun h b hb => Nat.lt_of_lt_of_le hb.2 h) (fun h hc _ _ => Nat.le_trans h hc.size) := ⟨_, rfl⟩;have h1 : Fr S0 w0 w' (e0 :: es) := h.upd (e' := e0) hw hc (fun _ _ _ => hT) (fun _ h => h) (by subst he0; exact Nat.le_refl _) (fun b hb => by subst he0; exact hb.1);exact h1.openE (by subst he0; rfl) (fun x hx => ⟨(hX x hx).1, fun b hb => by subst he0; exact ⟨(hX x hx).2 b hb, En.lt (hX x hx).1 b hb⟩⟩) hp
section
variable {P : Program} {ops : Array Oper} {Q : Exit -> Act -> World -> Prop} {ds : List Deferred} {S0 : Nat -> Prop} {w0 : World} {E0 : List En} {hd : List (List Nat)} {n j s : Nat} {l : List Nat} {G E : List En} {ls : List (Nat × Value)} {op : Op} {ty : TypeId} {pos : String} {af : Array Edge} {f : FuncId} {args : Array Value}
theorem cRep {α : Type} {mk : α -> Value} {e : En} {ens : α -> List En}
 (c : ∀ w, Fr S0 w0 w ((e :: G) ++ E) -> Calls P f args w fun r w' => ∃ p, r = .returned (mk p) /\ Chg e.S w w' /\ (∀ x ∈ ens p, x.F w' /\ ∀ b, x.S b -> e.S b ∨ w.heap.size <= b) /\ (ens p).Pairwise Ap)
 (hwl : ∀ w, e.F w -> Wl e.S w)
 (k : ∀ p, RWm ds ⟨P, ops, Q, S0, w0, E0, hd⟩ n l (ens p ++ G) E ((s, mk p) :: ls))
 (hwr : e.wr = true := by rfl) (hne : Nonempty α := by infer_instance)
 (ho : ops[j]? = some ⟨some s, op, ty, pos, af, none⟩ := by rfl) (hk : (!isDet op && !isNew op && chkO ls op && Nat.blt s n) = true := by kernel_rfl)
 (hr : ∀ w, (execOp (evl ls) ⟨some s, op, ty, pos, af, none⟩).run P w = .ok (.enter f args) w := by intro w; (try simp only [av]); go_simp <;> with_reducible rfl)
 (hst : okSt ops hd j [] = true := by kernel_rfl) : RWm ds ⟨P, ops, Q, S0, w0, E0, hd⟩ n (j :: l) (e :: G) E ls := fun a ha => by
 simp only [Bool.and_eq_true, Bool.not_eq_true'] at hk;refine ⟨_, ho, .inr (.inr ⟨hk.1.1.1, hk.1.1.2, α, mk, fun p => ens p ++ G, fun _ => E, [], hne, fun X w hX hw => ?_, hst, fun _ _ _ => rfl, fun p => k p _ (ha.put (Nat.le_of_ble_eq_true hk.2) _)⟩)⟩;refine ifw rfl ?_;show wpR P _ ((execOp a.eval _).run P w);rw [ha.exec hk.1.2, hr w];have hw1 : Fr S0 w0 w (e :: (X ++ (G ++ E))) := hw.perm (List.perm_middle (l₁ := X) (l₂ := G ++ E));refine (c w (hw.sub (List.sublist_append_right ..))).mono ?_;rintro r w' ⟨p, rfl, hc, hX', hp⟩;refine ⟨_, rfl, p, rfl, (hw1.rep hwr hc (hwl w hw1.m0) hX' hp).perm ?_⟩;rw [List.append_assoc];exact List.perm_append_comm_assoc (ens p) X (G ++ E)
end
theorem FldF.wl {gF m : Nat} {z : Fld} {w : World} (h : FldF gF m z w) : Wl (FldS gF z) w := fun _ hg => h.rows hg
theorem BStep_c (gF n m c k mw : Nat) (z : Fld) (A : Mx) (nu cs : Nat -> Nat) (w : World) (hn : n <= 64) (hm : m <= 64) (hc : c < m) (hmw : mw <= 1048577) (hI : StP n m mw A c k nu cs z) (h : FldF gF m z w) :
 Calls Tryz.prog 27 #[.pointer (some ⟨gF, 0, none⟩), .int .i64 (c : Int)] w fun e w' => ∃ p : Bool × Fld, e = .returned (.bool p.1) /\ Chg (FldS gF z) w w' /\ FldF gF m p.2 w' /\ (∀ g, FldS gF p.2 g -> FldS gF z g ∨ w.heap.size <= g) /\ StR n m mw A c k nu cs z p.1 p.2 := by
 rcases Nat.eq_zero_or_pos n with rfl | h0
 · exact (BStep_0 gF m c k mw z A nu cs w hc hI h).mono fun e w' ⟨b, z', q⟩ => ⟨(b, z'), q⟩
 · exact (BStep_n gF n m c k mw z A nu cs w h0 hn hm hc hmw hI h).mono fun e w' ⟨b, z', q⟩ => ⟨(b, z'), q⟩
theorem csL_next (k c : Nat) (cs : Nat -> Nat) : (List.range (k + 1)).map (nxt cs k c) = (List.range k).map cs ++ [c] := by
 rw [List.range_succ, List.map_append];congr 1
 · exact List.map_congr_left fun t ht => nxt_low (List.mem_range.1 ht)
 · simp [nxt_at]
structure RnX where
 c : Nat
 k : Nat
 z : Fld
 nu : Nat -> Nat
 cs : Nat -> Nat
 lo : Option Addr
 lc : Nat
structure RnI (n m mw : Nat) (A : Mx) (x : RnX) : Prop where
 hc : x.c <= m
 st : StP n m mw A x.c x.k x.nu x.cs x.z
set_option maxRecDepth 100000 in
set_option maxHeartbeats 4000000 in
theorem BRun_c (gF n m mw : Nat) (z : Fld) (A : Mx) (nu cs : Nat -> Nat) (w : World) (hn : n <= 64) (hm : m <= 64) (hmw : mw <= 1048577) (hI : StP n m mw A 0 0 nu cs z) (h : FldF gF m z w) :
 Calls Tryz.prog 36 #[.pointer (some ⟨gF, 0, none⟩), .int .i64 (m : Int)] w fun e w' => ∃ p : (Option Addr × Nat) × Nat × Fld × (Nat -> Nat) × (Nat -> Nat), e = .returned (.slice p.1.1 p.2.1 p.1.2) /\ Chg (FldS gF z) w w' /\ LgF 3 1 p.1.1 p.2.1 p.1.2 (iL ((List.range p.2.1).map p.2.2.2.2)) w' /\ (∀ b o, p.1.1 = some ⟨b, o, none⟩ -> FldS gF z b ∨ w.heap.size <= b) /\ StP n m mw A m p.2.1 p.2.2.2.1 p.2.2.2.2 p.2.2.1 := by
 have HI := Lib.hid hI;clear hI;refine funW (S0 := FldS gF z) Tryz.func36 (Fr.fldS h) ?_;clear h;refine goW ?_;refine rW [] ?_;refine dW ?_;refine eW ?_;refine goW ?_;refine rW [] ?_;refine dW ?_;refine eW ?_;refine goW ?_;refine rW [] ?_;refine dW ?_;refine dW ?_;refine eW ?_;refine goW ?_;refine lg0W (te := 3) (sz := 1) ?_;refine loopW (X := RnX) (RnI n m mw A) (fun x => m - x.c) (fun x => [(8, .int .i64 (x.c : Int)), (7, .int .i64 (m : Int)), (5, .slice x.lo x.k x.lc), (0, .pointer (some ⟨gF, 0, none⟩))]) (fun x => [.lg 3 1 x.lo x.k x.lc (iL ((List.range x.k).map x.cs)), .fld gF m x.z]) ⟨0, 0, z, nu, cs, none, 0⟩ ⟨Nat.zero_le _, HI.out⟩ fun x hx => ?_;obtain ⟨c, k, z1, nu1, cs1, lo, lc⟩ := x;have hc : c <= m := hx.hc;have HX : Hid (StP n m mw A c k nu1 cs1 z1) := Lib.hid hx.st;have hk : k <= 64 := by have := hx.st.br.kn; have : k <= n := this; omega
 clear hx;by_cases h : c < m
 · have h01 : (c : Int) < (m : Int) := by omega
   refine goW ?_;refine rW [] ?_;refine dB true ?_;refine eW ?_;refine goW ?_;refine ctW ?_;refine goW ?_;refine rW [] ?_;refine dW ?_;refine dW ?_;refine eW ?_;refine goW ?_;refine rW [] ?_;refine dW ?_;refine dW ?_;refine cUp (α := Bool × Fld) (mk := fun p => .bool p.1) (e := .fld gF m z1) (e' := fun p => .fld gF m p.2) (ens := fun p => [.pr (StR n m mw A c k nu1 cs1 z1 p.1 p.2)]) (fun w' H => (BStep_c gF n m c k mw z1 A nu1 cs1 w' hn hm h hmw HX.out (H.all (.fld gF m z1) (by simp))).mono fun e w'' ⟨p, he, q1, q2, q3, q4⟩ => ⟨p, he, q1, q2, q3, fun x hx => by rcases List.mem_singleton.1 hx with rfl; exact ⟨q4, fun _ h => h⟩⟩) (fun w h => FldF.wl h) (hne := ⟨(false, z1)⟩) fun p => ?_;refine eW ?_;refine goW ?_;refine prW (A := StR n m mw A c k nu1 cs1 z1 p.1 p.2) (by simp) fun hs => ?_;obtain ⟨b, z2⟩ := p
   replace hs : StR n m mw A c k nu1 cs1 z1 b z2 := hs
   by_cases hb : b = true
   · subst hb;have hs2 := hs.resolve_left fun q => nomatch q.1;obtain ⟨_, hkn, nu2, hst, _⟩ := hs2;have HST := Lib.hid hst;clear hst hs;refine goW ?_;refine ctW ?_;refine goW ?_;refine rW [] ?_;refine dW ?_;refine dW ?_;refine bW (m := 1) fun g16 => ?_;refine appG (k := k) (cap := lc) (g := g16) (c := 1) (ao := lo) (cs := iL ((List.range k).map cs1)) (v := .int .i64 (c : Int)) Tryz.underlying47 info_I rfl (zc_one (.int .i64 0) rfl (fun n h => nomatch h)) (by omega) (by omega) rfl ⟨iL_now _, by decide⟩ (by simp) fun u => ?_;refine dW ?_;refine eW ?_;refine goW ?_;refine rW [] ?_;refine dE (incB (a := c) (by omega)) ?_;refine dW ?_;refine eW ?_;refine goW ?_;exact backW (⟨c + 1, k + 1, z2, nu2, nxt cs1 k c, u.1, u.2⟩ : RnX) ⟨⟨h, HST.out⟩, by show m - (c + 1) < m - c; omega⟩ (he := by
      intro w' h';rw [iL_snoc, <- csL_next] at h';exact h'.pick (by repeat (first | exact Pk.n | refine Pk.c (by repeat (first | exact Rm.z | apply Rm.s)) ?_)))
   · have hb' : b = false := by simpa using hb
     subst hb';have hs2 := hs.resolve_right fun q => nomatch q.1;obtain ⟨_, _, hst, _⟩ := hs2;have HST := Lib.hid hst;clear hst hs hb;refine goW ?_;refine cfW ?_;refine goW ?_;refine rW [] ?_;refine dE (incB (a := c) (by omega)) ?_;refine dW ?_;refine eW ?_;refine goW ?_;exact backW (⟨c + 1, k, z2, nu1, cs1, lo, lc⟩ : RnX) ⟨⟨h, HST.out⟩, by show m - (c + 1) < m - c; omega⟩
 · obtain rfl : m = c := by omega
   refine goW ?_;refine rW [] ?_;refine dB false ?_;refine eW ?_;refine goW ?_;refine cfW ?_;refine goW ?_;refine rW [] ?_;refine dW ?_;refine dW ?_;refine eW ?_;refine goW ?_;refine fin1 fun w' H => ?_;exact ⟨_, rvT, ((lo, lc), k, z1, nu1, cs1), rfl, H.bs, H.m0, fun b o e => H.own (.lg 3 1 lo k lc (iL ((List.range k).map cs1))) (by simp) rfl b ⟨o, e⟩, HX.out⟩
theorem rowsE_at {n m i : Nat} {xs : List Int} (hi : i < n) : (rowsE n m xs).getD i [] = rowOf xs m i := by simp [rowsE, hi]
theorem mxE_rows {n m i j : Nat} {xs : List Int} (hi : i < n) (hj : j < m) : mxE (rowsE n m xs) i j = matE xs n m i j := by
 unfold mxE gi;rw [rowsE_at hi, getD_rowOf _ _ _ _ hj, matE_eq hi hj]
theorem lt_lsB {w : World} {ao : Option Addr} {xs : List Int} {B : Nat} (h : LsAt w B ao xs) : ∀ x ∈ xs, x.natAbs < W ^ B := fun x hx => by
 obtain ⟨i, hi, rfl⟩ := List.getElem_of_mem hx;obtain ⟨b, o, _, _, hc⟩ := h (by omega);obtain ⟨q, _, _, hI⟩ := hc i hi;exact Nat.lt_of_lt_of_le (lt_pow_wlen _) (Nat.pow_le_pow_right (by decide) hI.wlen)
theorem StP.start {n m mw : Nat} {xs : List Int} {z : Fld} (cs : Nat -> Nat) (hs : xs.length = n * m) (hb : ∀ x ∈ xs, x.natAbs < W ^ mw) (h : z.E = rowsE n m xs /\ z.ls = 1 /\ z.tn = false /\ z.tk = 0 /\ z.nu.length = n) : StP n m mw (matE xs n m) 0 0 (fun i => i) cs z := by
 obtain ⟨h1, h2, _, h3, h4⟩ := h;have hA : ∀ i j, (matE xs n m i j).natAbs < W ^ mw := fun i j => matE_bound (Nat.pow_pos (by unfold W; omega)) hb i j;refine ⟨by rw [h1, rowsE_len], fun t ht => by rw [h1, rowsE_at ht]; exact rowOf_length hs ht, h4, h3, ?_, fun i j => Nat.le_of_lt (hA i j), fun t ht j => ?_, ?_⟩
 · rw [h2, h1]; exact BrI.start cs fun i hi j hj => mxE_rows hi hj
 · rw [h1];by_cases hj : j < m
   · rw [mxE_rows ht hj]; exact Nat.le_trans (wlen_le_of_lt (hA t j)) (by omega)
   · have : mxE (rowsE n m xs) t j = 0 := by
      unfold mxE gi;rw [rowsE_at ht]; exact gd_ge _ _ (by rw [rowOf_length hs ht]; omega)
     rw [this]; simp [wlen_zero]
 · rw [h2]; exact Nat.le_trans (wlen_le_of_lt (k := 1) (by unfold W; decide)) (by omega)
def PvT (n m : Nat) (A : Mx) (k : Nat) (cs : Nat -> Nat) : Prop := ∃ nu R d, BrI n m A m k nu cs R d
set_option maxRecDepth 100000 in
set_option maxHeartbeats 4000000 in
theorem BPiv_c (n m nm mw cap : Nat) (ao : Option Addr) (xs : List Int) (w : World) (hn : n <= 64) (hm : m <= 64) (hmw : mw <= 1048577) (hA : LsAt w mw ao xs) (hs : xs.length = n * m) (hnm : xs.length = nm) :
 Calls Tryz.prog 18 #[.agg #[.int .i64 (n : Int), .int .i64 (m : Int), .slice ao nm cap]] w fun e w' => ∃ p : (Option Addr × Nat) × Nat × (Nat -> Nat), e = .returned (.tuple #[.slice p.1.1 p.2.1 p.1.2, .int .i64 0]) /\ Nw w w' [.lg 3 1 p.1.1 p.2.1 p.1.2 (iL ((List.range p.2.1).map p.2.2)), .pr (PvT n m (matE xs n m) p.2.1 p.2.2)] := by
 have hxb := lt_lsB hA;have hC : ∀ w', Calls Tryz.prog 25 #[.agg #[.int .i64 (n : Int), .int .i64 (m : Int), .slice ao nm cap]] w' fun e w'' => e = .returned (.int .i64 0) /\ Below w'.heap.size w' w'' := fun w' => by
  have := Check_c (n : Int) (m : Int) ao nm cap w' (by omega) (by omega);rw [chkM_ok (by unfold soundM sideOk; rw [<- hnm, hs]; simp; omega)] at this; exact this
 have hO := fun w' (h : LsAt w' mw ao xs) => BOf_c n m nm mw cap ao xs w' hn hm h (by omega) hs hnm (fun x hx => Nat.le_trans (wlen_le_of_lt (hxb x hx)) (by omega));have hst := fun (z : Fld) h => StP.start (n := n) (m := m) (mw := mw) (xs := xs) (z := z) (fun _ => 0) hs hxb h;have HC := Lib.hid (And.intro hC (And.intro hO hst));clear hC hO hst hxb hs hnm;refine funW (S0 := fun _ => False) Tryz.func18 ((Fr.nil _ w).l hA (by simp)) ?_;refine goW ?_;refine rW [] ?_;refine aW fun g1 => ?_;refine dW ?_;refine dW ?_;refine eW ?_;refine goW ?_;refine rW [] ?_;refine dW ?_;refine cV (v := .int .i64 0) (fun w' H => HC.out.1 w') ?_;refine dW ?_;refine eW ?_;refine goW ?_;refine rW [] ?_;refine dW ?_;refine dB false ?_;refine eW ?_;refine goW ?_;refine cfW ?_;refine goW ?_;refine rW [] ?_;refine dW ?_;refine cG (α := Nat × Fld) (mk := fun q => .pointer (some ⟨q.1, 0, none⟩)) (ens := fun q => [.fld q.1 m q.2, .pr (q.2.E = rowsE n m xs /\ q.2.ls = 1 /\ q.2.tn = false /\ q.2.tk = 0 /\ q.2.nu.length = n)]) (hne := ⟨(0, ⟨none, 0, none, 0, [], [], [], false, p0, 0, 0⟩)⟩) (fun w' H => (HC.out.2.1 w' (H.all (.ls mw ao xs) (by simp))).mono fun e w'' ⟨q, he, hnw, hq⟩ => ⟨q, he, hnw.1, fun e he => by
  rcases List.mem_cons.1 he with rfl | he
  · exact hnw.2.1 _ (List.mem_singleton.2 rfl)
  · rcases List.mem_singleton.1 he with rfl;exact ⟨hq, fun _ h => h.elim⟩, .cons (fun x hx => by rcases List.mem_singleton.1 hx with rfl; exact ⟨fun _ _ _ h => h, fun q => nomatch q⟩) (List.pairwise_singleton ..)⟩) fun q => ?_
 refine dW ?_;refine dW ?_;refine cRep (α := (Option Addr × Nat) × Nat × (Nat -> Nat)) (mk := fun p => .slice p.1.1 p.2.1 p.1.2) (e := .fld q.1 m q.2) (ens := fun p => [.lg 3 1 p.1.1 p.2.1 p.1.2 (iL ((List.range p.2.1).map p.2.2)), .pr (PvT n m (matE xs n m) p.2.1 p.2.2)]) (hne := ⟨((none, 0), 0, fun _ => 0)⟩) (fun w' H => (BRun_c q.1 n m mw q.2 (matE xs n m) _ _ w' hn hm hmw (HC.out.2.2 q.2 H.m1) H.m0).mono fun e w'' ⟨p, he, q1, q2, q3, q4⟩ => ⟨(p.1, p.2.1, p.2.2.2.2), he, q1, fun x hx => by
  rcases List.mem_cons.1 hx with rfl | hx
  · exact ⟨q2, fun b ⟨o, e⟩ => q3 b o e⟩
  · rcases List.mem_singleton.1 hx with rfl;exact ⟨⟨_, _, _, q4.br⟩, fun _ h => h.elim⟩, .cons (fun x hx => by rcases List.mem_singleton.1 hx with rfl; exact ⟨fun _ _ _ h => h, fun q => nomatch q⟩) (List.pairwise_singleton ..)⟩) (fun w h => FldF.wl h) fun p => ?_
 refine dW ?_;refine dW ?_;refine eW ?_;refine goW ?_;refine fin2 fun w' H => ?_;refine ⟨_, _, rvT, rvT, p, rfl, H.below, fun e he => ?_, .cons (fun x hx => by rcases List.mem_singleton.1 hx with rfl; exact ⟨fun _ _ _ h => h, fun q => nomatch q⟩) (List.pairwise_singleton ..)⟩;rcases List.mem_cons.1 he with rfl | he
 · exact ⟨H.m0, fun b hb => (H.own _ (List.mem_cons_self ..) rfl b hb).elim (fun h => h.elim) id⟩
 · rcases List.mem_singleton.1 he with rfl;exact ⟨H.m1, fun _ h => h.elim⟩
def sgT (b : Bool) : Int := if b then -1 else 1
structure DeX where
 c : Nat
 z : Fld
 nu : Nat -> Nat
 cs : Nat -> Nat
structure DeI (n mw : Nat) (A : Mx) (x : DeX) : Prop where
 hc : x.c <= n
 st : StP n n mw A x.c x.c x.nu x.cs x.z
 sg : det n (fun a b => A (x.nu a) b) * sgT x.z.tn = det n A
theorem DeI.next {n mw c : Nat} {A : Mx} {nu cs nu' : Nat -> Nat} {z z' : Fld} (h : DeI n mw A ⟨c, z, nu, cs⟩) (hc : c < n) (hst : StP n n mw A (c + 1) (c + 1) nu' (nxt cs c c) z') (hr : (z'.tn = z.tn /\ nu' = nu) ∨ (z'.tn = !z.tn /\ ∃ p, c < p /\ p < n /\ nu' = fun i => nu (bsw c p i))) : DeI n mw A ⟨c + 1, z', nu', nxt cs c c⟩ := by
 refine ⟨hc, hst, ?_⟩;have h0 : det n (fun a b => A (nu a) b) * sgT z.tn = det n A := h.sg;show det n (fun a b => A (nu' a) b) * sgT z'.tn = det n A;rcases hr with ⟨e1, e2⟩ | ⟨e1, p, h1, h2, e2⟩
 · rw [e1, e2]; exact h0
 · rw [e1, e2, <- h0, det_swp (B := fun a b => A (nu a) b) hc h2 (by omega)];cases z.tn <;> simp [sgT, Int.neg_mul, Int.mul_neg]
set_option maxRecDepth 100000 in
set_option maxHeartbeats 4000000 in
theorem BDet_c (n nm mw cap : Nat) (ao : Option Addr) (xs : List Int) (w : World) (hn : n <= 64) (hmw : mw <= 1048577) (hA : LsAt w mw ao xs) (hs : xs.length = n * n) (hnm : xs.length = nm) :
 Calls Tryz.prog 12 #[.agg #[.int .i64 (n : Int), .int .i64 (n : Int), .slice ao nm cap]] w fun e w' => (∃ v', e = .returned (.tuple #[v', .int .i64 0]) /\ OwnI w' w.heap.size v' (det n (matE xs n n))) /\ Below w.heap.size w w' := by
 have hxb := lt_lsB hA;have hC : ∀ w', Calls Tryz.prog 25 #[.agg #[.int .i64 (n : Int), .int .i64 (n : Int), .slice ao nm cap]] w' fun e w'' => e = .returned (.int .i64 0) /\ Below w'.heap.size w' w'' := fun w' => by
  have := Check_c (n : Int) (n : Int) ao nm cap w' (by omega) (by omega);rw [chkM_ok (by unfold soundM sideOk; rw [<- hnm, hs]; simp; omega)] at this; exact this
 have hO := fun w' (h : LsAt w' mw ao xs) => BOf_c n n nm mw cap ao xs w' hn hn h (by omega) hs hnm (fun x hx => Nat.le_trans (wlen_le_of_lt (hxb x hx)) (by omega));have hst : ∀ z : Fld, (z.E = rowsE n n xs /\ z.ls = 1 /\ z.tn = false /\ z.tk = 0 /\ z.nu.length = n) -> DeI n mw (matE xs n n) ⟨0, z, fun i => i, fun _ => 0⟩ := fun z h => ⟨Nat.zero_le _, StP.start (fun _ => 0) hs hxb h, by show det n (fun a b => matE xs n n a b) * sgT z.tn = _; rw [h.2.2.1]; simp [sgT]⟩;have HC := Lib.hid (And.intro hC (And.intro hO hst));obtain ⟨A, hA'⟩ : ∃ A, matE xs n n = A := ⟨_, rfl⟩;rw [hA'] at HC ⊢;clear hC hO hst hxb hs hnm hA';refine funW (S0 := fun _ => False) Tryz.func12 ((Fr.nil _ w).l hA (by simp)) ?_;refine goW ?_;refine rW [] ?_;refine aW fun g1 => ?_;refine aW fun g2 => ?_;refine dW ?_;refine eW ?_;refine goW ?_;refine rW [] ?_;refine dW ?_;refine cV (v := .int .i64 0) (fun w' H => HC.out.1 w') ?_;refine dW ?_;refine eW ?_;refine goW ?_;refine rW [] ?_;refine dW ?_;refine dB false ?_;refine eW ?_;refine goW ?_;refine cfW ?_;refine goW ?_;refine rW [] ?_;refine dW ?_;refine dW ?_;refine dW ?_;refine dW ?_;refine dB false ?_;refine eW ?_;refine goW ?_;refine cfW ?_;refine goW ?_;refine rW [] ?_;refine dW ?_;refine cG (α := Nat × Fld) (mk := fun q => .pointer (some ⟨q.1, 0, none⟩)) (ens := fun q => [.fld q.1 n q.2, .pr (q.2.E = rowsE n n xs /\ q.2.ls = 1 /\ q.2.tn = false /\ q.2.tk = 0 /\ q.2.nu.length = n)]) (hne := ⟨(0, ⟨none, 0, none, 0, [], [], [], false, p0, 0, 0⟩)⟩) (fun w' H => (HC.out.2.1 w' (H.all (.ls mw ao xs) (by simp))).mono fun e w'' ⟨q, he, hnw, hq⟩ => ⟨q, he, hnw.1, fun e he => by
  rcases List.mem_cons.1 he with rfl | he
  · exact hnw.2.1 _ (List.mem_singleton.2 rfl)
  · rcases List.mem_singleton.1 he with rfl;exact ⟨hq, fun _ h => h.elim⟩, .cons (fun x hx => by rcases List.mem_singleton.1 hx with rfl; exact ⟨fun _ _ _ h => h, fun q => nomatch q⟩) (List.pairwise_singleton ..)⟩) fun q => ?_
 refine dW ?_;refine eW ?_;refine goW ?_;refine prW (A := q.2.E = rowsE n n xs /\ q.2.ls = 1 /\ q.2.tn = false /\ q.2.tk = 0 /\ q.2.nu.length = n) (by simp) fun hq => ?_;obtain ⟨gF, z⟩ := q;have HD := Lib.hid (HC.out.2.2 z hq);clear hq;refine pickW (es' := [.row g1 24 [.int .i64 (n : Int), .int .i64 (n : Int), .slice ao nm cap], .row g2 33 [.bool false, .slice none 0 0], .fld gF n z]) ?_;refine rW [] ?_;refine dW ?_;refine dW ?_;refine dW ?_;refine eW ?_;refine goW ?_;refine loopW (X := DeX) (DeI n mw A) (fun x => n - x.c) (fun x => [(23, .int .i64 (x.c : Int)), (22, .int .i64 (n : Int)), (5, .pointer (some ⟨gF, 0, none⟩)), (1, .pointer (some ⟨g1, 0, none⟩)), (2, .pointer (some ⟨g2, 0, none⟩)), (3, .int .i64 0)]) (fun x => [.row g1 24 [.int .i64 (n : Int), .int .i64 (n : Int), .slice ao nm cap], .row g2 33 [.bool false, .slice none 0 0], .fld gF n x.z]) ⟨0, z, fun i => i, fun _ => 0⟩ HD.out fun x hx => ?_;obtain ⟨c, z1, nu1, cs1⟩ := x;have hc : c <= n := hx.hc;have HX : Hid (DeI n mw A ⟨c, z1, nu1, cs1⟩) := Lib.hid hx;clear hx;by_cases h : c < n
 · have h01 : (c : Int) < (n : Int) := by omega
   refine goW ?_;refine rW [] ?_;refine dB true ?_;refine eW ?_;refine goW ?_;refine ctW ?_;refine goW ?_;refine rW [] ?_;refine dW ?_;refine dW ?_;refine eW ?_;refine goW ?_;refine rW [] ?_;refine dW ?_;refine dW ?_;refine cUp (α := Bool × Fld) (mk := fun p => .bool p.1) (e := .fld gF n z1) (e' := fun p => .fld gF n p.2) (ens := fun p => [.pr (StR n n mw A c c nu1 cs1 z1 p.1 p.2)]) (fun w' H => (BStep_c gF n n c c mw z1 A nu1 cs1 w' hn hn h hmw HX.out.st (H.all (.fld gF n z1) (by simp))).mono fun e w'' ⟨p, he, q1, q2, q3, q4⟩ => ⟨p, he, q1, q2, q3, fun x hx => by rcases List.mem_singleton.1 hx with rfl; exact ⟨q4, fun _ h => h⟩⟩) (fun w h => FldF.wl h) (hne := ⟨(false, z1)⟩) fun p => ?_;refine dW ?_;refine eW ?_;refine goW ?_;refine prW (A := StR n n mw A c c nu1 cs1 z1 p.1 p.2) (by simp) fun hs => ?_;obtain ⟨b, z2⟩ := p
   replace hs : StR n n mw A c c nu1 cs1 z1 b z2 := hs
   by_cases hb : b = true
   · subst hb;have hs2 := hs.resolve_left fun q => nomatch q.1;obtain ⟨_, hkn, nu2, hst, hrel⟩ := hs2;have HST := Lib.hid (HX.out.next h hst hrel);clear hst hs hrel;refine goW ?_;refine cfW ?_;refine goW ?_;refine rW [] ?_;refine dE (incB (a := c) (by omega)) ?_;refine dW ?_;refine eW ?_;refine goW ?_;exact backW (⟨c + 1, z2, nu2, nxt cs1 c c⟩ : DeX) ⟨HST.out, by show n - (c + 1) < n - c; omega⟩
   · have hb' : b = false := by simpa using hb
     subst hb';have hs2 := hs.resolve_right fun q => nomatch q.1;obtain ⟨_, _, _, h0⟩ := hs2;have hd : det n A = 0 := by rw [<- HX.out.sg, HX.out.st.br.det0 h h0, Int.zero_mul]
     have HDZ := Lib.hid hd;clear hd hs hb h0;refine goW ?_;refine ctW ?_;refine goW ?_;refine rW [] ?_;refine dW ?_;refine sW ?_;refine dW ?_;refine eW ?_;refine goW ?_;refine fin2 fun w' H => ?_;exact ⟨_, _, rvI (H.all (.row g2 33 [.bool false, .slice none 0 0]) (by simp)), rvT, ⟨_, rfl, by rw [HDZ.out]; exact OwnI.zero _ _⟩, H.below⟩
 · obtain rfl : n = c := by omega
   refine goW ?_;refine rW [] ?_;refine dB false ?_;have hdt : z1.ls * sgT z1.tn = det n A := by rw [HX.out.st.br.det (s := 0)]; exact HX.out.sg
   have hlw : wlen z1.ls.natAbs <= 17592186044415 := Nat.le_trans HX.out.st.lb (by omega);have HDT := Lib.hid (And.intro hdt hlw);clear hdt hlw;refine eW ?_;refine goW ?_;obtain ⟨ro, rc, no, nc, gs, E, nul, tn, lp, ls, tk⟩ := z1;refine chgW (es' := [.cell ⟨gF, 2, none⟩ (.bool tn), .cell ⟨gF, 3, none⟩ (.bool lp.1), .cell ⟨gF, 4, none⟩ (.slice lp.2.1 lp.2.2.1 lp.2.2.2), .num (av lp) ls, .row g1 24 [.int .i64 (n : Int), .int .i64 (n : Int), .slice ao nm cap], .row g2 33 [.bool false, .slice none 0 0]]) (fun w' h' => by
    have h2 : Fr _ w w' (.fld gF n ⟨ro, rc, no, nc, gs, E, nul, tn, lp, ls, tk⟩ :: [.row g1 24 [.int .i64 (n : Int), .int .i64 (n : Int), .slice ao nm cap], .row g2 33 [.bool false, .slice none 0 0]]) := h'.pick (by repeat (first | exact Pk.n | refine Pk.c (by repeat (first | exact Rm.z | apply Rm.s)) ?_));have hF : FldF gF n ⟨ro, rc, no, nc, gs, E, nul, tn, lp, ls, tk⟩ w' := h2.m0;have hr : RowAt w' gF _ (fldC ⟨ro, rc, no, nc, gs, E, nul, tn, lp, ls, tk⟩) := hF.1.1;refine h2.openE (X := [.cell ⟨gF, 2, none⟩ (.bool tn), .cell ⟨gF, 3, none⟩ (.bool lp.1), .cell ⟨gF, 4, none⟩ (.slice lp.2.1 lp.2.2.1 lp.2.2.2), .num (av lp) ls]) rfl (fun x hx => ?_) (List.pairwise_of_forall_mem_list fun a ha b hb => ?_)
    · simp only [List.mem_cons, List.mem_nil_iff, or_false] at hx;rcases hx with rfl | rfl | rfl | rfl
      · exact ⟨hr.cell 2, fun b e => .inl e⟩
      · exact ⟨hr.cell 3, fun b e => .inl e⟩
      · exact ⟨hr.cell 4, fun b e => .inl e⟩
      · exact ⟨hF.1.2.2.2.2, fun b e => e.elim⟩
    · have hw : ∀ x ∈ [En.cell ⟨gF, 2, none⟩ (.bool tn), .cell ⟨gF, 3, none⟩ (.bool lp.1), .cell ⟨gF, 4, none⟩ (.slice lp.2.1 lp.2.2.1 lp.2.2.2), .num (av lp) ls], x.wr = false := fun x hx => by
       simp only [List.mem_cons, List.mem_nil_iff, or_false] at hx;rcases hx with rfl | rfl | rfl | rfl <;> rfl
      exact ⟨(fun q => by rw [hw a ha] at q; cases q), (fun q => by rw [hw b hb] at q; cases q)⟩) ?_
   replace HDT : Hid (ls * sgT tn = det n A /\ wlen ls.natAbs <= 17592186044415) := HDT
   by_cases htn : tn = true
   · subst htn;refine goW ?_;refine cfW ?_;refine goW ?_;refine rW [] ?_;refine dW ?_;refine dW ?_;refine dW ?_;refine dW ?_;refine eW ?_;refine goW ?_;refine ctW ?_;refine goW ?_;refine rW [] ?_;refine dW ?_;refine dW ?_;refine dW ?_;refine dW ?_;refine cN (x := -ls) (fun w' H => INeg_c (av lp) ls w' (NumAt.int (H.all (.num (av lp) ls) (by simp)) HDT.out.2)) fun p => ?_;refine sW ?_;refine dW ?_;refine eW ?_;refine goW ?_;refine fin2 fun w' H => ?_;exact ⟨_, _, rvI (H.all (.row g2 33 [.bool p.1, .slice p.2.1 p.2.2.1 p.2.2.2]) (by simp)), rvT, ⟨_, rfl, by have e := HDT.out.1; simp [sgT] at e; rw [<- e]; exact H.all (.own w.heap.size (av p) (-ls)) (by simp [av])⟩, H.below⟩
   · have htn' : tn = false := by simpa using htn
     subst htn';clear htn;refine goW ?_;refine cfW ?_;refine goW ?_;refine rW [] ?_;refine dW ?_;refine dW ?_;refine dW ?_;refine dW ?_;refine eW ?_;refine goW ?_;refine cfW ?_;refine goW ?_;refine rW [] ?_;refine dW ?_;refine dW ?_;refine dW ?_;refine dW ?_;refine cN (x := ls) (fun w' H => ILeast_c (av lp) ls w' (NumAt.int (H.all (.num (av lp) ls) (by simp)) HDT.out.2)) fun p => ?_;refine sW ?_;refine dW ?_;refine eW ?_;refine goW ?_;refine fin2 fun w' H => ?_;exact ⟨_, _, rvI (H.all (.row g2 33 [.bool p.1, .slice p.2.1 p.2.2.1 p.2.2.2]) (by simp)), rvT, ⟨_, rfl, by have e := HDT.out.1; simp [sgT] at e; rw [<- e]; exact H.all (.own w.heap.size (av p) ls) (by simp [av])⟩, H.below⟩
set_option maxRecDepth 100000 in
set_option maxHeartbeats 1000000 in
theorem BPiv_u (r c : Int) (ao : Option Addr) (len cap : Nat) (w : World) (hr : -9223372036854775808 <= r /\ r <= 9223372036854775807) (hc : -9223372036854775808 <= c /\ c <= 9223372036854775807) (hs : soundM r c len = false) :
 Calls Tryz.prog 18 #[.agg #[.int .i64 r, .int .i64 c, .slice ao len cap]] w fun e w' => e = .returned (.tuple #[.slice none 0 0, .int .i64 1]) /\ Below w.heap.size w w' := by
 have hC := fun w' => Check_c r c ao len cap w' hr hc;rw [chkM_bad hs] at hC;have HC := Lib.hid hC;clear hC hs;refine funW (S0 := fun _ => False) Tryz.func18 (Fr.nil _ w) ?_;refine goW ?_;refine rW [] ?_;refine aW fun g1 => ?_;refine dW ?_;refine dW ?_;refine eW ?_;refine goW ?_;refine rW [] ?_;refine dW ?_;refine cV (v := .int .i64 1) (fun w' H => HC.out w') ?_;refine dW ?_;refine eW ?_;refine goW ?_;refine rW [] ?_;refine dW ?_;refine dB true ?_;refine eW ?_;refine goW ?_;refine ctW ?_;refine goW ?_;refine rW [] ?_;refine dW ?_;refine dW ?_;refine dW ?_;refine eW ?_;refine goW ?_;refine fin2 fun w' H => ?_;exact ⟨_, _, rvT, rvT, rfl, H.below⟩
set_option maxRecDepth 100000 in
set_option maxHeartbeats 1000000 in
theorem BRank_u (r c : Int) (ao : Option Addr) (len cap : Nat) (w : World) (hr : -9223372036854775808 <= r /\ r <= 9223372036854775807) (hc : -9223372036854775808 <= c /\ c <= 9223372036854775807) (hs : soundM r c len = false) :
 Calls Tryz.prog 6 #[.agg #[.int .i64 r, .int .i64 c, .slice ao len cap]] w fun e w' => e = .returned (.tuple #[.int .i64 0, .int .i64 1]) /\ Below w.heap.size w w' := by
 have HC := Lib.hid (fun w' => BPiv_u r c ao len cap w' hr hc hs);clear hs;refine funW (S0 := fun _ => False) Tryz.func6 (Fr.nil _ w) ?_;refine goW ?_;refine rW [] ?_;refine aW fun g1 => ?_;refine dW ?_;refine dW ?_;refine eW ?_;refine goW ?_;refine rW [] ?_;refine dW ?_;refine cV (v := .tuple #[.slice none 0 0, .int .i64 1]) (fun w' H => HC.out w') ?_;refine dW ?_;refine dW ?_;refine dW ?_;refine dW ?_;refine dW ?_;refine eW ?_;refine goW ?_;refine rW [] ?_;refine dW ?_;refine dW ?_;refine dW ?_;refine dW ?_;refine dW ?_;refine eW ?_;refine goW ?_;refine fin2 fun w' H => ?_;exact ⟨_, _, rvT, rvT, rfl, H.below⟩
set_option maxRecDepth 100000 in
set_option maxHeartbeats 1000000 in
theorem BRank_c (n m nm mw cap : Nat) (ao : Option Addr) (xs : List Int) (w : World) (hn : n <= 64) (hm : m <= 64) (hmw : mw <= 1048577) (hA : LsAt w mw ao xs) (hs : xs.length = n * m) (hnm : xs.length = nm) :
 Calls Tryz.prog 6 #[.agg #[.int .i64 (n : Int), .int .i64 (m : Int), .slice ao nm cap]] w fun e w' => (∃ p : Nat × (Nat -> Nat), e = .returned (.tuple #[.int .i64 (p.1 : Int), .int .i64 0]) /\ PvT n m (matE xs n m) p.1 p.2) /\ Below w.heap.size w w' := by
 have HC := Lib.hid (fun w' (h : LsAt w' mw ao xs) => BPiv_c n m nm mw cap ao xs w' hn hm hmw h hs hnm);clear hs hnm;refine funW (S0 := fun _ => False) Tryz.func6 ((Fr.nil _ w).l hA (by simp)) ?_;refine goW ?_;refine rW [] ?_;refine aW fun g1 => ?_;refine dW ?_;refine dW ?_;refine eW ?_;refine goW ?_;refine rW [] ?_;refine dW ?_;refine cG (α := (Option Addr × Nat) × Nat × (Nat -> Nat)) (mk := fun p => .tuple #[.slice p.1.1 p.2.1 p.1.2, .int .i64 0]) (ens := fun p => [.lg 3 1 p.1.1 p.2.1 p.1.2 (iL ((List.range p.2.1).map p.2.2)), .pr (PvT n m (matE xs n m) p.2.1 p.2.2)]) (hne := ⟨((none, 0), 0, fun _ => 0)⟩) (fun w' H => HC.out w' (H.all (.ls mw ao xs) (by simp))) fun q => ?_;refine dW ?_;refine dW ?_;refine dW ?_;refine dW ?_;refine dW ?_;refine eW ?_;refine goW ?_;refine prW (A := PvT n m (matE xs n m) q.2.1 q.2.2) (by simp) fun hp => ?_;have HP := Lib.hid hp;clear hp;refine rW [] ?_;refine dW ?_;refine dW ?_;refine dW ?_;refine dW ?_;refine dW ?_;refine eW ?_;refine goW ?_;refine fin2 fun w' H => ?_;exact ⟨_, _, rvT, rvT, ⟨(q.2.1, q.2.2), rfl, HP.out⟩, H.below⟩
end Go.Proofs.YtcpjoiffkniccaaGreat
namespace Go.Proofs.YtcpjoiffkniccaaGreat
def chPass : Nat -> List Nat -> Nat × List Nat
 | g, [] => (g, [])
 | g, y :: l => ((chPass (Nat.gcd g y) l).1, Nat.lcm g y :: (chPass (Nat.gcd g y) l).2)
theorem chPass_length : ∀ (l : List Nat) (g : Nat), (chPass g l).2.length = l.length
 | [], _ => rfl
 | y :: l, g => by simp [chPass, chPass_length l]
def chProg : List Nat -> List Nat
 | [] => []
 | x :: l => (chPass x l).1 :: chProg (chPass x l).2
termination_by l => l.length
decreasing_by simp [chPass_length]
def chPut : Nat -> List Nat -> List Nat
 | x, [] => [x]
 | x, c :: cs => Nat.gcd c x :: chPut (Nat.lcm c x) cs
def chRef (l : List Nat) : List Nat := l.foldl (fun c x => chPut x c) []
theorem chPass_append : ∀ (l : List Nat) (g x : Nat), chPass g (l ++ [x]) = (Nat.gcd (chPass g l).1 x, (chPass g l).2 ++ [Nat.lcm (chPass g l).1 x])
 | [], g, x => by simp [chPass]
 | y :: l, g, x => by
  simp only [List.cons_append, chPass, chPass_append l (Nat.gcd g y) x]
theorem chProg_append : ∀ (n : Nat) (l : List Nat) (x : Nat), l.length = n -> chProg (l ++ [x]) = chPut x (chProg l) := by
 intro n;induction n with
 | zero =>
  intro l x h;obtain rfl := List.eq_nil_of_length_eq_zero h;simp [chProg, chPass, chPut]
 | succ n ih =>
  intro l x h;cases l with
  | nil => simp at h
  | cons y l =>
   rw [List.cons_append, chProg, chPass_append, chProg];simp only [chPut];rw [ih (chPass y l).2 _ (by rw [chPass_length]; simpa using h)]
theorem chProg_ref (l : List Nat) : chProg l = chRef l := by
 have key : ∀ n (l : List Nat), l.length = n -> chProg l = chRef l := by
  intro n;induction n with
  | zero => intro l h; obtain rfl := List.eq_nil_of_length_eq_zero h; simp [chProg, chRef]
  | succ n ih =>
   intro l h;have hne : l ≠ [] := by intro e; subst e; simp at h
   have e := List.dropLast_concat_getLast hne;have hl : l.dropLast.length = n := by simp [h]
   rw [<- e, chProg_append _ _ _ rfl, ih _ hl];simp [chRef, List.foldl_append]
 exact key _ l rfl
def chFin (pre : List Nat) (g : Nat) (mid suf : List Nat) : List Nat := pre ++ (chPass g suf).1 :: chProg (mid ++ (chPass g suf).2)
theorem chFin_start (pre : List Nat) (x : Nat) (l : List Nat) : chFin pre x [] l = pre ++ chProg (x :: l) := by rw [chFin, chProg]; rfl
theorem chFin_step (pre : List Nat) (g y : Nat) (mid suf : List Nat) : chFin pre (Nat.gcd g y) (mid ++ [Nat.lcm g y]) suf = chFin pre g mid (y :: suf) := by simp [chFin, chPass]
theorem chFin_end (pre : List Nat) (g : Nat) (mid : List Nat) : chFin pre g mid [] = (pre ++ [g]) ++ chProg mid := by simp [chFin, chPass]
def prodNZ : List Nat -> Nat
 | [] => 1
 | x :: l => (if x = 0 then 1 else x) * prodNZ l
def Dv (P x : Nat) : Prop := x = 0 ∨ x ∣ P
theorem prodNZ_pos : ∀ l : List Nat, 0 < prodNZ l
 | [] => Nat.one_pos
 | x :: l => Nat.mul_pos (by split <;> omega) (prodNZ_pos l)
theorem Dv.of_mem : ∀ {l : List Nat} {x : Nat}, x ∈ l -> Dv (prodNZ l) x
 | y :: l, x, h => by
  rcases List.mem_cons.1 h with rfl | h
  · by_cases h0 : x = 0
    · exact .inl h0
    · rw [prodNZ, if_neg h0]; exact .inr (Nat.dvd_mul_right ..)
  · rcases Dv.of_mem h with h0 | h0
    · exact .inl h0
    · exact .inr (Nat.dvd_trans h0 (Nat.dvd_mul_left ..))
theorem Dv.gcd {P x y : Nat} (h : Dv P x) (k : Dv P y) : Dv P (Nat.gcd x y) := by
 rcases h with rfl | h
 · rw [Nat.gcd_zero_left]; exact k
 · exact .inr (Nat.dvd_trans (Nat.gcd_dvd_left ..) h)
theorem Dv.lcm {P x y : Nat} (h : Dv P x) (k : Dv P y) : Dv P (Nat.lcm x y) := by
 rcases h with rfl | h
 · rw [Nat.lcm_zero_left]; exact .inl rfl
 · rcases k with rfl | k
   · rw [Nat.lcm_zero_right]; exact .inl rfl
   · exact .inr (Nat.lcm_dvd h k)
theorem Dv.le {P x : Nat} (hP : 0 < P) (h : Dv P x) : x <= P := by
 rcases h with rfl | h
 · omega
 · exact Nat.le_of_dvd hP h
theorem prodNZ_lt (L : Nat) : ∀ l : List Nat, (∀ x ∈ l, x < W ^ L) -> prodNZ l <= W ^ (L * l.length)
 | [], _ => by simp [prodNZ]
 | x :: l, h => by
  have h1 := prodNZ_lt L l fun y hy => h y (List.mem_cons_of_mem _ hy);have h2 := h x (List.mem_cons_self ..);rw [prodNZ, List.length_cons, Nat.mul_succ, Nat.pow_add, Nat.mul_comm (W ^ (L * l.length))];refine Nat.mul_le_mul ?_ h1;split <;> omega
theorem chRef_length : ∀ l : List Nat, (chRef l).length = l.length := fun l => by
 rw [<- chProg_ref];have key : ∀ n (l : List Nat), l.length = n -> (chProg l).length = n := by
  intro n;induction n with
  | zero => intro l h; obtain rfl := List.eq_nil_of_length_eq_zero h; simp [chProg]
  | succ n ih =>
   intro l h;cases l with
   | nil => simp at h
   | cons x l =>
    rw [chProg, List.length_cons, ih (chPass x l).2 (by rw [chPass_length]; simpa using h)]
 exact key _ l rfl
theorem chPass_dv {P : Nat} : ∀ (l : List Nat) (g : Nat), Dv P g -> (∀ y ∈ l, Dv P y) -> Dv P (chPass g l).1 /\ ∀ y ∈ (chPass g l).2, Dv P y
 | [], g, hg, _ => ⟨hg, fun y hy => by cases hy⟩
 | x :: l, g, hg, h => by
  have hx := h x (List.mem_cons_self ..);obtain ⟨h1, h2⟩ := chPass_dv l (Nat.gcd g x) (hg.gcd hx) fun y hy => h y (List.mem_cons_of_mem _ hy);refine ⟨h1, fun y hy => ?_⟩;rcases List.mem_cons.1 hy with rfl | hy
  · exact hg.lcm hx
  · exact h2 y hy
theorem chProg_dv {P : Nat} {l : List Nat} (h : ∀ y ∈ l, Dv P y) : ∀ y ∈ chProg l, Dv P y := by
 have key : ∀ n (l : List Nat), l.length = n -> (∀ y ∈ l, Dv P y) -> ∀ y ∈ chProg l, Dv P y := by
  intro n;induction n with
  | zero => intro l h; obtain rfl := List.eq_nil_of_length_eq_zero h; simp [chProg]
  | succ n ih =>
   intro l h hd;cases l with
   | nil => simp at h
   | cons x l =>
    obtain ⟨h1, h2⟩ := chPass_dv l x (hd x (List.mem_cons_self ..)) fun y hy => hd y (List.mem_cons_of_mem _ hy);intro y hy;rw [chProg] at hy;rcases List.mem_cons.1 hy with rfl | hy
    · exact h1
    · exact ih _ (by rw [chPass_length]; simpa using h) h2 y hy
 exact key _ l rfl h
def Chn : List Nat -> Prop
 | [] => True
 | [_] => True
 | a :: b :: l => a ∣ b /\ Chn (b :: l)
theorem Chn.put : ∀ (c : List Nat), Chn c -> ∀ x, Chn (chPut x c)
 | [], _, _ => trivial
 | [a], _, x => ⟨Nat.dvd_trans (Nat.gcd_dvd_left ..) (Nat.dvd_lcm_left ..), trivial⟩
 | a :: b :: c, ⟨h1, h2⟩, x => by
  have ih := Chn.put (b :: c) h2 (Nat.lcm a x);simp only [chPut] at ih ⊢;exact ⟨Nat.dvd_gcd (Nat.dvd_trans (Nat.gcd_dvd_left ..) h1) (Nat.dvd_trans (Nat.gcd_dvd_left ..) (Nat.dvd_lcm_left ..)), ih⟩
theorem Chn.ref : ∀ (l : List Nat) (c : List Nat), Chn c -> Chn (l.foldl (fun c x => chPut x c) c)
 | [], _, h => h
 | x :: l, c, h => Chn.ref l _ (Chn.put c h x)
theorem chProg_chn (l : List Nat) : Chn (chProg l) := by rw [chProg_ref]; exact Chn.ref l [] trivial
theorem Chn.tail {x : Nat} {l : List Nat} (h : Chn (x :: l)) : Chn l := by
 cases l with
 | nil => trivial
 | cons y l => exact h.2
inductive Eqv (r c : Nat) : Mx -> Mx -> Prop where
 | refl (A : Mx) : Eqv r c A A
 | rows {A B : Mx} (h : SpEq r A r B) : Eqv r c A B
 | cols {A B : Mx} (h : SpEq c (tp A) c (tp B)) : Eqv r c A B
 | trans {A B C : Mx} (h : Eqv r c A B) (k : Eqv r c B C) : Eqv r c A C
theorem Eqv.sm {r c : Nat} {A B : Mx} (h : Eqv r c A B) : Sm r c A B := by
 induction h with
 | refl A => exact Sm.refl _ _ A
 | rows h => exact Sm.rows h
 | cols h => exact Sm.cols h
 | trans _ _ h1 h2 => exact h1.trans h2
theorem sp_mix {r i j : Nat} {A B : Mx} {p q u v : Int} (hi : i < r) (hj : j < r) (hij : i ≠ j) (hd : p * v - q * u = 1) (h0 : ∀ t, t ≠ i -> t ≠ j -> B t = A t) (h1 : ∀ a, B i a = p * A i a + q * A j a) (h2 : ∀ a, B j a = u * A i a + v * A j a) : SpEq r A r B := by
 have k1 : ∀ a, A i a = v * B i a + (-q) * B j a := fun a => by
  have e : v * B i a + (-q) * B j a = (p * v - q * u) * A i a := by
   rw [h1, h2, Int.mul_add, Int.mul_add, Int.sub_mul, <- Int.mul_assoc, <- Int.mul_assoc, <- Int.mul_assoc, <- Int.mul_assoc, Int.mul_comm v p, Int.mul_comm v q, Int.neg_mul, Int.neg_mul, Int.neg_mul, Int.neg_mul]; omega
  rw [e, hd, Int.one_mul]
 have k2 : ∀ a, A j a = (-u) * B i a + p * B j a := fun a => by
  have e : (-u) * B i a + p * B j a = (p * v - q * u) * A j a := by
   rw [h1, h2, Int.mul_add, Int.mul_add, Int.sub_mul, <- Int.mul_assoc, <- Int.mul_assoc, <- Int.mul_assoc, <- Int.mul_assoc, Int.mul_comm q u, Int.mul_comm p u, Int.neg_mul, Int.neg_mul, Int.neg_mul, Int.neg_mul]; omega
  rw [e, hd, Int.one_mul]
 constructor
 · intro t ht;by_cases e1 : t = i
   · subst e1;exact (((Sp.row B hi).smul v).add ((Sp.row B hj).smul (-q))).congr k1
   · by_cases e2 : t = j
     · subst e2;exact (((Sp.row B hi).smul (-u)).add ((Sp.row B hj).smul p)).congr k2
     · rw [<- h0 t e1 e2]; exact Sp.row B ht
 · intro t ht;by_cases e1 : t = i
   · subst e1;exact (((Sp.row A hi).smul p).add ((Sp.row A hj).smul q)).congr h1
   · by_cases e2 : t = j
     · subst e2;exact (((Sp.row A hi).smul u).add ((Sp.row A hj).smul v)).congr h2
     · rw [h0 t e1 e2]; exact Sp.row A ht
theorem gcd_lin (a b : Nat) (h : Nat.gcd a b ≠ 0) : ∃ (x y : Int) (p q : Nat), a = Nat.gcd a b * p /\ b = Nat.gcd a b * q /\ (p : Int) * x + q * y = 1 := by
 obtain ⟨p, hp⟩ := Nat.gcd_dvd_left a b;obtain ⟨q, hq⟩ := Nat.gcd_dvd_right a b;by_cases hb : b = 0
 · subst hb;rw [Nat.gcd_zero_right] at hp hq h;exact ⟨1, 0, 1, 0, by rw [Nat.gcd_zero_right, Nat.mul_one], by simp, by simp⟩
 have he := ext_is (a : Int) (b : Int);unfold ExtIs at he;rw [if_neg (by omega)] at he;obtain ⟨hg, -, -, hab⟩ := he;have hg : extG (a : Int) (b : Int) = (Nat.gcd a b : Int) := hg;rw [hg] at hab;refine ⟨extX a b, extY a b, p, q, hp, hq, ?_⟩;have h2 : (Nat.gcd a b : Int) * ((p : Int) * extX a b + q * extY a b) = (Nat.gcd a b : Int) * 1 := by
  rw [Int.mul_one, Int.mul_add, <- Int.mul_assoc, <- Int.mul_assoc, <- Int.natCast_mul, <- Int.natCast_mul, <- hp, <- hq];exact hab
 exact Int.eq_of_mul_eq_mul_left (by omega) h2
theorem dg_pair {r c i j : Nat} {d e : Nat -> Nat} (hi : i < r) (hj : j < r) (hic : i < c) (hjc : j < c) (hij : i ≠ j) (h0 : ∀ t, t ≠ i -> t ≠ j -> e t = d t) (h1 : e i = Nat.gcd (d i) (d j)) (h2 : e j = Nat.lcm (d i) (d j)) : Eqv r c (Dgm d) (Dgm e) := by
 by_cases hg : Nat.gcd (d i) (d j) = 0
 · have hz := Nat.gcd_eq_zero_iff.1 hg;have he : e = d := by
    funext t;by_cases e1 : t = i
    · subst e1; rw [h1, hz.1, hz.2]; rfl
    · by_cases e2 : t = j
      · subst e2; rw [h2, hz.1, hz.2]; rfl
      · exact h0 t e1 e2
   rw [he]; exact .refl _
 · obtain ⟨x, y, p, q, hp, hq, hxy⟩ := gcd_lin (d i) (d j) hg;obtain ⟨g, hgg⟩ : ∃ g, Nat.gcd (d i) (d j) = g := ⟨_, rfl⟩;have hl : Nat.lcm (d i) (d j) = g * p * q := by
    have h3 := Nat.gcd_mul_lcm (d i) (d j);rw [hgg] at h3 hp hq hg;have h4 : g * Nat.lcm (d i) (d j) = g * (g * p * q) := by
     rw [h3, hp, hq, Nat.mul_assoc g p q, Nat.mul_assoc g p, Nat.mul_left_comm p g q]
    exact Nat.eq_of_mul_eq_mul_left (Nat.pos_of_ne_zero hg) h4
   rw [hgg] at hp hq h1 hg;obtain ⟨M1, hM1⟩ : ∃ M : Mx, ∀ a b, M a b = if a = i then Dgm d i b + Dgm d j b else Dgm d a b := ⟨fun a b => if a = i then Dgm d i b + Dgm d j b else Dgm d a b, fun _ _ => rfl⟩;obtain ⟨M2, hM2⟩ : ∃ M : Mx, ∀ a b, M a b = if b = i then x * M1 a i + y * M1 a j else if b = j then (-(q : Int)) * M1 a i + p * M1 a j else M1 a b := ⟨fun a b => if b = i then x * M1 a i + y * M1 a j else if b = j then (-(q : Int)) * M1 a i + p * M1 a j else M1 a b, fun _ _ => rfl⟩;have s1 : SpEq r (Dgm d) r M1 := sp_mix (p := 1) (q := 1) (u := 0) (v := 1) hi hj hij (by omega) (fun t e1 _ => by funext b; rw [hM1, if_neg e1]) (fun b => by rw [hM1, if_pos rfl]; omega) (fun b => by rw [hM1, if_neg (fun e => hij e.symm)]; omega);have s2 : SpEq c (Go.Proofs.YtcpjoiffkniccaaGreat.tp M1) c (Go.Proofs.YtcpjoiffkniccaaGreat.tp M2) := sp_mix (i := i) (j := j) (p := x) (q := y) (u := -(q : Int)) (v := p) hic hjc hij (by rw [Int.mul_neg, Int.mul_comm x, Int.mul_comm y]; omega)
    (fun t e1 e2 => by funext a; show M2 a t = M1 a t; rw [hM2, if_neg e1, if_neg e2]) (fun a => by show M2 a i = _; rw [hM2, if_pos rfl]; rfl) (fun a => by show M2 a j = _; rw [hM2, if_neg (fun e => hij e.symm), if_pos rfl]; rfl)
   have a1 : M1 i i = (d i : Int) := by rw [hM1, if_pos rfl]; unfold Dgm; rw [if_pos rfl, if_neg (fun e => hij e.symm)]; omega
   have a2 : M1 i j = (d j : Int) := by rw [hM1, if_pos rfl]; unfold Dgm; rw [if_neg hij, if_pos rfl]; omega
   have a3 : M1 j i = 0 := by rw [hM1, if_neg (fun e => hij e.symm)]; unfold Dgm; rw [if_neg (fun e => hij e.symm)]
   have a4 : M1 j j = (d j : Int) := by rw [hM1, if_neg (fun e => hij e.symm)]; unfold Dgm; rw [if_pos rfl]
   have b1 : M2 i i = (g : Int) := by
    rw [hM2, if_pos rfl, a1, a2, hp, hq, Int.natCast_mul, Int.natCast_mul];have : x * ((g : Int) * p) + y * ((g : Int) * q) = g * ((p : Int) * x + q * y) := by
     rw [Int.mul_add, Int.mul_left_comm x, Int.mul_left_comm y, Int.mul_comm x, Int.mul_comm y]
    rw [this, hxy, Int.mul_one]
   have b2 : M2 i j = 0 := by
    rw [hM2, if_neg (fun e => hij e.symm), if_pos rfl, a1, a2, hp, hq, Int.natCast_mul, Int.natCast_mul, Int.neg_mul, Int.mul_left_comm (q : Int), Int.mul_left_comm (p : Int) (g : Int), Int.mul_comm (q : Int) p]; omega
   have b3 : M2 j i = y * (g * q) := by rw [hM2, if_pos rfl, a3, a4, hq, Int.natCast_mul]; omega
   have b4 : M2 j j = (g : Int) * p * q := by
    rw [hM2, if_neg (fun e => hij e.symm), if_pos rfl, a3, a4, hq, Int.natCast_mul, Int.mul_zero, Int.zero_add, Int.mul_left_comm, Int.mul_assoc]
   have bo : ∀ a b, a ≠ i -> a ≠ j -> M2 a b = Dgm d a b := fun a b e1 e2 => by
    have z1 : M1 a i = 0 := by rw [hM1, if_neg e1]; unfold Dgm; rw [if_neg e1]
    have z2 : M1 a j = 0 := by rw [hM1, if_neg e1]; unfold Dgm; rw [if_neg e2]
    rw [hM2, z1, z2];by_cases q1 : b = i
    · rw [if_pos q1, q1]; unfold Dgm; rw [if_neg e1]; simp
    · by_cases q2 : b = j
      · rw [if_neg q1, if_pos q2, q2]; unfold Dgm; rw [if_neg e2]; simp
      · rw [if_neg q1, if_neg q2, hM1, if_neg e1]
   have bi : ∀ b, b ≠ i -> b ≠ j -> M2 i b = 0 /\ M2 j b = 0 := fun b e1 e2 => by
    constructor
    · rw [hM2, if_neg e1, if_neg e2, hM1, if_pos rfl]; unfold Dgm; rw [if_neg (fun e => e1 e.symm), if_neg (fun e => e2 e.symm)]; rfl
    · rw [hM2, if_neg e1, if_neg e2, hM1, if_neg (fun e => hij e.symm)]; unfold Dgm; rw [if_neg (fun e => e2 e.symm)]
   have s3 : SpEq r M2 r (Dgm e) := sp_mix (i := i) (j := j) (p := 1) (q := 0) (u := -(y * q)) (v := 1) hi hj hij (by omega) (fun t e1 e2 => by
    funext b; rw [bo t b e1 e2]; unfold Dgm; rw [h0 t e1 e2]) (fun b => by
    by_cases q1 : b = i
    · rw [q1, b1]; unfold Dgm; rw [if_pos rfl, h1]; omega
    · unfold Dgm; rw [if_neg (fun e => q1 e.symm)];by_cases q2 : b = j
      · rw [q2, b2]; omega
      · rw [(bi b q1 q2).1]; omega) (fun b => by
    by_cases q1 : b = i
    · rw [q1, b1, b3]; unfold Dgm; rw [if_neg (fun e => hij e.symm), Int.neg_mul, Int.mul_assoc, Int.mul_comm (q : Int) g]; omega
    · by_cases q2 : b = j
      · rw [q2, b2, b4]; unfold Dgm; rw [if_pos rfl, h2, hl, Int.natCast_mul, Int.natCast_mul]; omega
      · unfold Dgm; rw [if_neg (fun e => q2 e.symm), (bi b q1 q2).1, (bi b q1 q2).2]; omega)
   exact .trans (.rows s1) (.trans (.cols s2) (.rows s3))
def Dl (l : List Nat) : Mx := Dgm fun i => l.getD i 0
theorem dl_pair {r c : Nat} (pre mid suf : List Nat) (x y : Nat) (hr : (pre ++ x :: mid ++ y :: suf).length <= r) (hc : (pre ++ x :: mid ++ y :: suf).length <= c) : Eqv r c (Dl (pre ++ x :: mid ++ y :: suf)) (Dl (pre ++ Nat.gcd x y :: mid ++ Nat.lcm x y :: suf)) := by
 simp only [List.length_append, List.length_cons] at hr hc;have g1 : ∀ (x y : Nat) t, (pre ++ x :: mid ++ y :: suf).getD t 0 = if t < pre.length then pre.getD t 0 else if t = pre.length then x else if t < pre.length + 1 + mid.length then mid.getD (t - pre.length - 1) 0 else if t = pre.length + 1 + mid.length then y else suf.getD (t - pre.length - 1 - mid.length - 1) 0 := fun x y t => by
  simp only [List.getD_eq_getElem?_getD, List.append_assoc, List.cons_append, List.getElem?_append];by_cases h1 : t < pre.length
  · rw [if_pos h1, if_pos h1]
  · rw [if_neg h1, if_neg h1];by_cases h2 : t = pre.length
    · subst h2; simp
    · obtain ⟨u, hu⟩ : ∃ u, t - pre.length = u + 1 := ⟨t - pre.length - 1, by omega⟩;rw [if_neg h2, hu, List.getElem?_cons_succ, List.getElem?_append];by_cases h3 : u < mid.length
      · rw [if_pos h3, if_pos (by omega)]; simp
      · rw [if_neg h3, if_neg (by omega)];by_cases h4 : u = mid.length
        · subst h4; rw [if_pos (by omega)]; simp
        · obtain ⟨v, hv⟩ : ∃ v, u - mid.length = v + 1 := ⟨u - mid.length - 1, by omega⟩;rw [if_neg (by omega), hv, List.getElem?_cons_succ, show u + 1 - 1 - mid.length - 1 = v by omega]
 refine dg_pair (i := pre.length) (j := pre.length + 1 + mid.length) (by omega) (by omega) (by omega) (by omega) (by omega) (fun t e1 e2 => ?_) ?_ ?_
 · show (pre ++ Nat.gcd x y :: mid ++ Nat.lcm x y :: suf).getD t 0 = (pre ++ x :: mid ++ y :: suf).getD t 0;rw [g1, g1, if_neg e1, if_neg e1, if_neg e2, if_neg e2]
 · show (pre ++ Nat.gcd x y :: mid ++ Nat.lcm x y :: suf).getD pre.length 0 = Nat.gcd ((pre ++ x :: mid ++ y :: suf).getD pre.length 0) ((pre ++ x :: mid ++ y :: suf).getD (pre.length + 1 + mid.length) 0);rw [g1, g1, g1, if_neg (by omega), if_pos rfl, if_neg (by omega), if_pos rfl, if_neg (by omega), if_neg (by omega), if_neg (by omega), if_pos rfl]
 · show (pre ++ Nat.gcd x y :: mid ++ Nat.lcm x y :: suf).getD (pre.length + 1 + mid.length) 0 = Nat.lcm ((pre ++ x :: mid ++ y :: suf).getD pre.length 0) ((pre ++ x :: mid ++ y :: suf).getD (pre.length + 1 + mid.length) 0);rw [g1, g1, g1, if_neg (by omega), if_neg (by omega), if_neg (by omega), if_pos rfl, if_neg (by omega), if_pos rfl, if_neg (by omega), if_neg (by omega), if_neg (by omega), if_pos rfl]
theorem dl_pass {r c : Nat} (pre : List Nat) : ∀ (suf mid : List Nat) (x : Nat), (pre ++ x :: mid ++ suf).length <= r -> (pre ++ x :: mid ++ suf).length <= c -> Eqv r c (Dl (pre ++ x :: mid ++ suf)) (Dl (pre ++ (chPass x suf).1 :: mid ++ (chPass x suf).2))
 | [], mid, x, _, _ => .refl _
 | y :: suf, mid, x, hr, hc => by
  refine .trans (dl_pair pre mid suf x y hr hc) ?_;have e : ∀ (a b : Nat) (l : List Nat), pre ++ a :: mid ++ b :: l = pre ++ a :: (mid ++ [b]) ++ l := fun a b l => by simp
  rw [e];have := dl_pass pre suf (mid ++ [Nat.lcm x y]) (Nat.gcd x y) (by rw [<- e]; simpa using hr) (by rw [<- e]; simpa using hc);rw [chPass, e];exact this
theorem dl_chain {r c : Nat} : ∀ (n : Nat) (l pre : List Nat), l.length = n -> (pre ++ l).length <= r -> (pre ++ l).length <= c -> Eqv r c (Dl (pre ++ l)) (Dl (pre ++ chProg l))
 | 0, l, pre, h, _, _ => by
  obtain rfl := List.eq_nil_of_length_eq_zero h;rw [chProg]; exact .refl _
 | n + 1, l, pre, h, hr, hc => by
  cases l with
  | nil => simp at h
  | cons x l =>
   have h1 := dl_pass pre l [] x (by simpa using hr) (by simpa using hc);have e : ∀ (a : Nat) (l : List Nat), pre ++ [a] ++ l = pre ++ a :: l := fun a l => by simp
   rw [chProg];refine .trans (B := Dl (pre ++ (chPass x l).1 :: (chPass x l).2)) (by simpa using h1) ?_;have hl := chPass_length l x;have h2 := dl_chain n (chPass x l).2 (pre ++ [(chPass x l).1]) (by rw [hl]; simpa using h) (by simp [hl] at hr ⊢; omega) (by simp [hl] at hc ⊢; omega);rw [e, e] at h2;exact h2
theorem chn_get {l : List Nat} (h : Chn l) : ∀ a b, a <= b -> (fun i => if i < l.length then l.getD i 0 else 0) a ∣ (fun i => if i < l.length then l.getD i 0 else 0) b := by
 induction l with
 | nil => intro a b _; simp
 | cons x l ih =>
  intro a b hab;have h3 : ∀ {l : List Nat} {x : Nat}, Chn (x :: l) -> ∀ y ∈ l, x ∣ y := by
   intro l;induction l with
   | nil => intro x _ y hy; cases hy
   | cons z l ih2 =>
    rintro x ⟨q1, q2⟩ y hy;rcases List.mem_cons.1 hy with rfl | hy
    · exact q1
    · exact Nat.dvd_trans q1 (ih2 q2 y hy)
  cases b with
  | zero =>
   obtain rfl : a = 0 := by omega
   exact Nat.dvd_refl _
  | succ b =>
   cases a with
   | zero =>
    show (if 0 < (x :: l).length then (x :: l).getD 0 0 else 0) ∣ (if b + 1 < (x :: l).length then (x :: l).getD (b + 1) 0 else 0);by_cases hb : b + 1 < (x :: l).length
    · rw [if_pos hb, if_pos (by omega)];have hb' : b < l.length := by simpa using hb
      exact h3 h _ (by simp [hb'])
    · rw [if_neg hb]; exact Nat.dvd_zero _
   | succ a =>
    have := ih h.tail a b (by omega);simpa using this
end Go.Proofs.YtcpjoiffkniccaaGreat
namespace Go.Proofs.YtcpjoiffkniccaaGreat
open Go.RowKit
def nt (l : List Nat) : List Int := l.map fun n : Nat => (n : Int)
theorem nt_length (l : List Nat) : (nt l).length = l.length := by simp [nt]
theorem gi_nt (l : List Nat) (i : Nat) : gi (nt l) i = ((l.getD i 0 : Nat) : Int) := by
 unfold gi nt;rw [List.getD_eq_getElem?_getD, List.getElem?_map, List.getD_eq_getElem?_getD];cases l[i]? <;> rfl
theorem nt_set (l : List Nat) (i v : Nat) : (nt l).set i (v : Int) = nt (l.set i v) := by simp [nt, List.map_set]
theorem NsAt.nat {w : World} {ps : List P4} {l : List Nat} (h : NsAt w ps (nt l)) {i : Nat} (hi : i < l.length) : NumAt w (av (gp ps i)) ((l.getD i 0 : Nat) : Int) := by
 have := h.2 i (by rw [h.1, nt_length]; exact hi)
 rwa [gi_nt] at this
structure C1X where
 i : Nat
 ps : List P4
 zs : List Int
structure C1I (xs : List Int) (n : Nat) (z : C1X) : Prop where
 hi : z.i <= n
 hp : z.ps.length = n
 hz : z.zs.length = n
 ok : ∀ k, k < n -> gi z.zs k = if k < z.i then (((gi xs k).natAbs : Nat) : Int) else 0
structure C2X where
 i : Nat
 pre : List Nat
 suf : List Nat
 ps : List P4
structure C2I (R : List Nat) (P n : Nat) (z : C2X) : Prop where
 hi : z.pre.length = z.i
 hp : z.ps.length = n
 hl : (z.pre ++ z.suf).length = n
 fin : z.pre ++ chProg z.suf = R
 dv : ∀ y ∈ z.pre ++ z.suf, Dv P y
structure C3X where
 j : Nat
 g : Nat
 mid : List Nat
 suf : List Nat
 ps : List P4
structure C3I (R : List Nat) (P n i : Nat) (pre : List Nat) (z : C3X) : Prop where
 hj : i + 1 + z.mid.length = z.j
 hp : z.ps.length = n
 hl : (pre ++ z.g :: (z.mid ++ z.suf)).length = n
 fin : chFin pre z.g z.mid z.suf = R
 dv : ∀ y ∈ pre ++ z.g :: (z.mid ++ z.suf), Dv P y
theorem getD_at (a : List Nat) (x : Nat) (b : List Nat) : (a ++ x :: b).getD a.length 0 = x := by simp
theorem set_at (a : List Nat) (x y : Nat) (b : List Nat) : (a ++ x :: b).set a.length y = a ++ y :: b := by simp
set_option maxRecDepth 100000 in
set_option maxHeartbeats 4000000 in
theorem SChain_c (ao : Option Addr) (cap L : Nat) (xs : List Int) (w : World) (hA : LsAt w L ao xs) (hL : L <= 17592186044415) (hn : xs.length <= 8796093022208) (hP : wlen (prodNZ (xs.map Int.natAbs)) <= 8796093022207) :
 Calls Tryz.prog 34 #[.slice ao xs.length cap] w fun e w' => (∃ b, e = .returned (.slice (some ⟨b, 0, none⟩) xs.length xs.length) /\ w.heap.size <= b /\ RowN w' b (nt (chProg (xs.map Int.natAbs)))) /\ Below w.heap.size w w' := by
 obtain ⟨R, hR⟩ : ∃ R, chProg (xs.map Int.natAbs) = R := ⟨_, rfl⟩;have hdv0 : ∀ y ∈ xs.map Int.natAbs, Dv (prodNZ (xs.map Int.natAbs)) y := fun y hy => Dv.of_mem hy;have hP0 := prodNZ_pos (xs.map Int.natAbs);obtain ⟨P, hPP⟩ : ∃ P, prodNZ (xs.map Int.natAbs) = P := ⟨_, rfl⟩;obtain ⟨n, hnn⟩ : ∃ n, xs.length = n := ⟨_, rfl⟩;rw [hPP] at hdv0 hP hP0;rw [hR, hnn];rw [hnn] at hn;have hb : ∀ y, Dv P y -> wlen y <= 8796093022207 := fun y hy => Nat.le_trans (wlen_mono (hy.le hP0)) hP;have HB := Lib.hid hb;have HN := Lib.hid hnn;have HR := Lib.hid hR;have HD := Lib.hid hdv0;clear hb hnn hR hPP hP hP0 hdv0;refine funW (S0 := fun _ => False) Tryz.func34 ((Fr.nil _ w).l hA (by simp)) ?_;refine goW ?_;refine rW [] ?_;refine dW ?_;refine eW ?_;refine goW ?_;refine rW [] ?_;refine dW ?_;refine dW ?_;refine mN n n rfl rfl (Nat.le_refl _) hn fun b => ?_;refine dW ?_;refine eW ?_;refine addW (e := .ns (List.replicate n p0) (List.replicate n 0)) (fun w' _ => NsAt.zeros w' n) ?_;refine goW ?_;refine rW [] ?_;refine dW ?_;refine dW ?_;refine dW ?_;refine eW ?_;refine goW ?_;refine loopW (X := C1X) (C1I xs n) (fun z => n - z.i) (fun z => [(14, .int .i64 (z.i : Int)), (13, .int .i64 (n : Int)), (12, .slice ao n cap), (3, .slice (some ⟨b, 0, none⟩) n n)]) (fun z => [.ns z.ps z.zs, .row b 33 (rn z.ps []), .ls L ao xs]) ⟨0, List.replicate n p0, List.replicate n 0⟩ ⟨Nat.zero_le _, by simp, by simp, fun k hk => by rw [gi_eq (by simpa using hk)]; simp⟩ fun z hz => ?_;obtain ⟨i, ps, zs⟩ := z;obtain ⟨hi, hp, hz, hok⟩ := hz
 replace hi : i <= n := hi
 replace hp : ps.length = n := hp
 replace hz : zs.length = n := hz
 replace hok : ∀ k, k < n -> gi zs k = if k < i then (((gi xs k).natAbs : Nat) : Int) else 0 := hok
 have HZ := Lib.hid (And.intro hp hz);clear hp hz;by_cases h : i < n
 · obtain ⟨bx, ox, rfl⟩ := hA.pos (i := i) (by rw [HN.out]; exact h);have h01 : (i : Int) < (n : Int) := by omega
   refine goW ?_;refine rW [] ?_;refine dB true ?_;refine eW ?_;refine goW ?_;refine ctW ?_;refine numW (L := L) (xs := xs) (b := bx) (o := ox) i (by simp) (by rw [HN.out]; exact h) fun p => ?_;refine goW ?_;refine rW [] ?_;refine dW ?_;refine dW ?_;refine dW ?_;refine aW fun g5 => ?_;refine dW ?_;refine sG ?_;refine eW ?_;refine goW ?_;refine rW [] ?_;refine dW ?_;refine dW ?_;refine dW ?_;refine cN (fun w' H => IAbs_c (av p) _ w' (H.m3.mono hL)) fun q => ?_;refine dW ?_;refine moreW (e := .ns (ps.set i q) (zs.set i ((gi xs i).natAbs : Nat))) (fun w' H => NsAt.set H.m5 i H.m0.num) ?_;refine sN i q (by rw [HZ.out.1]; exact h) NoW.nil rfl ?_;refine eW ?_;refine goW ?_;refine rW [] ?_;refine dE (incB (a := i) (by omega)) ?_;refine dW ?_;refine eW ?_;refine goW ?_;refine backW (⟨i + 1, ps.set i q, zs.set i ((gi xs i).natAbs : Nat)⟩ : C1X) ⟨⟨h, by simpa using HZ.out.1, by simpa using HZ.out.2, fun k hk => ?_⟩, by show n - (i + 1) < n - i; omega⟩;show gi (zs.set i ((gi xs i).natAbs : Nat)) k = if k < i + 1 then (((gi xs k).natAbs : Nat) : Int) else 0;rw [gi_set (by rw [HZ.out.2]; exact h)];by_cases e : k = i
   · subst e; rw [if_pos rfl, if_pos (by omega)]
   · rw [if_neg e, hok k hk];by_cases e2 : k < i
     · rw [if_pos e2, if_pos (by omega)]
     · rw [if_neg e2, if_neg (by omega)]
 · obtain rfl : i = n := by omega
   have hzs : zs = nt (xs.map Int.natAbs) := by
    refine List.ext_getElem (by rw [HZ.out.2, nt_length, List.length_map, HN.out]) fun k h1 h2 => ?_;have hk : k < i := by rw [HZ.out.2] at h1; exact h1
    have := hok k hk;rw [if_pos hk, gi_eq h1, gi_eq (by rw [HN.out]; exact hk)] at this;rw [this]; simp [nt]
   subst hzs;clear hok hi;refine goW ?_;refine rW [] ?_;refine dB false ?_;refine eW ?_;refine goW ?_;refine cfW ?_;refine goW ?_;refine rW [] ?_;refine dW ?_;refine dW ?_;refine dW ?_;refine eW ?_;refine goW ?_;refine loopW (X := C2X) (C2I R P i) (fun z => i - z.i) (fun z => [(27, .int .i64 (z.i : Int)), (26, .int .i64 (i : Int)), (3, .slice (some ⟨b, 0, none⟩) i i)]) (fun z => [.row b 33 (rn z.ps []), .ns z.ps (nt (z.pre ++ z.suf))]) ⟨0, [], xs.map Int.natAbs, ps⟩ ⟨rfl, HZ.out.1, by simp [HN.out], HR.out, HD.out⟩ fun z hz => ?_;clear HZ HD HR;obtain ⟨I, pre, suf, ps⟩ := z;obtain ⟨hI, hp, hl, hfin, hdv⟩ := hz
   replace hI : pre.length = I := hI
   replace hp : ps.length = i := hp
   replace hl : (pre ++ suf).length = i := hl
   replace hfin : pre ++ chProg suf = R := hfin
   replace hdv : ∀ y ∈ pre ++ suf, Dv P y := hdv
   cases suf with
   | nil =>
    have e : I = i := by simpa [hI] using hl
    have hfin : pre = R := by simpa [chProg] using hfin
    subst e hfin;clear hl hI hp;refine goW ?_;refine rW [] ?_;refine dB false ?_;refine eW ?_;refine goW ?_;refine cfW ?_;refine goW ?_;refine rW [] ?_;refine dW ?_;refine dW ?_;refine eW ?_;refine goW ?_;refine fin1 fun w' H => ?_;exact ⟨_, rvT, ⟨b, rfl, (H.own _ (List.mem_cons_self ..) rfl _ rfl).elim (fun h => h.elim) id, RowN.mk' H.m0 NoW.nil (by have := H.m1; rw [List.append_nil] at this; exact this)⟩, H.below⟩
   | cons x suf =>
    have hIn : I < i := by simp at hl; omega
    have h01 : (I : Int) < (i : Int) := by omega
    have HL := Lib.hid (And.intro hI (And.intro hp hl));clear hI hp hl;refine goW ?_;refine rW [] ?_;refine dB true ?_;refine eW ?_;refine goW ?_;refine ctW ?_;refine goW ?_;refine rW [] ?_;refine dW ?_;refine dW ?_;refine eW ?_;refine goW ?_;refine rW [] ?_;refine dW ?_;refine dE (incB (a := I) (by omega)) ?_;refine dW ?_;refine eW ?_;refine goW ?_;refine loopW (X := C3X) (C3I R P i I pre) (fun z => z.suf.length) (fun z => [(7, .int .i64 (z.j : Int)), (6, .int .i64 (I : Int)), (27, .int .i64 (I : Int)), (26, .int .i64 (i : Int)), (3, .slice (some ⟨b, 0, none⟩) i i)]) (fun z => [.row b 33 (rn z.ps []), .ns z.ps (nt (pre ++ z.g :: (z.mid ++ z.suf)))]) ⟨I + 1, x, [], suf, ps⟩ ⟨rfl, HL.out.2.1, HL.out.2.2, by rw [chFin_start]; exact hfin, hdv⟩ fun z hz => ?_;have HI := Lib.hid HL.out.1;clear HL hfin hdv;obtain ⟨J, g, mid, suf', ps⟩ := z;obtain ⟨hJ, hp, hl, hfin, hdv⟩ := hz
    replace hJ : I + 1 + mid.length = J := hJ
    replace hp : ps.length = i := hp
    replace hl : (pre ++ g :: (mid ++ suf')).length = i := hl
    replace hfin : chFin pre g mid suf' = R := hfin
    replace hdv : ∀ y ∈ pre ++ g :: (mid ++ suf'), Dv P y := hdv
    cases suf' with
    | nil =>
     have e : J = i := by have := HI.out; simp at hl; omega
     subst e;refine goW ?_;refine rW [] ?_;refine dW ?_;refine dW ?_;refine dW ?_;refine dB false ?_;refine eW ?_;refine goW ?_;refine cfW ?_;refine goW ?_;refine rW [] ?_;refine dE (incB (a := I) (by omega)) ?_;refine dW ?_;refine eW ?_;refine goW ?_;refine backW (⟨I + 1, pre ++ [g], mid, ps⟩ : C2X) ⟨⟨by simp [HI.out], hp, by simpa using hl, by rw [<- hfin, chFin_end], by simpa using hdv⟩, by show J - (I + 1) < J - I; omega⟩ (he := fun w' H => by simpa using H)
    | cons y suf' =>
     obtain ⟨l, hle⟩ : ∃ l, pre ++ g :: (mid ++ y :: suf') = l := ⟨_, rfl⟩;have hll : l.length = i := by rw [<- hle]; exact hl
     have e1 : (pre ++ g :: mid).length = J := by have := HI.out; simp; omega
     have e2 : pre ++ g :: (mid ++ y :: suf') = (pre ++ g :: mid) ++ y :: suf' := by simp
     have eI : l.getD I 0 = g := by rw [<- hle, <- HI.out]; exact getD_at ..
     have eJ : l.getD J 0 = y := by rw [<- hle, e2, <- e1]; exact getD_at ..
     have eS : (l.set J (Nat.lcm g y)).set I (Nat.gcd g y) = pre ++ Nat.gcd g y :: ((mid ++ [Nat.lcm g y]) ++ suf') := by
      rw [<- hle, e2, <- e1, set_at, <- HI.out, List.append_assoc, List.cons_append, set_at]; simp
     have hJn : J < i := by simp at hl; have := HI.out; omega
     have hIJ : I < J := by omega
     have hg : wlen g <= 8796093022207 := HB.out g (hdv g (by simp));have hy : wlen y <= 8796093022207 := HB.out y (hdv y (by simp));have hdv' : ∀ z ∈ pre ++ Nat.gcd g y :: ((mid ++ [Nat.lcm g y]) ++ suf'), Dv P z := by
      have dg := hdv g (by simp);have dy := hdv y (by simp);intro z hz;simp only [List.mem_append, List.mem_cons, List.not_mem_nil, or_false] at hz;rcases hz with hz | rfl | (hz | rfl) | hz
      · exact hdv z (by simp [hz])
      · exact dg.gcd dy
      · exact hdv z (by simp [hz])
      · exact dg.lcm dy
      · exact hdv z (by simp [hz])
     have rI : ∀ w, NsAt w ps (nt l) -> IntAt w 8796093022207 (av (gp ps I)) (g : Int) := fun w h => by
      have := h.nat (i := I) (by rw [hll]; omega);rw [eI] at this; exact this.int hg
     have rJ : ∀ w, NsAt w ps (nt l) -> IntAt w 8796093022207 (av (gp ps J)) (y : Int) := fun w h => by
      have := h.nat (i := J) (by rw [hll]; omega);rw [eJ] at this; exact this.int hy
     have sIJ : ∀ w (p q : P4), NsAt w ps (nt l) -> NumAt w (av p) ((Nat.gcd g y : Nat) : Int) -> NumAt w (av q) ((Nat.lcm g y : Nat) : Int) -> NsAt w ((ps.set J q).set I p) (nt (pre ++ Nat.gcd g y :: ((mid ++ [Nat.lcm g y]) ++ suf'))) := fun w p q h hp hq => by
      have := (h.set J hq).set I hp;rw [nt_set, nt_set, eS] at this; exact this
     have k0 := rn0 [] (ps := ps) (i := I) (by omega);have k1 := rn1 [] (ps := ps) (i := I) (by omega);have k2 := rn0 [] (ps := ps) (i := J) (by omega);have k3 := rn1 [] (ps := ps) (i := J) (by omega);have hfin' := chFin_step pre g y mid suf';rw [hfin] at hfin';have h01 : (I : Int) < (i : Int) := by omega
     have h02 : (J : Int) < (i : Int) := by omega
     have HQ := Lib.hid (And.intro hp (And.intro hfin' (And.intro hdv' (And.intro hJ hl))));rw [show pre ++ (⟨J, g, mid, y :: suf', ps⟩ : C3X).g :: ((⟨J, g, mid, y :: suf', ps⟩ : C3X).mid ++ (⟨J, g, mid, y :: suf', ps⟩ : C3X).suf) = l from hle];clear hp hfin hfin' hdv hdv' hJ hl e1 e2 eI eJ eS hle hll;refine goW ?_;refine rW [] ?_;refine dW ?_;refine dW ?_;refine dW ?_;refine dB true ?_;refine eW ?_;refine goW ?_;refine ctW ?_;refine goW ?_;refine rW [] ?_;refine dW ?_;refine dW ?_;refine dW ?_;refine dW ?_;refine dW ?_;refine dW ?_;refine dW ?_;refine dW ?_;refine cN (x := ((Nat.gcd g y : Nat) : Int)) (fun w' H => BGcd_c (av (gp ps I)) (av (gp ps J)) g y w' ((rI w' H.m1).mono (by omega)) ((rJ w' H.m1).mono (by omega))) fun p46 => ?_;refine aW fun g8 => ?_;refine sG ?_;refine eW ?_;refine goW ?_;refine rW [] ?_;refine dW ?_;refine dW ?_;refine dW ?_;refine dW ?_;refine dW ?_;refine dW ?_;refine dW ?_;refine dW ?_;refine dW ?_;refine dW ?_;refine cN (x := ((Nat.lcm g y : Nat) : Int)) (fun w' H => BLcm_c (av (gp ps I)) (av (gp ps J)) g y 8796093022207 w' (rI w' H.m3) (rJ w' H.m3) (Nat.le_refl _)) fun p57 => ?_;refine dW ?_;refine sN J p57 (by rw [HQ.out.1]; omega) NoW.nil rfl ?_;refine eW ?_;refine goW ?_;refine rW [] ?_;refine dW ?_;refine dW ?_;refine dW ?_;refine dW ?_;refine moreW (e := .ns ((ps.set J p57).set I p46) (nt (pre ++ Nat.gcd g y :: ((mid ++ [Nat.lcm g y]) ++ suf')))) (fun w' H => sIJ w' p46 p57 H.m4 H.m2.num H.m0.num) ?_;refine sN (ps := ps.set J p57) I p46 (by rw [List.length_set, HQ.out.1]; omega) NoW.nil rfl ?_;refine eW ?_;refine goW ?_;refine rW [] ?_;refine dW ?_;refine dE (incB (a := J) (by omega)) ?_;refine dW ?_;refine eW ?_;refine goW ?_;refine backW (⟨J + 1, Nat.gcd g y, mid ++ [Nat.lcm g y], suf', (ps.set J p57).set I p46⟩ : C3X) ⟨⟨by have := HQ.out.2.2.2.1; simp; omega, by simpa using HQ.out.1, by have := HQ.out.2.2.2.2; simp at this ⊢; omega, HQ.out.2.1, HQ.out.2.2.1⟩, by simp⟩
end Go.Proofs.YtcpjoiffkniccaaGreat
namespace Go.Proofs.YtcpjoiffkniccaaGreat
end Go.Proofs.YtcpjoiffkniccaaGreat
namespace Go.Proofs.YtcpjoiffkniccaaGreat
open Go.RowKit
def diagN (c k : Nat) (xs : List Int) : List Nat := (diagL c k xs).map Int.natAbs
set_option maxRecDepth 100000 in
set_option maxHeartbeats 2000000 in
theorem SForm_c (r c m : Nat) (ao : Option Addr) (cap : Nat) (xs : List Int) (w : World) (hr : r <= 64) (hc : c <= 64) (h : LsAt w 17592186044415 ao xs) (hm : ∀ x ∈ xs, x.natAbs < W ^ m) (hm1 : m <= 1048576) (hs : xs.length = r * c) (hd : ∀ hs k l, IsHnf r c xs hs k l -> IsDg r c hs) :
 Calls Tryz.prog 14 #[.agg #[.int .i64 (r : Int), .int .i64 (c : Int), .slice ao xs.length cap]] w fun e w' => (∃ p : List Int × Option Addr × Nat, e = .returned (.tuple #[.agg #[.int .i64 (r : Int), .int .i64 (c : Int), .slice p.2.1 (r * c) p.2.2], .int .i64 0]) /\ LsN w' p.2.1 (tabK c (diagF (nt (chProg (diagN c (min r c) p.1)))) (r * c)) /\ (∃ k l, IsHnf r c xs p.1 k l) /\ ∀ b o, p.2.1 = some ⟨b, o, none⟩ -> w.heap.size <= b) /\ Below w.heap.size w w' := by
 have HF0 : Hid (∀ w', LsAt w' 17592186044415 ao xs -> Calls Tryz.prog 30 #[.agg #[.int .i64 (r : Int), .int .i64 (c : Int), .slice ao xs.length cap]] w' fun e w'' => (∃ p : Nat × List Int, e = .returned (.tuple #[.agg #[.int .i64 (r : Int), .int .i64 (c : Int), .slice (some ⟨p.1, 0, none⟩) (r * c) (r * c)], .int .i64 0]) /\ LsN w'' (some ⟨p.1, 0, none⟩) p.2 /\ ((∃ k l, IsHnf r c xs p.2 k l) /\ p.2.length = r * c /\ ∀ x ∈ p.2, x.natAbs < W ^ hW m) /\ ∀ b o, some (⟨p.1, 0, none⟩ : Addr) = some ⟨b, o, none⟩ -> w'.heap.size <= b) /\ Below w'.heap.size w' w'') :=
  Lib.hid fun w' h' => (Form_c r c m ao xs.length cap xs w' hr hc h' hm (by omega) rfl hs).mono fun e w'' ⟨⟨b, hs', k, l, he, hb, hR, hH, hB⟩, hbl⟩ => ⟨⟨(b, hs'), he, hR.lsN, ⟨⟨k, l, hH⟩, hH.len, hB⟩, fun b' o e => by cases e; exact hb⟩, hbl⟩
 have hhw : hW m * 64 + 1 <= 8796093022207 := by unfold hW hermW; omega
 obtain ⟨M, hM⟩ : ∃ M, hW m = M := ⟨_, rfl⟩;rw [hM] at HF0 hhw;have HD : Hid (∀ hs k l, IsHnf r c xs hs k l -> IsDg r c hs) := Lib.hid hd;have hrc : r * c <= 4096 := Nat.mul_le_mul hr hc;clear hs hd hm hM;refine funW (S0 := fun _ => False) Tryz.func14 ((Fr.nil _ w).l h (by simp)) ?_;refine goW ?_;refine rW [] ?_;refine aW fun g1 => ?_;refine aW fun g2 => ?_;refine dW ?_;refine eW ?_;refine goW ?_;refine rW [] ?_;refine dW ?_;refine cLn (α := Nat × List Int) (mk := fun p => .tuple #[.agg #[.int .i64 (r : Int), .int .i64 (c : Int), .slice (some ⟨p.1, 0, none⟩) (r * c) (r * c)], .int .i64 0]) (ao := fun p => some ⟨p.1, 0, none⟩) (xs := fun p => p.2) (A := fun p => (∃ k l, IsHnf r c xs p.2 k l) /\ p.2.length = r * c /\ ∀ x ∈ p.2, x.natAbs < W ^ M) (fun w' H => HF0.out w' H.m2) fun p => ?_;obtain ⟨b, hs⟩ := p;refine dW ?_;refine dW ?_;refine dW ?_;refine aW fun g4 => ?_;refine sG ?_;refine dW ?_;refine eW ?_;refine prW (A := ((∃ k l, IsHnf r c xs hs k l) /\ hs.length = r * c /\ ∀ x ∈ hs, x.natAbs < W ^ M) /\ ∀ b' o, some (⟨b, 0, none⟩ : Addr) = some ⟨b', o, none⟩ -> w.heap.size <= b') (by simp) fun hA => ?_;obtain ⟨⟨hH, hl, hB⟩, _⟩ := hA;have hdg : IsDg r c hs := by obtain ⟨k, l, h⟩ := hH; exact HD.out _ _ _ h
 have HH : Hid ((∃ k l, IsHnf r c xs hs k l) /\ IsDg r c hs /\ hs.length = r * c /\ ∀ x ∈ hs, x.natAbs < W ^ M) := Lib.hid ⟨hH, hdg, hl, hB⟩;have hwl : ∀ x ∈ hs, wlen x.natAbs <= 17592186044415 := fun x hx => Nat.le_trans (wlen_le_of_lt (hB x hx)) (by omega);have HWL : Hid (∀ x ∈ hs, wlen x.natAbs <= 17592186044415) := Lib.hid hwl;clear hH hl hB hdg hwl;refine goW ?_;refine rW [] ?_;refine dW ?_;refine dW ?_;refine eW ?_;refine goW ?_;refine cfW ?_;refine goW ?_;refine rW [] ?_;refine dW ?_;refine eW ?_;refine goW ?_;refine loopW (X := Unit) (fun _ => True) (fun _ => 0) (fun _ => [(6, .bool false), (4, .pointer (some ⟨g4, 0, none⟩)), (2, .pointer (some ⟨g2, 0, none⟩)), (1, .pointer (some ⟨g1, 0, none⟩))])
  (fun _ => [.row g4 24 [.int .i64 (r : Int), .int .i64 (c : Int), .slice (some ⟨b, 0, none⟩) (r * c) (r * c)], .row g2 24 [.int .i64 0, .int .i64 0, .slice none 0 0], .row g1 24 [.int .i64 (r : Int), .int .i64 (c : Int), .slice ao xs.length cap], .lsn (some ⟨b, 0, none⟩) hs]) () trivial fun _ _ => ?_
 refine goW ?_;refine rW [] ?_;refine dW ?_;refine cV (v := .bool true) (fun w' H => by
  have h1 : LsN w' (some ⟨b, 0, none⟩) hs := H.m3;have := SDiag_v (cap := r * c) true hr hc (h1.lsAt HWL.out) (by omega) HH.out.2.2.1 ⟨fun _ => HH.out.2.1, fun _ => rfl⟩;rw [HH.out.2.2.1] at this; exact this) ?_
 refine dW ?_;refine eW ?_;refine goW ?_;refine cfW ?_;refine goW ?_;have hkr : min r c <= 64 := Nat.le_trans (Nat.min_le_left ..) hr;have HDN : Hid (∀ w', LsN w' (some ⟨b, 0, none⟩) hs -> Calls Tryz.prog 17 #[.agg #[.int .i64 (r : Int), .int .i64 (c : Int), .slice (some ⟨b, 0, none⟩) (r * c) (r * c)]] w' fun e w'' => (∃ q : Nat, e = .returned (.slice (some ⟨q, 0, none⟩) (min r c) (min r c)) /\ LsN w'' (some ⟨q, 0, none⟩) (diagL c (min r c) hs) /\ True /\ ∀ b o, some (⟨q, 0, none⟩ : Addr) = some ⟨b, o, none⟩ -> w'.heap.size <= b) /\ Below w'.heap.size w' w'') := Lib.hid fun w' h1 => by
  have := SList_c r c (some ⟨b, 0, none⟩) (r * c) 17592186044415 hs w' hr hc (h1.lsAt HWL.out) (by omega) HH.out.2.2.1;rw [HH.out.2.2.1] at this;exact this.mono fun e w'' ⟨⟨q, he, hq, hR⟩, hb⟩ => ⟨⟨q, he, hR.lsN, trivial, fun b' o e => by cases e; exact hq⟩, hb⟩
 have hdl : ∀ x ∈ diagL c (min r c) hs, x.natAbs < W ^ M := fun x hx => by
  unfold diagL at hx;obtain ⟨i, hi, rfl⟩ := List.mem_map.1 hx;have hi := List.mem_range.1 hi;refine HH.out.2.2.2 _ (gi_mem ?_);rw [HH.out.2.2.1];exact idxL (by have := Nat.min_le_left r c; omega) (by have := Nat.min_le_right r c; omega)
 have hP : wlen (prodNZ (diagN c (min r c) hs)) <= 8796093022207 := by
  have h1 := prodNZ_lt M (diagN c (min r c) hs) (fun x hx => by
   unfold diagN at hx;obtain ⟨y, hy, rfl⟩ := List.mem_map.1 hx;exact hdl y hy)
  have h2 : (diagN c (min r c) hs).length = min r c := by rw [diagN, List.length_map, diagL_length]
  rw [h2] at h1;have h3 : M * min r c <= M * 64 := Nat.mul_le_mul_left _ hkr;have h4 := wlen_le_of_lt (Nat.lt_of_le_of_lt h1 (Nat.pow_lt_pow_right (by decide : 1 < W) (Nat.lt_succ_self (M * min r c))));omega
 have hcl : (chProg (diagN c (min r c) hs)).length = min r c := by rw [chProg_ref, chRef_length, diagN, List.length_map, diagL_length]
 have HCH : Hid (∀ w' q, LsN w' (some ⟨q, 0, none⟩) (diagL c (min r c) hs) -> Calls Tryz.prog 34 #[.slice (some ⟨q, 0, none⟩) (min r c) (min r c)] w' fun e w'' => (∃ q2 : Nat, e = .returned (.slice (some ⟨q2, 0, none⟩) (min r c) (min r c)) /\ LsN w'' (some ⟨q2, 0, none⟩) (nt (chProg (diagN c (min r c) hs))) /\ True /\ ∀ b o, some (⟨q2, 0, none⟩ : Addr) = some ⟨b, o, none⟩ -> w'.heap.size <= b) /\ Below w'.heap.size w' w'') := Lib.hid fun w' q h1 => by
  have := SChain_c (some ⟨q, 0, none⟩) (min r c) 17592186044415 (diagL c (min r c) hs) w' (h1.lsAt fun x hx => Nat.le_trans (wlen_le_of_lt (hdl x hx)) (by omega)) (Nat.le_refl _) (by rw [diagL_length]; omega) hP;rw [diagL_length] at this;exact this.mono fun e w'' ⟨⟨q2, he, hq, hR⟩, hb⟩ => ⟨⟨q2, he, hR.lsN, trivial, fun b' o e => by cases e; exact hq⟩, hb⟩
 have hnl : ∀ x ∈ nt (chProg (diagN c (min r c) hs)), wlen x.natAbs <= 17592186044415 := fun x hx => by
  unfold nt at hx;obtain ⟨y, hy, rfl⟩ := List.mem_map.1 hx;have := chProg_dv (P := prodNZ (diagN c (min r c) hs)) (fun z hz => Dv.of_mem hz) y hy;exact Nat.le_trans (wlen_mono (this.le (prodNZ_pos _))) (Nat.le_trans hP (by omega))
 have HDG : Hid (∀ w' q, LsN w' (some ⟨q, 0, none⟩) (nt (chProg (diagN c (min r c) hs))) -> Calls Tryz.prog 33 #[.int .i64 (r : Int), .int .i64 (c : Int), .slice (some ⟨q, 0, none⟩) (min r c) (min r c)] w' fun e w'' => (∃ p : Option Addr × Nat, e = .returned (.tuple #[.agg #[.int .i64 (r : Int), .int .i64 (c : Int), .slice p.1 (r * c) p.2], .int .i64 0]) /\ LsN w'' p.1 (tabK c (diagF (nt (chProg (diagN c (min r c) hs)))) (r * c)) /\ True /\ ∀ b o, p.1 = some ⟨b, o, none⟩ -> w'.heap.size <= b) /\ Below w'.heap.size w' w'') := Lib.hid fun w' q h1 => by
  have := MDiag_c r c (some ⟨q, 0, none⟩) (min r c) 17592186044415 (nt (chProg (diagN c (min r c) hs))) w' hr hc (by rw [nt_length, hcl]; exact Nat.le_refl _) (h1.lsAt hnl) (Nat.le_refl _);rw [nt_length, hcl] at this;exact this
 clear hcl hnl hP hdl hkr;obtain ⟨k, hk⟩ : ∃ k, min r c = k := ⟨_, rfl⟩;rw [hk] at HDN HCH HDG ⊢;clear hk;refine rW [] ?_;refine dW ?_;refine dW ?_;refine dW ?_;refine dW ?_;refine dW ?_;refine cLn (α := Nat) (mk := fun q => .slice (some ⟨q, 0, none⟩) k k) (ao := fun q => some ⟨q, 0, none⟩) (xs := fun _ => diagL c k hs) (A := fun _ => True) (fun w' H => HDN.out w' H.m3) fun q1 => ?_;refine cLn (α := Nat) (mk := fun q => .slice (some ⟨q, 0, none⟩) k k) (ao := fun q => some ⟨q, 0, none⟩) (xs := fun _ => nt (chProg (diagN c k hs))) (A := fun _ => True) (fun w' H => HCH.out w' q1 H.m0) fun q2 => ?_;refine cLn (α := Option Addr × Nat) (mk := fun p => .tuple #[.agg #[.int .i64 (r : Int), .int .i64 (c : Int), .slice p.1 (r * c) p.2], .int .i64 0]) (ao := fun p => p.1) (xs := fun _ => tabK c (diagF (nt (chProg (diagN c k hs)))) (r * c)) (A := fun _ => True) (fun w' H => HDG.out w' q2 H.m0) fun q3 => ?_;refine dW ?_;refine dW ?_;refine sW ?_;refine dW ?_;refine eW ?_;refine goW ?_;refine fin2 fun w' H => ?_;exact ⟨_, _, rvM H.m7, rvT, ⟨(hs, q3), rfl, H.m0, HH.out.1, (show True /\ ∀ b o, q3.1 = some ⟨b, o, none⟩ -> w.heap.size <= b from H.m1).2⟩, H.below⟩
end Go.Proofs.YtcpjoiffkniccaaGreat
namespace Go.Proofs.YtcpjoiffkniccaaGreat
def Smf (r c : Nat) (xs : List Int) (R : List Nat) : Prop := R.length = min r c /\ Chn R /\ Eqv r c (matE xs r c) (Dl R)
theorem trn_E {r c : Nat} (xs : List Int) : matE (trn r c xs) c r = tp (matE xs r c) := by
 funext i j;show matE (trn r c xs) c r i j = matE xs r c j i;unfold matE;by_cases h : i < c /\ j < r
 · rw [if_pos h, if_pos ⟨h.2, h.1⟩]; exact trn_gi xs h.1 h.2
 · rw [if_neg h, if_neg fun q => h ⟨q.2, q.1⟩]
theorem sp_zero {n : Nat} (E : Mx) {v : Nat -> Int} (h : ∀ j, v j = 0) : Sp n E v := ⟨fun _ => 0, fun j => by rw [h j]; exact (sm_zero fun t _ => Int.zero_mul _).symm⟩
theorem speq_more {r k : Nat} {A H : Mx} (hk : k <= r) (hz : ∀ i, k <= i -> ∀ j, H i j = 0) (h : SpEq r A k H) : SpEq r A r H :=
 ⟨fun i hi => (h.1 i hi).more hk, fun i hi => by
  by_cases q : i < k
  · exact h.2 i q
  · exact sp_zero A (hz i (by omega))⟩
theorem mat_absS {xs : List Int} {r c B : Nat} (h : ∀ x ∈ xs, x.natAbs <= B) (i j : Nat) : (matE xs r c i j).natAbs <= B := by
 unfold matE;split
 · by_cases q : i * c + j < xs.length
   · rw [show xs.getD (i * c + j) 0 = xs[i * c + j] by simp [q]]; exact h _ (List.getElem_mem q)
   · simp [Nat.le_of_not_lt q]
 · exact Nat.zero_le _
theorem mem_matE {xs : List Int} {r c : Nat} (hl : xs.length = r * c) {x : Int} (h : x ∈ xs) : ∃ i j, i < r /\ j < c /\ x = matE xs r c i j := by
 obtain ⟨q, hq, rfl⟩ := List.getElem_of_mem h;have hc : 0 < c := Nat.pos_of_ne_zero fun e => by rw [hl, e, Nat.mul_zero] at hq; omega
 have h1 : q / c < r := Nat.div_lt_of_lt_mul (by rw [Nat.mul_comm]; omega);have h2 : q % c < c := Nat.mod_lt _ hc;refine ⟨q / c, q % c, h1, h2, ?_⟩;rw [matE_eq h1 h2, show q / c * c + q % c = q by rw [Nat.mul_comm]; exact Nat.div_add_mod q c];simp [hq]
def Dp (m : Nat) : Nat := (64 * W ^ m) ^ 64
theorem dp_lt (m : Nat) : Dp m < W ^ (64 * (m + 1)) := by
 unfold Dp;rw [Nat.mul_comm 64 (m + 1), Nat.pow_mul];refine Nat.pow_lt_pow_left ?_ (by omega);rw [Nat.pow_succ, Nat.mul_comm];exact (Nat.mul_lt_mul_left (Nat.pow_pos (by unfold W; omega))).2 (by unfold W; omega)
theorem Upr.pp_le {k : Nat} {T : Mx} (h : Upr k T) {i : Nat} (hi : i <= k) : Pp T i <= Pp T k := by
 obtain ⟨d, rfl⟩ : ∃ d, k = i + d := ⟨k - i, by omega⟩;have : ∀ e, e <= d -> Pp T i <= Pp T (i + e) := by
  intro e;induction e with
  | zero => intro _; exact Nat.le_refl _
  | succ e ih =>
   intro he;refine Nat.le_trans (ih (by omega)) ?_;exact Nat.le_mul_of_pos_right _ (show 0 < (T (i + e) (i + e)).natAbs by have := h.pos (i + e) (by omega); omega)
 exact this d (Nat.le_refl _)
theorem Upr.mu_le {k B : Nat} {T : Mx} (h : Upr k T) (hB : Pp T k <= B) : mu k T <= (k + 1) * B := by
 have : ∀ n, n <= k + 1 -> ((List.range n).map (Pp T)).sum <= n * B := by
  intro n;induction n with
  | zero => intro _; exact Nat.zero_le _
  | succ n ih =>
   intro hn;rw [List.range_succ, List.map_append, List.sum_append, Nat.succ_mul];have h1 := ih (by omega);have h2 := h.pp_le (i := n) (by omega);simp only [List.map_cons, List.map_nil, List.sum_cons, List.sum_nil];omega
 exact this (k + 1) (Nat.le_refl _)
def DgT (T : Mx) : Prop := ∀ a j, a ≠ j -> T a j = 0
structure UI (m k w n : Nat) (T : Mx) : Prop where
 up : Upr k T
 hm : ∃ l, Herm k w T l /\ ∀ i < k, l i = i
 bd : Pp T k <= Dp m
 fu : 2 * mu k T + 1 <= n ∨ 2 * mu k T <= n /\ DgT T
theorem UI.next {m k w n v k' : Nat} {T H : Mx} {l : Nat -> Nat} (h : UI m k w n T) (hnd : ¬ DgT T) (hH : Herm k' v H l) (hz : ∀ i, k' <= i -> ∀ j, H i j = 0) (hsp : SpEq w (tp T) k' H) : ∃ n', n' < n /\ UI m k' v n' H := by
 obtain ⟨l0, h0, hl0⟩ := h.hm;have hkw : k <= w := Nat.le_of_not_lt fun q => by have := h0.lt w q; rw [hl0 w q] at this; omega
 obtain ⟨rfl, hl, hu⟩ := h.up.next hkw hH hz hsp;have hf : 2 * mu k' T + 1 <= n := h.fu.elim id fun q => absurd q.2 hnd;have hpd := Nat.le_of_dvd (h.up.pp k' (Nat.le_refl _)) (h.up.dvd hu hkw hsp (Nat.le_refl _));rcases h.up.less hu hkw hH hl hsp with q | ⟨q, q2⟩
 · exact ⟨2 * mu k' H + 1, by omega, hu, ⟨l, hH, hl⟩, Nat.le_trans hpd h.bd, .inl (Nat.le_refl _)⟩
 · exact ⟨2 * mu k' H, by omega, hu, ⟨l, hH, hl⟩, Nat.le_trans hpd h.bd, .inr ⟨Nat.le_refl _, q2⟩⟩
theorem UI.first {m r c k k' : Nat} {xs hs : List Int} {G : Mx} {l l' : Nat -> Nat} (hr : r <= 64) (hm : ∀ x ∈ xs, x.natAbs < W ^ m) (h : IsHnf r c xs hs k l) (hG : Herm k' r G l') (hzG : ∀ i, k' <= i -> ∀ j, G i j = 0) (hspG : SpEq c (tp (matE hs r c)) k' G) : ∃ n', n' < 130 * Dp m + 4 /\ UI m k' r n' G := by
 obtain ⟨rfl, hl, hu, σ, hσ, hd⟩ := Upr.first h.herm h.zero h.sp hG hzG hspG;have h1 := det_bd k' (fun a b => matE xs r c (σ a) (l b)) fun i j => mat_absS (fun x hx => Nat.le_of_lt (hm x hx)) (σ i) (l j);have hk : k' <= 64 := Nat.le_trans h.kr hr;have hB : 0 < 64 * W ^ m := Nat.mul_pos (by omega) (Nat.pow_pos (by unfold W; omega));have h2 : (k' * W ^ m) ^ k' <= Dp m := Nat.le_trans (Nat.pow_le_pow_left (Nat.mul_le_mul_right _ hk) k') (Nat.pow_le_pow_right hB hk);have hb : Pp G k' <= Dp m := Nat.le_trans hd (Nat.le_trans h1 h2);have h3 := hu.mu_le hb;have h4 : (k' + 1) * Dp m <= 65 * Dp m := Nat.mul_le_mul_right _ (by omega);exact ⟨2 * mu k' G + 1, by omega, hu, ⟨l', hG, hl⟩, hb, .inl (Nat.le_refl _)⟩
theorem UI.get {m k w n : Nat} {T : Mx} (h : UI m k w n T) (i j : Nat) : 0 <= T i j /\ (T i j).natAbs <= Dp m := by
 obtain ⟨l, h0, hl⟩ := h.hm;have := h.up.bound h0 hl i j;exact ⟨this.1, Nat.le_trans this.2 h.bd⟩
structure F3X where
 rows : Bool
 n : Nat
 ao : Option Addr
 cap : Nat
 hs : List Int
structure F3I (r c m : Nat) (xs : List Int) (z : F3X) : Prop where
 len : z.hs.length = r * c
 eqv : Eqv r c (matE xs r c) (matE z.hs r c)
 ok : (z.rows = false /\ (∃ k l, IsHnf r c xs z.hs k l) /\ (∀ x ∈ z.hs, x.natAbs < W ^ hW m) /\ 130 * Dp m + 4 <= z.n) ∨ (z.rows = true /\ ∃ k, UI m k r z.n (tp (matE z.hs r c))) ∨ (z.rows = false /\ ∃ k, UI m k c z.n (matE z.hs r c))
section
variable {r c m n k n' : Nat} {xs hs ts : List Int} {ao ao' : Option Addr} {cap cap' : Nat} {l : Nat -> Nat} {b : Bool}
theorem F3I.start (h : IsHnf r c xs hs k l) (hb : ∀ x ∈ hs, x.natAbs < W ^ hW m) : F3I r c m xs ⟨false, 130 * Dp m + 4, ao, cap, hs⟩ :=
 ⟨h.len, .rows (speq_more h.kr h.zero h.sp), .inl ⟨rfl, ⟨k, l, h⟩, hb, Nat.le_refl _⟩⟩
theorem F3I.bnd (h : F3I r c m xs ⟨b, n, ao, cap, hs⟩) : ∀ x ∈ hs, x.natAbs < W ^ hW m := by
 have hpw : W ^ (64 * (m + 1)) <= W ^ hW m := Nat.pow_le_pow_right (by unfold W; omega) (by unfold hW hermW; omega);rcases h.ok with ⟨_, _, q, _⟩ | ⟨_, k, q⟩ | ⟨_, k, q⟩
 · exact q
 · intro x hx;obtain ⟨i, j, _, _, rfl⟩ := mem_matE h.len hx;exact Nat.lt_of_le_of_lt (q.get j i).2 (Nat.lt_of_lt_of_le (dp_lt m) hpw)
 · intro x hx;obtain ⟨i, j, _, _, rfl⟩ := mem_matE h.len hx;exact Nat.lt_of_le_of_lt (q.get i j).2 (Nat.lt_of_lt_of_le (dp_lt m) hpw)
theorem not_dg (h : ¬ IsDg r c hs) : ¬ DgT (matE hs r c) /\ ¬ DgT (tp (matE hs r c)) :=
 ⟨fun q => h fun i j hi hj hij => by have := q i j hij; rw [matE_eq hi hj] at this; exact this,
  fun q => h fun i j hi hj hij => by have : matE hs r c i j = 0 := q j i (Ne.symm hij); rw [matE_eq hi hj] at this; exact this⟩
theorem F3I.turn (hr : r <= 64) (hm : ∀ x ∈ xs, x.natAbs < W ^ m) (h : F3I r c m xs ⟨false, n, ao, cap, hs⟩) (hd : ¬ IsDg r c hs) (hT : IsHnf c r (trn r c hs) ts k l) : ∃ n', n' < n /\ F3I r c m xs ⟨true, n', ao', cap', trn c r ts⟩ := by
 have hsp : SpEq c (tp (matE hs r c)) k (matE ts c r) := by have := hT.sp; rw [trn_E] at this; exact this
 have e : tp (matE (trn c r ts) r c) = matE ts c r := by rw [trn_E]; rfl
 have hq : Eqv r c (matE xs r c) (matE (trn c r ts) r c) := h.eqv.trans (.cols (by rw [e]; exact speq_more hT.kr hT.zero hsp));rcases h.ok with ⟨_, ⟨k0, l0, q⟩, _, q2⟩ | ⟨q, _⟩ | ⟨_, k0, q⟩
 · obtain ⟨n', h1, h2⟩ := UI.first hr hm q hT.herm hT.zero hsp;exact ⟨n', Nat.lt_of_lt_of_le h1 q2, trn_length c r ts, hq, .inr (.inl ⟨rfl, k, by rw [e]; exact h2⟩)⟩
 · cases q
 · obtain ⟨n', h1, h2⟩ := q.next (not_dg hd).1 hT.herm hT.zero hsp;exact ⟨n', h1, trn_length c r ts, hq, .inr (.inl ⟨rfl, k, by rw [e]; exact h2⟩)⟩
theorem F3I.form (h : F3I r c m xs ⟨true, n, ao, cap, hs⟩) (hd : ¬ IsDg r c hs) (hT : IsHnf r c hs ts k l) : ∃ n', n' < n /\ F3I r c m xs ⟨false, n', ao', cap', ts⟩ := by
 have hq : Eqv r c (matE xs r c) (matE ts r c) := h.eqv.trans (.rows (speq_more hT.kr hT.zero hT.sp));rcases h.ok with ⟨q, _⟩ | ⟨_, k0, q⟩ | ⟨q, _⟩
 · cases q
 · obtain ⟨n', h1, h2⟩ := q.next (not_dg hd).2 hT.herm hT.zero hT.sp;exact ⟨n', h1, hT.len, hq, .inr (.inr ⟨rfl, k, h2⟩)⟩
 · cases q
theorem herm_dg {k w : Nat} {E : Mx} (h : Herm k w E l) (hz : ∀ i, k <= i -> ∀ j, E i j = 0) (i : Nat) : 0 <= E i i := by
 by_cases hi : i < k
 · have hge : ∀ i, i < k -> i <= l i := by
    intro i;induction i with
    | zero => intro _; exact Nat.zero_le _
    | succ i ih => intro hi; have := ih (by omega); have := h.inc i (i + 1) (by omega) hi; omega
   rcases Nat.lt_or_ge i (l i) with q | q
   · rw [h.zero i hi i q]; exact Int.le_refl _
   · have := h.pos i hi;rw [Nat.le_antisymm q (hge i hi)] at this;exact Int.le_of_lt this
 · rw [hz i (by omega)]; exact Int.le_refl _
theorem F3I.fin (h : F3I r c m xs ⟨b, n, ao, cap, hs⟩) (hd : IsDg r c hs) : Smf r c xs (chProg (diagN c (min r c) hs)) := by
 have h0 : ∀ i, 0 <= matE hs r c i i := fun i => by
  rcases h.ok with ⟨_, ⟨k, l, q⟩, _⟩ | ⟨_, k, q⟩ | ⟨_, k, q⟩
  · exact herm_dg q.herm q.zero i
  · exact (q.get i i).1
  · exact (q.get i i).1
 have hl : (diagN c (min r c) hs).length = min r c := by rw [diagN, List.length_map, diagL_length]
 have e : matE hs r c = Dl (diagN c (min r c) hs) := by
  funext i j;show matE hs r c i j = if i = j then (((diagN c (min r c) hs).getD i 0 : Nat) : Int) else 0;by_cases hij : i = j
  · subst hij;rw [if_pos rfl];by_cases hi : i < min r c
    · have h1 : i < r /\ i < c := by omega
      have h2 : (diagN c (min r c) hs).getD i 0 = (gi hs (i * c + i)).natAbs := by
       rw [List.getD_eq_getElem?_getD, List.getElem?_eq_getElem (by rw [hl]; exact hi)];unfold diagN diagL;simp
      rw [h2];have h3 : matE hs r c i i = gi hs (i * c + i) := matE_eq h1.1 h1.2;have := h0 i;rw [h3] at this ⊢;omega
    · rw [show (diagN c (min r c) hs).getD i 0 = 0 by rw [List.getD_eq_getElem?_getD, List.getElem?_eq_none (by rw [hl]; omega)]; rfl];unfold matE;rw [if_neg (by omega)]; rfl
  · rw [if_neg hij];unfold matE;split
    · rename_i q; exact hd i j q.1 q.2 hij
    · rfl
 have hch : (chProg (diagN c (min r c) hs)).length = min r c := by rw [chProg_ref, chRef_length, hl]
 refine ⟨hch, chProg_chn _, ?_⟩;have h1 := h.eqv;rw [show matE (⟨b, n, ao, cap, hs⟩ : F3X).hs r c = matE hs r c from rfl, e] at h1;exact h1.trans (dl_chain (min r c) (diagN c (min r c) hs) [] hl (by rw [List.nil_append, hl]; exact Nat.min_le_left ..) (by rw [List.nil_append, hl]; exact Nat.min_le_right ..))
end
theorem sm_head (n : Nat) (f : Nat -> Int) : sm (n + 1) f = f 0 + sm n fun k => f (k + 1) := by
 rw [Nat.add_comm n 1, sm_split];show 0 + f 0 + _ = _;rw [Int.zero_add];exact congrArg _ (sm_congr fun k _ => by rw [Nat.add_comm])
theorem det_row : ∀ (n : Nat) (M : Mx), det (n + 1) M = sm (n + 1) fun j => sgn j * M 0 j * det n fun a b => M (a + 1) (skp j b)
 | 0, M => by
  show 0 + sgn 0 * M 0 0 * 1 = 0 + sgn 0 * M 0 0 * 1;rfl
 | n + 1, M => by
  have h1 : det (n + 2) M = sgn 0 * M 0 0 * det (n + 1) (minor M 0) + sm (n + 1) fun i => sgn (i + 1) * M (i + 1) 0 * det (n + 1) (minor M (i + 1)) := sm_head (n + 1) _;rw [h1, sm_head (n + 1)];have e0 : det (n + 1) (minor M 0) = det (n + 1) fun a b => M (a + 1) (skp 0 b) := det_congr _ fun a _ b _ => by simp [minor, skp]
  rw [e0];refine congrArg _ ?_;have e1 : (sm (n + 1) fun i => sgn (i + 1) * M (i + 1) 0 * det (n + 1) (minor M (i + 1))) = sm (n + 1) fun i => sm (n + 1) fun j => sgn (i + 1) * sgn j * M (i + 1) 0 * M 0 (j + 1) * det n fun a b => M (skp i a + 1) (skp j b + 1) := sm_congr fun i _ => by
   rw [det_row n (minor M (i + 1)), <- sm_mul];refine sm_congr fun j _ => ?_;have e2 : (det n fun a b => minor M (i + 1) (a + 1) (skp j b)) = det n fun a b => M (skp i a + 1) (skp j b + 1) := det_congr _ fun a _ b _ => by
    show M (skp (i + 1) (a + 1)) (skp j b + 1) = _;have : skp (i + 1) (a + 1) = skp i a + 1 := by unfold skp; (repeat' split) <;> omega
    rw [this]
   rw [e2];have e3 : minor M (i + 1) 0 j = M 0 (j + 1) := by
    show M (skp (i + 1) 0) (j + 1) = _;have : skp (i + 1) 0 = 0 := by unfold skp; rw [if_pos (by omega)]
    rw [this]
   rw [e3]
   ac_rfl
  have f1 : (sm (n + 1) fun j => sgn (j + 1) * M 0 (j + 1) * det (n + 1) fun a b => M (a + 1) (skp (j + 1) b)) = sm (n + 1) fun j => sm (n + 1) fun i => sgn (i + 1) * sgn j * M (i + 1) 0 * M 0 (j + 1) * det n fun a b => M (skp i a + 1) (skp j b + 1) := sm_congr fun j _ => by
   have f2 : (det (n + 1) fun a b => M (a + 1) (skp (j + 1) b)) = sm (n + 1) fun i => sgn i * M (i + 1) 0 * det n fun a b => M (skp i a + 1) (skp j b + 1) := by
    show (sm (n + 1) fun i => sgn i * M (i + 1) (skp (j + 1) 0) * det n (minor (fun a b => M (a + 1) (skp (j + 1) b)) i)) = _;refine sm_congr fun i _ => ?_;have g1 : skp (j + 1) 0 = 0 := by unfold skp; rw [if_pos (by omega)]
    rw [g1];congr 1;refine det_congr _ fun a _ b _ => ?_;show M (skp i a + 1) (skp (j + 1) (b + 1)) = _;have : skp (j + 1) (b + 1) = skp j b + 1 := by unfold skp; (repeat' split) <;> omega
    rw [this]
   rw [f2, <- sm_mul];refine sm_congr fun i _ => ?_;rw [sgn_succ j, sgn_succ i];simp only [Int.neg_mul, Int.mul_neg];refine congrArg _ ?_
   ac_rfl
  rw [e1, f1, sm_comm]
theorem det_tp : ∀ (n : Nat) (M : Mx), det n (tp M) = det n M
 | 0, _ => rfl
 | n + 1, M => by
  rw [det_row n M];show (sm (n + 1) fun i => sgn i * tp M i 0 * det n (minor (tp M) i)) = _;refine sm_congr fun i _ => ?_;rw [<- det_tp n fun a b => M (a + 1) (skp i b)];rfl
theorem pig (k q : Nat) (hk : k < q) (σ : Nat -> Nat) (h : ∀ a < q, σ a < k) : ∃ a b, a < b /\ b < q /\ σ a = σ b := Classical.byContradiction fun hn => by
 obtain ⟨i, hi, e⟩ := onto k σ (fun i hi => h i (by omega)) (fun i hi j hj e => Classical.byContradiction fun hij => by
  rcases Nat.lt_or_gt_of_ne hij with q' | q'
  · exact hn ⟨i, j, q', by omega, e⟩
  · exact hn ⟨j, i, q', by omega, e.symm⟩) (σ k) (h k hk)
 exact hn ⟨i, k, hi, hk, e⟩
theorem det_scale (n : Nat) (D : Int) (B : Mx) : ∀ s, s <= n -> det n (fun a b => if a < s then D * B a b else B a b) = D ^ s * det n B
 | 0, _ => by simp
 | s + 1, hs => by
  have e : (fun a b => if a < s + 1 then D * B a b else B a b) = upd (fun a b => if a < s then D * B a b else B a b) s (fun b => D * B s b) := by
   funext a b;unfold upd;by_cases h : a = s
   · subst h; simp
   · rw [if_neg h];show _ = if a < s then D * B a b else B a b;by_cases h2 : a < s
     · rw [if_pos h2, if_pos (by omega)]
     · rw [if_neg h2, if_neg (by omega)]
  have e2 : upd (fun a b => if a < s then D * B a b else B a b) s (B s) = fun a b => if a < s then D * B a b else B a b := by
   funext a b;unfold upd;by_cases h : a = s
   · subst h; simp
   · rw [if_neg h]
  rw [e, det_smul n _ s D (B s) (by omega), e2, det_scale n D B s (by omega), Int.pow_succ]
  ac_rfl
theorem det_scaled (n : Nat) (D : Int) (B : Mx) : det n (fun a b => D * B a b) = D ^ n * det n B := by
 rw [<- det_scale n D B n (Nat.le_refl _)];exact det_congr n fun a ha b _ => by rw [if_pos ha]
theorem det_few {k q : Nat} {D : Int} (hD : D ≠ 0) (hk : k < q) {A B : Mx} (h : ∀ a < q, Sp k A fun j => D * B a j) : det q B = 0 := by
 have h1 : (0 : Int) ∣ det q fun a b => D * B a b := dvd_rows (A := A) (r := k) (fun σ hσ => by
  obtain ⟨a, b, hab, hb, e⟩ := pig k q hk σ hσ;exact Int.zero_dvd.2 (det_alike q _ (k := a) (l := b) (by omega) hb (by omega) fun j => by rw [e])) h
 have h2 := Int.zero_dvd.1 h1;rw [det_scaled] at h2;rcases Int.mul_eq_zero.1 h2 with e | e
 · exact absurd e (Int.pow_ne_zero hD)
 · exact e
section
variable {n m : Nat} {A : Mx} {k : Nat} {nu cs : Nat -> Nat} {R : Mx} {d : Int}
theorem BrI.span (h : BrI n m A m k nu cs R d) (hA : ∀ i j, m <= j -> A i j = 0) {i : Nat} (hi : i < n) : Sp k (fun t => A (nu t)) fun j => d * A i j := by
 obtain ⟨s, hs, e⟩ := onto n nu h.lt h.inj i hi;by_cases hk : s < k
 · refine ⟨fun t => if t = s then d else 0, fun j => ?_⟩;rw [sm_one s hk fun t _ hn => by show (if t = s then d else 0) * _ = 0; rw [if_neg hn, Int.zero_mul]];show d * A i j = (if s = s then d else 0) * A (nu s) j;rw [if_pos rfl, e]
 · obtain ⟨y, hy⟩ := mn_lin k A nu cs i;refine ⟨fun t => - y t, fun j => ?_⟩;have h1 : mn k A nu cs i j = 0 := by
    by_cases hj : j < m
    · have h2 := h.row s (by omega) hs j hj;rw [h.z s (by omega) hs j hj, e] at h2;exact h2.symm
    · have h3 := hy j;rw [hA i j (by omega), Int.mul_zero, Int.zero_add] at h3;rw [h3];exact sm_zero fun t _ => by rw [hA _ j (by omega), Int.mul_zero]
   have h4 := hy j;rw [h1, <- h.dE] at h4;have h5 : (sm k fun t => - y t * A (nu t) j) = - sm k fun t => y t * A (nu t) j := by
    have := sm_mul k (-1) fun t => y t * A (nu t) j;rw [show (-1 : Int) * (sm k fun t => y t * A (nu t) j) = - sm k fun t => y t * A (nu t) j by omega] at this;rw [<- this];exact sm_congr fun t _ => by rw [Int.neg_mul]; omega
   show d * A i j = _;rw [h5]; omega
theorem BrI.some (h : BrI n m A m k nu cs R d) : ¬ Mn k 0 n m A := fun q =>
 h.d0 (h.dE.trans (Int.zero_dvd.1 (q nu cs (fun a ha => h.lt a (by have := h.kn; omega)) fun b hb => h.csl b hb)))
theorem BrI.none (h : BrI n m A m k nu cs R d) (hA : ∀ i j, m <= j -> A i j = 0) {q : Nat} (hq : k < q) : Mn q 0 n m A := fun σ τ hσ hτ =>
 Int.zero_dvd.2 (det_few h.d0 hq (A := fun t b => A (nu t) (τ b)) fun a ha => by
  obtain ⟨y, hy⟩ := h.span hA (hσ a ha);exact ⟨y, fun b => hy (τ b)⟩)
end
def cntN (d : Nat -> Nat) : Nat -> Nat
 | 0 => 0
 | k + 1 => cntN d k + if d k = 0 then 0 else 1
theorem cntN_le (d : Nat -> Nat) : ∀ k, cntN d k <= k
 | 0 => Nat.le_refl _
 | k + 1 => by
  have := cntN_le d k;show cntN d k + (if d k = 0 then 0 else 1) <= k + 1;split <;> omega
theorem cntN_spec {d : Nat -> Nat} (hd : ∀ a b, a <= b -> d a ∣ d b) : ∀ k, (∀ i < cntN d k, d i ≠ 0) /\ ∀ i, cntN d k <= i -> i < k -> d i = 0
 | 0 => ⟨fun i hi => by simp [cntN] at hi, fun i _ h => by omega⟩
 | k + 1 => by
  obtain ⟨h1, h2⟩ := cntN_spec hd k;have hl := cntN_le d k;by_cases h : d k = 0
  · have e : cntN d (k + 1) = cntN d k := by show cntN d k + (if d k = 0 then 0 else 1) = _; rw [if_pos h]; rfl
    rw [e];exact ⟨h1, fun i q1 q2 => by
     by_cases q : i = k
     · rw [q]; exact h
     · exact h2 i q1 (by omega)⟩
  · have e : cntN d (k + 1) = cntN d k + 1 := by show cntN d k + (if d k = 0 then 0 else 1) = _; rw [if_neg h]
    have e2 : cntN d k = k := by
     rcases Nat.lt_or_eq_of_le hl with q | q
     · have h3 := h2 (cntN d k) (Nat.le_refl _) q;have h4 := hd (cntN d k) k hl;rw [h3] at h4;exact absurd (Nat.eq_zero_of_zero_dvd h4) h
     · exact q
    rw [e, e2];exact ⟨fun i hi => by
     by_cases q : i = k
     · rw [q]; exact h
     · exact h1 i (by omega), fun i q1 q2 => by omega⟩
theorem prodN_ne {d : Nat -> Nat} : ∀ k, (∀ i < k, d i ≠ 0) -> prodN k d ≠ 0
 | 0, _ => by simp [prodN]
 | k + 1, h => Nat.mul_ne_zero (prodN_ne k fun i hi => h i (by omega)) (h k (by omega))
theorem prodN_at {d : Nat -> Nat} {q : Nat} (h : d q = 0) : ∀ k, q < k -> prodN k d = 0
 | 0, hk => by omega
 | k + 1, hk => by
  show prodN k d * d k = 0;by_cases e : q = k
  · rw [<- e, h, Nat.mul_zero]
  · rw [prodN_at h k (by omega), Nat.zero_mul]
theorem chn_dvd {l : List Nat} (h : Chn l) : ∀ a b, a <= b -> l.getD a 0 ∣ l.getD b 0 := fun a b hab => by
 have e : ∀ i, l.getD i 0 = if i < l.length then l.getD i 0 else 0 := fun i => by
  split
  · rfl
  · simp [show l.length <= i by omega]
 rw [e a, e b];exact chn_get h a b hab
section
variable {r c : Nat} {xs : List Int} {R : List Nat}
theorem Smf.mn (h : Smf r c xs R) (k : Nat) (x : Int) : Mn k x r c (matE xs r c) ↔ Mn k x r c (Dgm fun i => R.getD i 0) := h.2.2.sm k x
theorem Smf.rank (h : Smf r c xs R) {k : Nat} {cs : Nat -> Nat} (hp : ∃ nu T d, BrI r c (matE xs r c) c k nu cs T d) : cntN (fun i => R.getD i 0) R.length = k := by
 obtain ⟨nu, T, d, hb⟩ := hp;have hd := chn_dvd h.2.1;obtain ⟨h1, h2⟩ := cntN_spec hd R.length;have hl := cntN_le (fun i => R.getD i 0) R.length;have hR := h.1;obtain ⟨Z, hZ⟩ : ∃ Z, cntN (fun i => R.getD i 0) R.length = Z := ⟨_, rfl⟩;rw [hZ] at h1 h2 hl ⊢;rcases Nat.lt_trichotomy Z k with q | q | q
 · exfalso;refine hb.some ((h.mn k 0).2 ?_);have h3 := mn_diag hd k r c;have h4 : (fun i => R.getD i 0) Z = 0 := by
    by_cases g : Z < R.length
    · exact h2 _ (Nat.le_refl _) g
    · show R.getD _ 0 = 0;rw [List.getD_eq_getElem?_getD, List.getElem?_eq_none (Nat.le_of_not_lt g)];rfl
   rw [prodN_at (d := fun i => R.getD i 0) (q := Z) h4 k q] at h3;exact h3
 · exact q
 · exfalso;have h3 := (h.mn _ 0).1 (hb.none (fun i j hj => matE_col i hj) q) (fun a => a) (fun a => a) (fun a ha => by omega) fun a ha => by omega
   have h4 := congrArg Int.natAbs (Int.zero_dvd.1 h3);rw [show (fun a b => Dgm (fun i => R.getD i 0) a b) = Dgm fun i => R.getD i 0 from rfl, diag_id] at h4;exact prodN_ne _ h1 h4
theorem Eqv.det {n : Nat} {A B : Mx} (h : Eqv n n A B) : (Go.Proofs.YtcpjoiffkniccaaGreat.det n A).natAbs = (Go.Proofs.YtcpjoiffkniccaaGreat.det n B).natAbs := by
 induction h with
 | refl A => rfl
 | rows h => exact det_lattice n h
 | cols h =>
  rw [<- det_tp n, det_lattice n h, det_tp]
 | trans _ _ h1 h2 => exact h1.trans h2
theorem Smf.det {n : Nat} (h : Smf n n xs R) : prodN n (fun i => R.getD i 0) = (Go.Proofs.YtcpjoiffkniccaaGreat.det n (matE xs n n)).natAbs := by
 rw [h.2.2.det];exact (diag_id _ n).symm
theorem fg_dvd : ∀ (l : List Nat) (a : Nat), l.foldl Nat.gcd a ∣ a /\ ∀ x ∈ l, l.foldl Nat.gcd a ∣ x
 | [], a => ⟨Nat.dvd_refl _, fun x hx => by cases hx⟩
 | y :: l, a => by
  obtain ⟨h1, h2⟩ := fg_dvd l (Nat.gcd a y);refine ⟨Nat.dvd_trans h1 (Nat.gcd_dvd_left a y), fun x hx => ?_⟩;rcases List.mem_cons.1 hx with rfl | hx
  · exact Nat.dvd_trans h1 (Nat.gcd_dvd_right a x)
  · exact h2 x hx
theorem dvd_fg {d : Nat} : ∀ (l : List Nat) (a : Nat), d ∣ a -> (∀ x ∈ l, d ∣ x) -> d ∣ l.foldl Nat.gcd a
 | [], _, h, _ => h
 | y :: l, a, h, h2 => dvd_fg l _ (Nat.dvd_gcd h (h2 y (by simp))) fun x hx => h2 x (by simp [hx])
theorem det1 (M : Mx) : Go.Proofs.YtcpjoiffkniccaaGreat.det 1 M = M 0 0 := by
 show 0 + sgn 0 * M 0 0 * 1 = _;rw [show sgn 0 = 1 by decide]; omega
theorem Smf.head (h : Smf r c xs R) (hs : xs.length = r * c) (h0 : 0 < R.length) : R.getD 0 0 = (xs.map Int.natAbs).foldl Nat.gcd 0 := by
 have hR := h.1;have hd := chn_dvd h.2.1;refine Nat.dvd_antisymm ?_ ?_
 · refine dvd_fg _ _ (Nat.dvd_zero _) fun x hx => ?_;obtain ⟨y, hy, rfl⟩ := List.mem_map.1 hx;obtain ⟨t, ht, rfl⟩ := List.getElem_of_mem hy;rw [hs] at ht;have hc : 0 < c := by
    rcases Nat.eq_zero_or_pos c with e | e
    · subst e; omega
    · exact e
   have g1 : t / c < r := Nat.div_lt_of_lt_mul (by rw [Nat.mul_comm]; exact ht);have g2 := Nat.mod_lt t hc;have h3 := (h.mn 1 _).2 (mn_diag hd 1 r c) (fun _ => t / c) (fun _ => t % c) (fun _ _ => g1) fun _ _ => g2;rw [det1, matE_eq g1 g2, show t / c * c + t % c = t by rw [Nat.mul_comm]; exact Nat.div_add_mod t c, show prodN 1 (fun i => R.getD i 0) = R.getD 0 0 by show 1 * R.getD 0 0 = _; rw [Nat.one_mul]] at h3;have h4 := Int.natAbs_dvd_natAbs.2 h3;rw [Int.natAbs_natCast, show xs.getD t 0 = xs[t] by simp [show t < xs.length by omega]] at h4;exact h4
 · have h1 : Mn 1 (((xs.map Int.natAbs).foldl Nat.gcd 0 : Nat) : Int) r c (matE xs r c) := fun σ τ hσ hτ => by
    have g1 := hσ 0 (by omega);have g2 := hτ 0 (by omega);rw [det1, matE_eq g1 g2];have g3 : σ 0 * c + τ 0 < xs.length := by rw [hs]; exact idx_lt g1 g2
    have g4 := (fg_dvd (xs.map Int.natAbs) 0).2 (xs[σ 0 * c + τ 0]).natAbs (List.mem_map.2 ⟨_, List.getElem_mem g3, rfl⟩);rw [show xs.getD (σ 0 * c + τ 0) 0 = xs[σ 0 * c + τ 0] by simp [g3]];exact Int.ofNat_dvd_left.2 g4
   have h2 := (h.mn 1 _).1 h1 (fun a => a) (fun a => a) (fun a ha => by omega) fun a ha => by omega
   rw [det1] at h2;have h3 := Int.natAbs_dvd_natAbs.2 h2;rw [Int.natAbs_natCast] at h3;simpa [Dgm] using h3
end
end Go.Proofs.YtcpjoiffkniccaaGreat
namespace Go.Proofs.YtcpjoiffkniccaaGreat
open Go.RowKit
theorem diagL_tabH {r c k : Nat} {xs : List Int} (hr : k <= r) (hc : k <= c) (h : xs.length = k) : diagL c k (tabK c (diagF xs) (r * c)) = xs := by
 refine List.ext_getElem (by rw [diagL_length, h]) fun i h1 h2 => ?_;have hi : i < k := by rw [diagL_length] at h1; exact h1
 have e := gi_diagL (c := c) (xs := tabK c (diagF xs) (r * c)) hi;rw [gi_eq h1] at e;rw [e];have := tabK_matE (r := r) (c := c) (i := i) (j := i) (diagF xs) (by omega) (by omega);unfold gi;rw [this, diagF, if_pos ⟨rfl, h2⟩, gi_eq h2]
set_option maxRecDepth 100000 in
set_option maxHeartbeats 4000000 in
theorem SForm3_c (r c m : Nat) (ao : Option Addr) (cap : Nat) (xs : List Int) (w : World) (hr : r <= 64) (hc : c <= 64) (h : LsAt w 17592186044415 ao xs) (hm : ∀ x ∈ xs, x.natAbs < W ^ m) (hm1 : m <= 1048576) (hs : xs.length = r * c) :
 Calls Tryz.prog 14 #[.agg #[.int .i64 (r : Int), .int .i64 (c : Int), .slice ao (r * c) cap]] w fun e w' => (∃ p : (Option Addr × Nat) × List Nat, e = .returned (.tuple #[.agg #[.int .i64 (r : Int), .int .i64 (c : Int), .slice p.1.1 (r * c) p.1.2], .int .i64 0]) /\ LsN w' p.1.1 (tabK c (diagF (nt p.2)) (r * c)) /\ (Smf r c xs p.2 /\ ∀ y ∈ p.2, wlen y <= 8900000000) /\ ∀ b o, p.1.1 = some ⟨b, o, none⟩ -> w.heap.size <= b) /\ Below w.heap.size w w' := by
 have hF := fun w' h => Form_n r c m ao cap xs w' hr hc h hm (by omega) hs;have ehw : hW m = 132 * m + 133 := by unfold hW hermW; omega
 have hm2 : hW m <= 140000000 := by rw [ehw]; omega
 have hm3 : hW m * 64 + 1 <= 8900000000 := by rw [ehw]; omega
 clear ehw;have hT := fun w' ao cap (hs' : List Int) h (hB : ∀ x ∈ hs', x.natAbs < W ^ hW m) (hl : hs'.length = r * c) => STurned_c r c (hW m) ao cap hs' w' hr hc h hB hm2 hl;have hF2 := fun w' ao cap (hs' : List Int) h (hB : ∀ x ∈ hs', x.natAbs < W ^ hW m) (hl : hs'.length = r * c) => Form_n r c (hW m) ao cap hs' w' hr hc h hB hm2 hl;have hI0 : ∀ (hs' : List Int) k l (b : Nat), IsHnf r c xs hs' k l -> (∀ x ∈ hs', x.natAbs < W ^ hW m) -> F3I r c m xs ⟨false, 130 * Dp m + 4, some ⟨b, 0, none⟩, r * c, hs'⟩ := fun hs' k l b h1 h2 => F3I.start h1 h2;have hbn : ∀ b n qo qc (hs' : List Int), F3I r c m xs ⟨b, n, qo, qc, hs'⟩ -> ∀ x ∈ hs', x.natAbs < W ^ hW m := fun b n qo qc hs' h => h.bnd;have htu := fun n qo qc (hs' : List Int) (h : F3I r c m xs ⟨false, n, qo, qc, hs'⟩) (hd : ¬ IsDg r c hs') ts k l (hT : IsHnf c r (trn r c hs') ts k l) qo' qc' => h.turn (ao' := qo') (cap' := qc') hr hm hd hT;obtain ⟨M, hM⟩ : ∃ M, hW m = M := ⟨_, rfl⟩;rw [hM] at hF hT hF2 hI0 hbn hm2 hm3;obtain ⟨N0, hN0⟩ : ∃ N, 130 * Dp m + 4 = N := ⟨_, rfl⟩;rw [hN0] at hI0;have HF := Lib.hid hF;have HT := Lib.hid hT;have HF2 := Lib.hid hF2;have HI0 := Lib.hid (And.intro hI0 (And.intro hbn htu));have hrc : r * c <= 4096 := Nat.mul_le_mul hr hc;clear hs hm hM hN0 hF hT hF2 hI0 hbn htu hm1;refine funW (S0 := fun _ => False) Tryz.func14 ((Fr.nil _ w).l h (by simp)) ?_;refine goW ?_;refine rW [] ?_;refine aW fun g1 => ?_;refine aW fun g2 => ?_;refine dW ?_;refine eW ?_;refine goW ?_;refine rW [] ?_;refine dW ?_;refine cLn (α := Nat × List Int) (mk := fun p => .tuple #[.agg #[.int .i64 (r : Int), .int .i64 (c : Int), .slice (some ⟨p.1, 0, none⟩) (r * c) (r * c)], .int .i64 0]) (ao := fun p => some ⟨p.1, 0, none⟩) (xs := fun p => p.2) (A := fun p => (∃ k l, IsHnf r c xs p.2 k l) /\ p.2.length = r * c /\ ∀ x ∈ p.2, x.natAbs < W ^ M) (fun w' H => HF.out w' H.m2) fun p => ?_;obtain ⟨b, hs⟩ := p;refine dW ?_;refine dW ?_;refine dW ?_;refine aW fun g4 => ?_;refine sG ?_;refine dW ?_;refine eW ?_;refine goW ?_;refine prW (A := ((∃ k l, IsHnf r c xs hs k l) /\ hs.length = r * c /\ ∀ x ∈ hs, x.natAbs < W ^ M) /\ ∀ b' o, some (⟨b, 0, none⟩ : Addr) = some ⟨b', o, none⟩ -> w.heap.size <= b') (by simp) fun hA => ?_;have HI : Hid (F3I r c m xs ⟨false, N0, some ⟨b, 0, none⟩, r * c, hs⟩) := Lib.hid (by obtain ⟨⟨⟨k, l, q⟩, _, q2⟩, _⟩ := hA; exact HI0.out.1 hs k l b q q2);clear hA;refine rW [] ?_;refine dW ?_;refine dB false ?_;refine eW ?_;refine goW ?_;refine cfW ?_;refine goW ?_;refine rW [] ?_;refine dW ?_;refine eW ?_;refine goW ?_;refine loopW (X := F3X) (F3I r c m xs) (fun z => z.n) (fun z => [(6, .bool z.rows), (4, .pointer (some ⟨g4, 0, none⟩)), (2, .pointer (some ⟨g2, 0, none⟩)), (1, .pointer (some ⟨g1, 0, none⟩))])
  (fun z => [.row g4 24 [.int .i64 (r : Int), .int .i64 (c : Int), .slice z.ao (r * c) z.cap], .row g2 24 [.int .i64 0, .int .i64 0, .slice none 0 0], .row g1 24 [.int .i64 (r : Int), .int .i64 (c : Int), .slice ao (r * c) cap], .lsn z.ao z.hs]) ⟨false, N0, some ⟨b, 0, none⟩, r * c, hs⟩ HI.out fun z hz => ?_
 clear HI;obtain ⟨rows, n, qo, qc, hs⟩ := z;have hl : hs.length = r * c := hz.len;have hB2 : ∀ x ∈ hs, x.natAbs < W ^ M := HI0.out.2.1 rows n qo qc hs hz;have HZ : Hid (F3I r c m xs ⟨rows, n, qo, qc, hs⟩) := Lib.hid hz;have hAt : ∀ w', LsN w' qo hs -> LsAt w' 17592186044415 qo hs := fun w' h => lsN_at h hB2 (by omega);have HAT := Lib.hid hAt;have hdgv := fun t ht w' (h : LsN w' qo hs) => SDiag_v (r := r) (c := c) (cap := qc) (xs := hs) t hr hc (hAt w' h) (Nat.le_refl _) hl ht;rw [hl] at hdgv;have HDV := Lib.hid hdgv;clear hdgv hAt hz;by_cases hdg : IsDg r c hs
 · have HSM := Lib.hid (HZ.out.fin hdg);have HH : Hid (IsDg r c hs /\ hs.length = r * c) := Lib.hid ⟨hdg, hl⟩;have hkr : min r c <= 64 := Nat.le_trans (Nat.min_le_left ..) hr;have HDN : Hid (∀ w', LsN w' qo hs -> Calls Tryz.prog 17 #[.agg #[.int .i64 (r : Int), .int .i64 (c : Int), .slice qo (r * c) qc]] w' fun e w'' => (∃ q : Nat, e = .returned (.slice (some ⟨q, 0, none⟩) (min r c) (min r c)) /\ LsN w'' (some ⟨q, 0, none⟩) (diagL c (min r c) hs) /\ True /\ ∀ b o, some (⟨q, 0, none⟩ : Addr) = some ⟨b, o, none⟩ -> w'.heap.size <= b) /\ Below w'.heap.size w' w'') := Lib.hid fun w' h1 => by
    have := SList_c r c qo qc 17592186044415 hs w' hr hc (HAT.out w' h1) (Nat.le_refl _) HH.out.2;rw [HH.out.2] at this;exact this.mono fun e w'' ⟨⟨q, he, hq, hR⟩, hb⟩ => ⟨⟨q, he, hR.lsN, trivial, fun b' o e => by cases e; exact hq⟩, hb⟩
   have hdl : ∀ x ∈ diagL c (min r c) hs, x.natAbs < W ^ M := fun x hx => by
    unfold diagL at hx;obtain ⟨i, hi, rfl⟩ := List.mem_map.1 hx;have hi := List.mem_range.1 hi;refine hB2 _ (gi_mem ?_);rw [HH.out.2];exact idxL (by have := Nat.min_le_left r c; omega) (by have := Nat.min_le_right r c; omega)
   have hP : wlen (prodNZ (diagN c (min r c) hs)) <= 8900000000 := by
    have h1 := prodNZ_lt M (diagN c (min r c) hs) (fun x hx => by
     unfold diagN at hx;obtain ⟨y, hy, rfl⟩ := List.mem_map.1 hx;exact hdl y hy)
    have h2 : (diagN c (min r c) hs).length = min r c := by rw [diagN, List.length_map, diagL_length]
    rw [h2] at h1;have h3 : M * min r c <= M * 64 := Nat.mul_le_mul_left _ hkr;have h4 := wlen_le_of_lt (Nat.lt_of_le_of_lt h1 (Nat.pow_lt_pow_right (by decide : 1 < W) (Nat.lt_succ_self (M * min r c))));omega
   have hcl : (chProg (diagN c (min r c) hs)).length = min r c := by rw [chProg_ref, chRef_length, diagN, List.length_map, diagL_length]
   have HCH : Hid (∀ w' q, LsN w' (some ⟨q, 0, none⟩) (diagL c (min r c) hs) -> Calls Tryz.prog 34 #[.slice (some ⟨q, 0, none⟩) (min r c) (min r c)] w' fun e w'' => (∃ q2 : Nat, e = .returned (.slice (some ⟨q2, 0, none⟩) (min r c) (min r c)) /\ LsN w'' (some ⟨q2, 0, none⟩) (nt (chProg (diagN c (min r c) hs))) /\ True /\ ∀ b o, some (⟨q2, 0, none⟩ : Addr) = some ⟨b, o, none⟩ -> w'.heap.size <= b) /\ Below w'.heap.size w' w'') := Lib.hid fun w' q h1 => by
    have := SChain_c (some ⟨q, 0, none⟩) (min r c) 17592186044415 (diagL c (min r c) hs) w' (h1.lsAt fun x hx => Nat.le_trans (wlen_le_of_lt (hdl x hx)) (by omega)) (Nat.le_refl _) (by rw [diagL_length]; omega) (Nat.le_trans hP (by omega));rw [diagL_length] at this;exact this.mono fun e w'' ⟨⟨q2, he, hq, hR⟩, hb⟩ => ⟨⟨q2, he, hR.lsN, trivial, fun b' o e => by cases e; exact hq⟩, hb⟩
   have hnN : ∀ y ∈ chProg (diagN c (min r c) hs), wlen y <= 8900000000 := fun y hy => by
    have := chProg_dv (P := prodNZ (diagN c (min r c) hs)) (fun z hz => Dv.of_mem hz) y hy;exact Nat.le_trans (wlen_mono (this.le (prodNZ_pos _))) (Nat.le_trans hP (by omega))
   have hnl : ∀ x ∈ nt (chProg (diagN c (min r c) hs)), wlen x.natAbs <= 17592186044415 := fun x hx => by
    unfold nt at hx;obtain ⟨y, hy, rfl⟩ := List.mem_map.1 hx;exact Nat.le_trans (hnN y hy) (by omega)
   have HDG : Hid (∀ w' q, LsN w' (some ⟨q, 0, none⟩) (nt (chProg (diagN c (min r c) hs))) -> Calls Tryz.prog 33 #[.int .i64 (r : Int), .int .i64 (c : Int), .slice (some ⟨q, 0, none⟩) (min r c) (min r c)] w' fun e w'' => (∃ p : Option Addr × Nat, e = .returned (.tuple #[.agg #[.int .i64 (r : Int), .int .i64 (c : Int), .slice p.1 (r * c) p.2], .int .i64 0]) /\ LsN w'' p.1 (tabK c (diagF (nt (chProg (diagN c (min r c) hs)))) (r * c)) /\ True /\ ∀ b o, p.1 = some ⟨b, o, none⟩ -> w'.heap.size <= b) /\ Below w'.heap.size w' w'') := Lib.hid fun w' q h1 => by
    have := MDiag_c r c (some ⟨q, 0, none⟩) (min r c) 17592186044415 (nt (chProg (diagN c (min r c) hs))) w' hr hc (by rw [nt_length, hcl]; exact Nat.le_refl _) (h1.lsAt hnl) (Nat.le_refl _);rw [nt_length, hcl] at this;exact this
   have HNN := Lib.hid hnN;obtain ⟨R, hR⟩ : ∃ R, chProg (diagN c (min r c) hs) = R := ⟨_, rfl⟩;rw [hR] at HCH HDG hcl HSM HNN;have HRL := Lib.hid hcl;clear hcl hnl hnN hP hdl hkr hR hB2 hdg hl;obtain ⟨k, hk⟩ : ∃ k, min r c = k := ⟨_, rfl⟩;rw [hk] at HDN HCH HDG HRL;clear hk;refine goW ?_;refine rW [] ?_;refine dW ?_;refine cV (v := .bool true) (fun w' H => HDV.out true ⟨fun _ => HH.out.1, fun _ => rfl⟩ w' H.m3) ?_;refine dW ?_;refine eW ?_;refine goW ?_;refine cfW ?_;refine goW ?_;refine rW [] ?_;refine dW ?_;refine dW ?_;refine dW ?_;refine dW ?_;refine dW ?_;refine cLn (α := Nat) (mk := fun q => .slice (some ⟨q, 0, none⟩) k k) (ao := fun q => some ⟨q, 0, none⟩) (xs := fun _ => diagL c k hs) (A := fun _ => True) (fun w' H => HDN.out w' H.m3) fun q1 => ?_;refine cLn (α := Nat) (mk := fun q => .slice (some ⟨q, 0, none⟩) k k) (ao := fun q => some ⟨q, 0, none⟩) (xs := fun _ => nt R) (A := fun _ => True) (fun w' H => HCH.out w' q1 H.m0) fun q2 => ?_;refine cLn (α := Option Addr × Nat) (mk := fun p => .tuple #[.agg #[.int .i64 (r : Int), .int .i64 (c : Int), .slice p.1 (r * c) p.2], .int .i64 0]) (ao := fun p => p.1) (xs := fun _ => tabK c (diagF (nt R)) (r * c)) (A := fun _ => True) (fun w' H => HDG.out w' q2 H.m0) fun q3 => ?_;refine dW ?_;refine dW ?_;refine sW ?_;refine dW ?_;refine eW ?_;refine goW ?_;refine fin2 fun w' H => ?_;exact ⟨_, _, rvM H.m7, rvT, ⟨(q3, R), rfl, H.m0, ⟨HSM.out, HNN.out⟩, (show True /\ ∀ b o, q3.1 = some ⟨b, o, none⟩ -> w.heap.size <= b from H.m1).2⟩, H.below⟩
 · have HND := Lib.hid hdg;have HT1 := Lib.hid (fun w' (h : LsN w' qo hs) => HT.out w' qo qc hs (HAT.out w' h) hB2 hl);have HF1 := Lib.hid (fun w' (h : LsN w' qo hs) => HF2.out w' qo qc hs (HAT.out w' h) hB2 hl);clear hdg hl hB2;refine goW ?_;refine rW [] ?_;refine dW ?_;refine cV (v := .bool false) (fun w' H => HDV.out false ⟨(fun q => nomatch q), fun q => absurd q HND.out⟩ w' H.m3) ?_;by_cases hrows : rows = true
   · subst hrows;refine dW ?_;refine eW ?_;refine goW ?_;refine ctW ?_;refine goW ?_;refine rW [] ?_;refine dW ?_;refine eW ?_;refine goW ?_;refine ctW ?_;refine goW ?_;refine rW [] ?_;refine dW ?_;refine cLn (α := Nat × List Int) (mk := fun p => .tuple #[.agg #[.int .i64 (r : Int), .int .i64 (c : Int), .slice (some ⟨p.1, 0, none⟩) (r * c) (r * c)], .int .i64 0]) (ao := fun p => some ⟨p.1, 0, none⟩) (xs := fun p => p.2) (A := fun p => (∃ k l, IsHnf r c hs p.2 k l) /\ p.2.length = r * c /\ ∀ x ∈ p.2, x.natAbs < W ^ hW M) (fun w' H => HF1.out w' H.m3) fun p => ?_;obtain ⟨b2, ts⟩ := p;refine dW ?_;refine dW ?_;refine dW ?_;refine sW ?_;refine eW ?_;refine goW ?_;refine prW (A := ((∃ k l, IsHnf r c hs ts k l) /\ ts.length = r * c /\ ∀ x ∈ ts, x.natAbs < W ^ hW M) /\ ∀ b' o, some (⟨b2, 0, none⟩ : Addr) = some ⟨b', o, none⟩ -> w.heap.size <= b') (by simp) fun hA => ?_;obtain ⟨n', hn, hI⟩ : ∃ n', n' < n /\ F3I r c m xs ⟨false, n', some ⟨b2, 0, none⟩, r * c, ts⟩ := by obtain ⟨⟨⟨k, l, q⟩, _⟩, _⟩ := hA; exact HZ.out.form HND.out q
     have HI := Lib.hid (And.intro hI hn);clear hA hI hn;refine rW [] ?_;refine dW ?_;refine dW ?_;refine dW ?_;refine eW ?_;refine goW ?_;exact backW (⟨false, n', some ⟨b2, 0, none⟩, r * c, ts⟩ : F3X) ⟨HI.out.1, HI.out.2⟩
   · obtain rfl : rows = false := by simpa using hrows
     clear hrows;refine dW ?_;refine eW ?_;refine goW ?_;refine ctW ?_;refine goW ?_;refine rW [] ?_;refine dW ?_;refine eW ?_;refine goW ?_;refine cfW ?_;refine goW ?_;refine rW [] ?_;refine dW ?_;refine cLn (α := List Int × Option Addr × Nat) (mk := fun p => .agg #[.int .i64 (r : Int), .int .i64 (c : Int), .slice p.2.1 (r * c) p.2.2]) (ao := fun p => p.2.1) (xs := fun p => trn c r p.1) (A := fun p => (∃ k l, IsHnf c r (trn r c hs) p.1 k l) /\ p.1.length = c * r /\ ∀ x ∈ p.1, x.natAbs < W ^ hW M) (fun w' H => HT1.out w' H.m3) fun p => ?_;obtain ⟨ts, tq, tc⟩ := p;refine sW ?_;refine eW ?_;refine goW ?_;refine prW (A := ((∃ k l, IsHnf c r (trn r c hs) ts k l) /\ ts.length = c * r /\ ∀ x ∈ ts, x.natAbs < W ^ hW M) /\ ∀ b' o, tq = some ⟨b', o, none⟩ -> w.heap.size <= b') (by simp) fun hA => ?_;obtain ⟨n', hn, hI⟩ : ∃ n', n' < n /\ F3I r c m xs ⟨true, n', tq, tc, trn c r ts⟩ := by obtain ⟨⟨⟨k, l, q⟩, _⟩, _⟩ := hA; exact HI0.out.2.2 n qo qc hs HZ.out HND.out ts k l q tq tc
     have HI := Lib.hid (And.intro hI hn);clear hA hI hn;refine rW [] ?_;refine dW ?_;refine dW ?_;refine dW ?_;refine eW ?_;refine goW ?_;exact backW (⟨true, n', tq, tc, trn c r ts⟩ : F3X) ⟨HI.out.1, HI.out.2⟩
set_option maxRecDepth 100000 in
set_option maxHeartbeats 1000000 in
theorem SFactors3_c (r c m : Nat) (ao : Option Addr) (cap : Nat) (xs : List Int) (w : World) (hr : r <= 64) (hc : c <= 64) (h : LsAt w 17592186044415 ao xs) (hm : ∀ x ∈ xs, x.natAbs < W ^ m) (hm1 : m <= 1048576) (hs : xs.length = r * c) :
 Calls Tryz.prog 5 #[.agg #[.int .i64 (r : Int), .int .i64 (c : Int), .slice ao (r * c) cap]] w fun e w' => (∃ q : Nat × List Nat, e = .returned (.tuple #[.slice (some ⟨q.1, 0, none⟩) (min r c) (min r c), .int .i64 0]) /\ LsN w' (some ⟨q.1, 0, none⟩) (nt q.2) /\ (Smf r c xs q.2 /\ ∀ y ∈ q.2, wlen y <= 8900000000) /\ ∀ b o, some (⟨q.1, 0, none⟩ : Addr) = some ⟨b, o, none⟩ -> w.heap.size <= b) /\ Below w.heap.size w w' := by
 have HF := Lib.hid (fun w' h => SForm3_c r c m ao cap xs w' hr hc h hm hm1 hs);clear hm hs;refine funW (S0 := fun _ => False) Tryz.func5 ((Fr.nil _ w).l h (by simp)) ?_;refine goW ?_;refine rW [] ?_;refine aW fun g1 => ?_;refine dW ?_;refine dW ?_;refine eW ?_;refine goW ?_;refine rW [] ?_;refine dW ?_;refine cLn (α := (Option Addr × Nat) × List Nat) (mk := fun p => .tuple #[.agg #[.int .i64 (r : Int), .int .i64 (c : Int), .slice p.1.1 (r * c) p.1.2], .int .i64 0]) (ao := fun p => p.1.1) (xs := fun p => tabK c (diagF (nt p.2)) (r * c)) (A := fun p => Smf r c xs p.2 /\ ∀ y ∈ p.2, wlen y <= 8900000000) (fun w' H => HF.out w' H.m1) fun p => ?_;refine dW ?_;refine dW ?_;refine dW ?_;refine aW fun g4 => ?_;refine sG ?_;refine dW ?_;refine eW ?_;refine goW ?_;refine prW (A := (Smf r c xs p.2 /\ ∀ y ∈ p.2, wlen y <= 8900000000) /\ ∀ b' o, p.1.1 = some ⟨b', o, none⟩ -> w.heap.size <= b') (by simp) fun hA => ?_;obtain ⟨⟨pa, pc⟩, R⟩ := p
 replace hA : (Smf r c xs R /\ ∀ y ∈ R, wlen y <= 8900000000) /\ ∀ b' o, pa = some ⟨b', o, none⟩ -> w.heap.size <= b' := hA
 have hL := fun w' h => SList_c r c pa pc 17592186044415 (tabK c (diagF (nt R)) (r * c)) w' hr hc h (Nat.le_refl _) (tabK_length ..);rw [tabK_length, diagL_tabH (Nat.min_le_left ..) (Nat.min_le_right ..) (by rw [nt_length]; exact hA.1.1.1)] at hL;have hbt : ∀ x ∈ tabK c (diagF (nt R)) (r * c), wlen x.natAbs <= 17592186044415 := fun x hx => by
  unfold tabK at hx;obtain ⟨q, hq, rfl⟩ := List.mem_map.1 hx;unfold diagF;split
  · rename_i h;have hm := gi_mem h.2;unfold nt at hm ⊢;obtain ⟨y, hy, he⟩ := List.mem_map.1 hm;rw [<- he]; exact Nat.le_trans (hA.1.2 y hy) (by omega)
  · simp [wlen_zero]
 have HL := Lib.hid (fun w' (h : LsN w' pa (tabK c (diagF (nt R)) (r * c))) => hL w' (h.lsAt hbt));have HS := Lib.hid hA.1;clear hA hL hbt;obtain ⟨k, hk⟩ : ∃ k, min r c = k := ⟨_, rfl⟩;rw [hk] at HL ⊢;clear hk;refine rW [] ?_;refine dW ?_;refine dB false ?_;refine eW ?_;refine goW ?_;refine cfW ?_;refine goW ?_;refine rW [] ?_;refine dW ?_;refine cLn (α := Nat) (mk := fun q => .slice (some ⟨q, 0, none⟩) k k) (ao := fun q => some ⟨q, 0, none⟩) (xs := fun _ => nt R) (A := fun _ => True) (fun w' H => (HL.out w' H.m1).mono fun e w'' ⟨⟨q, he, hq, hR⟩, hb⟩ => ⟨⟨q, he, hR.lsN, trivial, fun b' o e => by cases e; exact hq⟩, hb⟩) fun q => ?_;refine dW ?_;refine dW ?_;refine eW ?_;refine goW ?_;refine fin2 fun w' H => ?_;exact ⟨_, _, rvT, rvT, ⟨(q, R), rfl, H.m0, HS.out, (show True /\ ∀ b o, some (⟨q, 0, none⟩ : Addr) = some ⟨b, o, none⟩ -> w.heap.size <= b from H.m1).2⟩, H.below⟩
set_option maxRecDepth 100000 in
set_option maxHeartbeats 1000000 in
theorem HForm_u (r c : Int) (ao : Option Addr) (len cap : Nat) (w : World) (hr : -9223372036854775808 <= r /\ r <= 9223372036854775807) (hc : -9223372036854775808 <= c /\ c <= 9223372036854775807) (hs : soundM r c len = false) :
 Calls Tryz.prog 30 #[.agg #[.int .i64 r, .int .i64 c, .slice ao len cap]] w fun e w' => e = .returned (.tuple #[.agg #[.int .i64 0, .int .i64 0, .slice none 0 0], .int .i64 1]) /\ Below w.heap.size w w' := by
 have hC := fun w' => Check_c r c ao len cap w' hr hc;rw [chkM_bad hs] at hC;have HC := Lib.hid hC;clear hC hs;refine funW (S0 := fun _ => False) Tryz.func30 (Fr.nil _ w) ?_;refine goW ?_;refine rW [] ?_;refine aW fun g1 => ?_;refine aW fun g2 => ?_;refine dW ?_;refine eW ?_;refine goW ?_;refine rW [] ?_;refine dW ?_;refine cV (v := .int .i64 1) (fun w' H => HC.out w') ?_;refine dW ?_;refine eW ?_;refine goW ?_;refine rW [] ?_;refine dW ?_;refine dB true ?_;refine eW ?_;refine goW ?_;refine ctW ?_;refine goW ?_;refine rW [] ?_;refine dW ?_;refine dW ?_;refine sW ?_;refine dW ?_;refine eW ?_;refine goW ?_;refine fin2 fun w' H => ?_;exact ⟨_, _, rvM (H.all (.row g2 24 [.int .i64 0, .int .i64 0, .slice none 0 0]) (by simp)), rvT, rfl, H.below⟩
set_option maxRecDepth 100000 in
set_option maxHeartbeats 1000000 in
theorem SForm_u (r c : Int) (ao : Option Addr) (len cap : Nat) (w : World) (hr : -9223372036854775808 <= r /\ r <= 9223372036854775807) (hc : -9223372036854775808 <= c /\ c <= 9223372036854775807) (hs : soundM r c len = false) :
 Calls Tryz.prog 14 #[.agg #[.int .i64 r, .int .i64 c, .slice ao len cap]] w fun e w' => e = .returned (.tuple #[.agg #[.int .i64 0, .int .i64 0, .slice none 0 0], .int .i64 1]) /\ Below w.heap.size w w' := by
 have HC := Lib.hid (fun w' => HForm_u r c ao len cap w' hr hc hs);clear hs;refine funW (S0 := fun _ => False) Tryz.func14 (Fr.nil _ w) ?_;refine goW ?_;refine rW [] ?_;refine aW fun g1 => ?_;refine aW fun g2 => ?_;refine dW ?_;refine eW ?_;refine goW ?_;refine rW [] ?_;refine dW ?_;refine cV (v := .tuple #[.agg #[.int .i64 0, .int .i64 0, .slice none 0 0], .int .i64 1]) (fun w' H => HC.out w') ?_;refine dW ?_;refine dW ?_;refine dW ?_;refine aW fun g4 => ?_;refine sG ?_;refine dW ?_;refine eW ?_;refine goW ?_;refine rW [] ?_;refine dW ?_;refine dB true ?_;refine eW ?_;refine goW ?_;refine ctW ?_;refine goW ?_;refine rW [] ?_;refine dW ?_;refine dW ?_;refine sW ?_;refine dW ?_;refine eW ?_;refine goW ?_;refine fin2 fun w' H => ?_;exact ⟨_, _, rvM (H.all (.row g2 24 [.int .i64 0, .int .i64 0, .slice none 0 0]) (by simp)), rvT, rfl, H.below⟩
set_option maxRecDepth 100000 in
set_option maxHeartbeats 1000000 in
theorem SFactors_u (r c : Int) (ao : Option Addr) (len cap : Nat) (w : World) (hr : -9223372036854775808 <= r /\ r <= 9223372036854775807) (hc : -9223372036854775808 <= c /\ c <= 9223372036854775807) (hs : soundM r c len = false) :
 Calls Tryz.prog 5 #[.agg #[.int .i64 r, .int .i64 c, .slice ao len cap]] w fun e w' => e = .returned (.tuple #[.slice none 0 0, .int .i64 1]) /\ Below w.heap.size w w' := by
 have HC := Lib.hid (fun w' => SForm_u r c ao len cap w' hr hc hs);clear hs;refine funW (S0 := fun _ => False) Tryz.func5 (Fr.nil _ w) ?_;refine goW ?_;refine rW [] ?_;refine aW fun g1 => ?_;refine dW ?_;refine dW ?_;refine eW ?_;refine goW ?_;refine rW [] ?_;refine dW ?_;refine cV (v := .tuple #[.agg #[.int .i64 0, .int .i64 0, .slice none 0 0], .int .i64 1]) (fun w' H => HC.out w') ?_;refine dW ?_;refine dW ?_;refine dW ?_;refine aW fun g4 => ?_;refine sG ?_;refine dW ?_;refine eW ?_;refine goW ?_;refine rW [] ?_;refine dW ?_;refine dB true ?_;refine eW ?_;refine goW ?_;refine ctW ?_;refine goW ?_;refine rW [] ?_;refine dW ?_;refine dW ?_;refine dW ?_;refine eW ?_;refine goW ?_;refine fin2 fun w' H => ?_;exact ⟨_, _, rvT, rvT, rfl, H.below⟩
set_option maxRecDepth 100000 in
set_option maxHeartbeats 1000000 in
theorem LNum_c (n : Nat) (w : World) (h : n < 9223372036854775808) :
 Calls Tryz.prog 15 #[.int .i64 (n : Int)] w fun e w' => (∃ v', e = .returned v' /\ OwnI w' w.heap.size v' (n : Int)) /\ Below w.heap.size w w' := by
 refine funW (S0 := fun _ => False) Tryz.func15 (Fr.nil _ w) ?_;refine goW ?_;refine rW [] ?_;refine aW fun g2 => ?_;refine eW ?_;refine goW ?_;refine rW [] ?_;refine dW ?_;refine dB false ?_;refine eW ?_;refine goW ?_;refine cfW ?_;refine goW ?_;refine rW [] ?_;refine dW ?_;by_cases h0 : n = 0
 · subst h0;refine dB true ?_;refine eW ?_;refine goW ?_;refine ctW ?_;refine goW ?_;refine rW [] ?_;refine dW ?_;refine sW ?_;refine eW ?_;refine goW ?_;refine fin1 fun w' H => ?_;exact ⟨_, rvI H.m0, ⟨_, rfl, OwnI.zero _ _⟩, H.below⟩
 · refine dB false ?_;refine eW ?_;refine goW ?_;refine cfW ?_;have hW : n < W := by unfold W; omega
   refine goW ?_;refine rW [] ?_;refine dW ?_;refine dE (u64I hW) ?_;refine bW (m := 1) fun g15 => ?_;refine dW ?_;refine sW ?_;refine eW ?_;refine goW ?_;refine fin1 fun w' H => ?_;have hown := RowAt.own (ws := [n]) (B := w.heap.size) (n := 1) (cap := 1) H.m0 (Ok.one hW) ((H.own _ (List.mem_cons_self ..) rfl _ rfl).elim (fun h => h.elim) id) (by simp) rfl (by unfold maxLen; omega);have h1 := OwnI.mk (m := n) false (by rw [wlenOne (by omega) hW, digOne (by omega) hW]; exact hown);rw [wlenOne (by omega) hW] at h1;exact ⟨_, rvI H.m1, ⟨_, rfl, h1⟩, H.below⟩
theorem hnf_23 : IsHnf 2 2 [2, 0, 0, 3] [2, 0, 0, 3] 2 (fun i => i) := by
 have e0 : ∀ i j, matE [2, 0, 0, 3] 2 2 i j = if i = 0 /\ j = 0 then 2 else if i = 1 /\ j = 1 then 3 else 0 := fun i j => by
  unfold matE;by_cases h : i < 2 /\ j < 2
  · obtain ⟨h1, h2⟩ := h;rw [if_pos ⟨h1, h2⟩];have hi : i = 0 ∨ i = 1 := by omega
    have hj : j = 0 ∨ j = 1 := by omega
    rcases hi with rfl | rfl <;> rcases hj with rfl | rfl <;> rfl
  · rw [if_neg h, if_neg (by omega), if_neg (by omega)]
 refine ⟨rfl, Nat.le_refl _, ⟨⟨fun i k h _ => h, fun i h => h, fun i hi j hj => ?_, fun i hi => ?_⟩, fun i k h1 h2 => ?_⟩, fun i hi b => ?_, ⟨fun k hk => Sp.row _ hk, fun k hk => Sp.row _ hk⟩⟩
 · rw [e0, if_neg (by omega), if_neg (by omega)]
 · rw [e0]; have : i = 0 ∨ i = 1 := by omega
   rcases this with rfl | rfl <;> simp
 · have e1 : i = 0 := by omega
   have e2 : k = 1 := by omega
   subst e1 e2;rw [e0, e0]; simp
 · rw [e0, if_neg (by omega), if_neg (by omega)]
theorem dg_23 : IsDg 2 2 [2, 0, 0, 3] := fun i j hi hj h => by
 have hi' : i = 0 ∨ i = 1 := by omega
 have hj' : j = 0 ∨ j = 1 := by omega
 rcases hi' with rfl | rfl <;> rcases hj' with rfl | rfl <;> first | rfl | omega
theorem snf_23 : tabK 2 (diagF (nt (chProg (diagN 2 2 [2, 0, 0, 3])))) 4 = [1, 0, 0, 6] := by
 have e1 : diagN 2 2 [2, 0, 0, 3] = [2, 3] := rfl;have e2 : chProg [2, 3] = [1, 6] := by
  rw [chProg]; simp only [chPass]; rw [chProg]; simp only [chPass]; rw [chProg]; rfl
 rw [e1, e2]; rfl
theorem ns4 {w : World} {p q r s : P4} {a b c d : Int} (h1 : NumAt w (av p) a) (h2 : NumAt w (av q) b) (h3 : NumAt w (av r) c) (h4 : NumAt w (av s) d) : NsAt w [p, q, r, s] [a, b, c, d] := ⟨rfl, fun i hi => by
 match i, hi with
 | 0, _ => exact h1
 | 1, _ => exact h2
 | 2, _ => exact h3
 | 3, _ => exact h4⟩
theorem row4 {w : World} {g : Nat} {p q r s : P4} {a b c d : Int} (hr : RowAt w g 33 [.bool p.1, .slice p.2.1 p.2.2.1 p.2.2.2, .bool q.1, .slice q.2.1 q.2.2.1 q.2.2.2, .bool r.1, .slice r.2.1 r.2.2.1 r.2.2.2, .bool s.1, .slice s.2.1 s.2.2.1 s.2.2.2]) (h1 : NumAt w (av p) a) (h2 : NumAt w (av q) b) (h3 : NumAt w (av r) c) (h4 : NumAt w (av s) d) : LsN w (some ⟨g, 0, none⟩) [a, b, c, d] :=
 (RowN.mk' (ps := [p, q, r, s]) (tl := []) hr NoW.nil (ns4 h1 h2 h3 h4)).lsN
set_option maxRecDepth 100000 in
set_option maxHeartbeats 4000000 in
theorem LAwake_c (w : World) :
 Calls Tryz.prog 4 #[] w fun e w' => e = .returned (.bool true) /\ Below w.heap.size w w' := by
 have hw1 : ∀ x ∈ ([2, 0, 0, 3] : List Int), x.natAbs < W ^ 1 := fun x hx => by
  simp at hx; rcases hx with rfl | rfl | rfl <;> decide
 have hw2 : ∀ x ∈ ([2, 0, 0, 3] : List Int), wlen x.natAbs <= 17592186044415 := fun x hx => Nat.le_trans (wlen_le_of_lt (hw1 x hx)) (by omega);have hw3 : ∀ x ∈ ([1, 0, 0, 6] : List Int), wlen x.natAbs <= 17592186044415 := fun x hx => Nat.le_trans (wlen_le_of_lt (show x.natAbs < W ^ 1 by simp at hx; rcases hx with rfl | rfl | rfl <;> decide)) (by omega);refine funW (S0 := fun _ => False) Tryz.func4 (Fr.nil _ w) ?_;refine goW ?_;refine rW [] ?_;refine dW ?_;refine eW ?_;refine goW ?_;refine rW [] ?_;refine cN (x := ((2 : Nat) : Int)) (fun w' H => LNum_c 2 w' (by omega)) fun p4 => ?_;refine cN (x := ((0 : Nat) : Int)) (fun w' H => LNum_c 0 w' (by omega)) fun p5 => ?_;refine cN (x := ((0 : Nat) : Int)) (fun w' H => LNum_c 0 w' (by omega)) fun p6 => ?_;refine cN (x := ((3 : Nat) : Int)) (fun w' H => LNum_c 3 w' (by omega)) fun p7 => ?_;refine bW (m := 4) fun g8 => ?_;refine dW ?_;refine cLn (α := List Int × Option Addr × Nat) (mk := fun p => .tuple #[.agg #[.int .i64 2, .int .i64 2, .slice p.2.1 4 p.2.2], .int .i64 0]) (ao := fun p => p.2.1) (xs := fun p => tabK 2 (diagF (nt (chProg (diagN 2 2 p.1)))) 4) (A := fun p => ∃ k l, IsHnf 2 2 [2, 0, 0, 3] p.1 k l)
  (fun w' H => SForm_c 2 2 1 (some ⟨g8, 0, none⟩) 4 [2, 0, 0, 3] w' (by omega) (by omega) ((row4 H.m0 (H.m4 : OwnI ..).num (H.m3 : OwnI ..).num (H.m2 : OwnI ..).num (H.m1 : OwnI ..).num).lsAt hw2) hw1 (by omega) rfl (fun hs k l h => by obtain ⟨rfl, -, -⟩ := h.unique hnf_23; exact dg_23)) fun q => ?_
 refine dW ?_;refine dW ?_;refine dW ?_;refine aW fun g1 => ?_;refine sG ?_;refine dW ?_;refine eW ?_;refine prW (A := (∃ k l, IsHnf 2 2 [2, 0, 0, 3] q.1 k l) /\ ∀ b o, q.2.1 = some ⟨b, o, none⟩ -> w.heap.size <= b) (by simp) fun hA => ?_;obtain ⟨⟨k, l, hH⟩, _⟩ := hA;obtain ⟨hs, qa, qc⟩ := q;obtain ⟨rfl, -, -⟩ := hH.unique hnf_23;simp only [snf_23];clear hH;refine goW ?_;refine rW [] ?_;refine dW ?_;refine dW ?_;refine dW ?_;refine dG ?_;refine cGg (mk := av) (ens := fun p => [.own w.heap.size (av p) ((1 : Nat) : Int)]) (fun w' H => cNo' (LNum_c 1 w' (by omega)) H.size) fun p17 => ?_;refine cGg (mk := av) (ens := fun p => [.own w.heap.size (av p) ((0 : Nat) : Int)]) (fun w' H => cNo' (LNum_c 0 w' (by omega)) H.size) fun p18 => ?_;refine cGg (mk := av) (ens := fun p => [.own w.heap.size (av p) ((0 : Nat) : Int)]) (fun w' H => cNo' (LNum_c 0 w' (by omega)) H.size) fun p19 => ?_;refine cGg (mk := av) (ens := fun p => [.own w.heap.size (av p) ((6 : Nat) : Int)]) (fun w' H => cNo' (LNum_c 6 w' (by omega)) H.size) fun p20 => ?_;simp only [av];refine bWg (m := 4) fun g21 => ?_;refine dG ?_;refine cVg (v := .bool true) (fun w' H => by
  have h1 : LsN w' qa [1, 0, 0, 6] := H.m6;have h2 := row4 H.m0 (H.m4 : OwnI ..).num (H.m3 : OwnI ..).num (H.m2 : OwnI ..).num (H.m1 : OwnI ..).num;exact KLikeMat_c 2 2 qa (some ⟨g21, 0, none⟩) qc 4 [1, 0, 0, 6] [1, 0, 0, 6] w' h1 h2 (by simp) (by simp) hw3 hw3) ?_
 refine dW ?_;refine dW ?_;refine eW ?_;refine goW ?_;refine fin1 fun w' H => ?_;exact ⟨_, rvT, rfl, H.below⟩
section
variable {P : Program} {Q : Exit -> Act -> World -> Prop} {ds : List Deferred} {S0 : Nat -> Prop} {w0 : World} {n : Nat} {ls : List (Nat × Value)} {es : List En} {c : Code}
theorem numN0W {xs : List Int} {b : Nat} (i : Nat) (hm : En.lsn (some ⟨b, 0, none⟩) xs ∈ es) (hi : i < xs.length) (k : ∀ p : P4, CWm ds P n S0 w0 c Q ls (.cell ⟨b, i * 2, none⟩ (.bool p.1) :: .cell ⟨b, i * 2 + 1, none⟩ (.slice p.2.1 p.2.2.1 p.2.2.2) :: .num (av p) (gi xs i) :: es)) : CWm ds P n S0 w0 c Q ls es :=
 numNW i hm hi fun p => by rw [Nat.zero_add]; exact k p
theorem numN00W {xs : List Int} {b : Nat} (hm : En.lsn (some ⟨b, 0, none⟩) xs ∈ es) (hi : 0 < xs.length) (k : ∀ p : P4, CWm ds P n S0 w0 c Q ls (.cell ⟨b, 0, none⟩ (.bool p.1) :: .cell ⟨b, 1, none⟩ (.slice p.2.1 p.2.2.1 p.2.2.2) :: .num (av p) (gi xs 0) :: es)) : CWm ds P n S0 w0 c Q ls es :=
 numN0W 0 hm hi k
end
section
variable {P : Program} {ops : Array Oper} {Q : Exit -> Act -> World -> Prop} {ds : List Deferred} {S0 : Nat -> Prop} {w0 : World} {E0 : List En} {hd : List (List Nat)} {n j s sg g : Nat} {l : List Nat} {G E : List En} {ls : List (Nat × Value)} {op : Op} {ty : TypeId} {pos : String} {af : Array Edge} {f : FuncId} {args : Array Value} {want : Bool}
end
structure GaX where
 i : Nat
 g : Nat
 gp : P4
structure GaI (L n : Nat) (ns : List Nat) (z : GaX) : Prop where
 hi : z.i <= n
 eq : z.g = (ns.take z.i).foldl Nat.gcd 0
 le : wlen z.g <= L
set_option maxRecDepth 100000 in
set_option maxHeartbeats 1000000 in
theorem BGcdAll_c (la : Option Addr) (cap L : Nat) (xs : List Int) (w : World) (hA : LsAt w L la xs) (hL : L <= 17592186044415) (hn : xs.length <= 8796093022208) :
 Calls Tryz.prog 11 #[.slice la xs.length cap] w fun e w' => (∃ v', e = .returned v' /\ OwnI w' w.heap.size v' (((xs.map Int.natAbs).foldl Nat.gcd 0 : Nat) : Int)) /\ Below w.heap.size w w' := by
 obtain ⟨ns, hns⟩ : ∃ ns, xs.map Int.natAbs = ns := ⟨_, rfl⟩;obtain ⟨n, hnn⟩ : ∃ n, xs.length = n := ⟨_, rfl⟩;have HN : Hid (xs.length = n /\ ns.length = n /\ ∀ i, i < n -> ns.getD i 0 = (gi xs i).natAbs) := Lib.hid ⟨hnn, by rw [<- hns, <- hnn]; simp, fun i hi => by rw [<- hns, gi_eq (by omega)]; simp [hnn, hi]⟩;rw [hns, hnn];rw [hnn] at hn;clear hns hnn;refine funW (S0 := fun _ => False) Tryz.func11 ((Fr.nil _ w).l hA (by simp)) ?_;refine goW ?_;refine rW [] ?_;refine aW fun g2 => ?_;refine eW ?_;refine goW ?_;refine rW [] ?_;refine aW fun g3 => ?_;refine eW ?_;refine addW (e := .own w.heap.size (av p0) ((0 : Nat) : Int)) (fun w' _ => OwnI.zero w' _) ?_;refine goW ?_;refine rW [] ?_;refine dW ?_;refine dW ?_;refine dW ?_;refine eW ?_;refine goW ?_;refine loopW (X := GaX) (GaI L n ns) (fun z => n - z.i) (fun z => [(8, .int .i64 (z.i : Int)), (7, .int .i64 (n : Int)), (6, .slice la n cap), (3, .pointer (some ⟨g3, 0, none⟩)), (2, .pointer (some ⟨g2, 0, none⟩))])
  (fun z => [.row g3 33 [.bool z.gp.1, .slice z.gp.2.1 z.gp.2.2.1 z.gp.2.2.2], .row g2 33 [.bool false, .slice none 0 0], .own w.heap.size (av z.gp) ((z.g : Nat) : Int), .ls L la xs]) ⟨0, 0, p0⟩ ⟨Nat.zero_le _, rfl, by rw [wlen_zero]; exact Nat.zero_le _⟩ fun z hz => ?_
 obtain ⟨i, g, gp_⟩ := z;obtain ⟨hi, hg, hl⟩ := hz
 replace hi : i <= n := hi
 replace hg : g = (ns.take i).foldl Nat.gcd 0 := hg
 replace hl : wlen g <= L := hl
 by_cases h : i < n
 · have h01 : (i : Int) < (n : Int) := by omega
   obtain ⟨bx, ox, rfl⟩ := hA.pos (i := i) (by rw [HN.out.1]; exact h);have hg2 : Nat.gcd g (gi xs i).natAbs = (ns.take (i + 1)).foldl Nat.gcd 0 := by
    rw [List.take_add_one, List.getElem?_eq_getElem (by rw [HN.out.2.1]; exact h), List.foldl_append, <- hg, <- HN.out.2.2 i h];simp [HN.out.2.1, h]
   have HG := Lib.hid hg2;clear hg hg2;refine goW ?_;refine rW [] ?_;refine dB true ?_;refine eW ?_;refine goW ?_;refine ctW ?_;refine numW (L := L) (xs := xs) (b := bx) (o := ox) i (by simp) (by rw [HN.out.1]; exact h) fun p => ?_;refine goW ?_;refine rW [] ?_;refine dW ?_;refine dW ?_;refine aW fun g5 => ?_;refine sG ?_;refine eW ?_;refine goW ?_;refine rW [] ?_;refine dW ?_;refine dW ?_;refine cN (x := ((Nat.gcd g (gi xs i).natAbs : Nat) : Int)) (fun w' H => BGcd_c (av gp_) (av p) g (gi xs i) w' (OwnI.int (H.all (.own w.heap.size (av gp_) (g : Int)) (by simp)) (Nat.le_trans hl hL)) ((H.all (.at L (av p) (gi xs i)) (by simp) : IntAt ..).mono hL)) fun q => ?_;refine sW ?_;refine eW ?_;refine goW ?_;refine rW [] ?_;refine dE (incB (a := i) (by omega)) ?_;refine dW ?_;refine eW ?_;refine goW ?_;refine backW (⟨i + 1, Nat.gcd g (gi xs i).natAbs, q⟩ : GaX) ⟨⟨h, HG.out, ?_⟩, by show n - (i + 1) < n - i; omega⟩;show wlen (Nat.gcd g (gi xs i).natAbs) <= L;rcases Nat.eq_zero_or_pos g with h0 | h0
   · rw [h0, Nat.gcd_zero_left];obtain ⟨b', o', _, _, hc⟩ := hA (by rw [HN.out.1]; omega);obtain ⟨q', _, _, hI⟩ := hc i (by rw [HN.out.1]; exact h);rw [gi_eq (by rw [HN.out.1]; exact h)]; exact hI.wlen
   · exact Nat.le_trans (wlen_mono (Nat.gcd_le_left _ h0)) hl
 · obtain rfl : i = n := by omega
   have hg2 : g = ns.foldl Nat.gcd 0 := by rw [hg, List.take_of_length_le (by rw [HN.out.2.1]; omega)]
   subst hg2;clear hg;refine goW ?_;refine rW [] ?_;refine dB false ?_;refine eW ?_;refine goW ?_;refine cfW ?_;refine goW ?_;refine rW [] ?_;refine dW ?_;refine sW ?_;refine eW ?_;refine goW ?_;refine fin1 fun w' H => ?_;exact ⟨_, rvI H.m1, ⟨_, rfl, H.m2⟩, H.below⟩
theorem prodN_wl {d : Nat -> Nat} {B : Nat} (h : ∀ i, wlen (d i) <= B) : ∀ k, wlen (prodN k d) <= k * B + 1
 | 0 => by show wlen 1 <= _; exact Nat.le_trans (wlen_le_of_lt (k := 1) (by unfold W; decide)) (by omega)
 | k + 1 => by
  have h1 := prodN_wl h k;have h2 := h k;show wlen (prodN k d * d k) <= _;have := wlen_mul (prodN k d) (d k);have : (k + 1) * B = k * B + B := Nat.succ_mul k B;omega
theorem prodN_wl64 {d : Nat -> Nat} {B i : Nat} (h : ∀ i, wlen (d i) <= B) (hi : i <= 64) : wlen (prodN i d) <= 64 * B + 1 := Nat.le_trans (prodN_wl h i) (Nat.succ_le_succ (Nat.mul_le_mul_right B hi))
theorem getD_wl {R : List Nat} {B : Nat} (h : ∀ y ∈ R, wlen y <= B) (i : Nat) : wlen (R.getD i 0) <= B := by
 rw [List.getD_eq_getElem?_getD];cases e : R[i]? with
 | none => exact Nat.le_trans (Nat.le_of_eq wlen_zero) (Nat.zero_le _)
 | some y => exact h y (List.mem_of_getElem? e)
theorem zsign_natz {y : Nat} (h : y = 0) : zsign (y : Int) = 0 := by subst h; rfl
theorem zsign_natp {y : Nat} (h : ¬ y = 0) : zsign (y : Int) = 1 := by unfold zsign; rw [if_neg (by omega), if_neg (by omega)]
theorem lt_lsD {w : World} {ao : Option Addr} {xs : List Int} {B : Nat} (h : LsAt w B ao xs) : ∀ x ∈ xs, x.natAbs < W ^ B := lt_lsB h
theorem LsAt.upD {w : World} {L L' : Nat} {ao : Option Addr} {xs : List Int} (h : LsAt w L ao xs) (hL : L <= L') : LsAt w L' ao xs := fun hl => by
 obtain ⟨b, o, e, hlt, hc⟩ := h hl;exact ⟨b, o, e, hlt, fun i hi => by obtain ⟨p, h0, h1, hn⟩ := hc i hi; exact ⟨p, h0, h1, hn.mono hL⟩⟩
theorem cND {P : Program} {f : FuncId} {args : Array Value} {w : World} {B : Nat} {A : Int -> Prop} (h : Calls P f args w fun e w' => (∃ x : Int, A x /\ ∃ v', e = .returned (.tuple #[v', .int .i64 0]) /\ OwnI w' w.heap.size v' x) /\ Below w.heap.size w w') {A' : Int -> Prop} (hA : ∀ x, A x -> A' x) (hB : B <= w.heap.size) : Calls P f args w fun e w' => ∃ q : Int × P4, e = .returned (.tuple #[av q.2, .int .i64 0]) /\ Nw w w' [.own B (av q.2) q.1, .pr (A' q.1)] := h.mono fun e w' ⟨⟨x, hx, v, he, hv⟩, hb⟩ => by
 subst he;obtain ⟨b, ao, l', k', rfl⟩ := OwnI.parts hv;exact ⟨(x, b, ao, l', k'), rfl, hb, fun e he => by
  rcases List.mem_cons.1 he with rfl | he
  · exact ⟨OwnI.mono hv hB, fun _ h => h.elim⟩
  · rcases List.mem_singleton.1 he with rfl;exact ⟨hA x hx, fun _ h => h.elim⟩, .cons (fun x hx => by rcases List.mem_singleton.1 hx with rfl; exact ⟨(fun q => nomatch q), fun q => nomatch q⟩) (List.pairwise_singleton ..)⟩
set_option maxRecDepth 100000 in
set_option maxHeartbeats 2000000 in
theorem SDet_u (r c : Int) (ao : Option Addr) (len cap : Nat) (w : World) (hr : -9223372036854775808 <= r /\ r <= 9223372036854775807) (hc : -9223372036854775808 <= c /\ c <= 9223372036854775807) (hs : soundM r c len = false) :
 Calls Tryz.prog 3 #[.agg #[.int .i64 r, .int .i64 c, .slice ao len cap]] w fun e w' => e = .returned (.bool true) /\ Below w.heap.size w w' := by
 have HC := Lib.hid (And.intro (fun w' => SFactors_u r c ao len cap w' hr hc hs) (fun w' => BRank_u r c ao len cap w' hr hc hs));clear hs;refine funW (S0 := fun _ => False) Tryz.func3 (Fr.nil _ w) ?_;refine goW ?_;refine rW [] ?_;refine aW fun g1 => ?_;refine dW ?_;refine eW ?_;refine goW ?_;refine rW [] ?_;refine cV (v := .bool true) (fun w' H => LAwake_c w') ?_;refine dW ?_;refine eW ?_;refine goW ?_;refine cfW ?_;refine goW ?_;refine rW [] ?_;refine dW ?_;refine cV (v := .tuple #[.slice none 0 0, .int .i64 1]) (fun w' H => HC.out.1 w') ?_;refine dW ?_;refine dW ?_;refine dW ?_;refine dW ?_;refine dW ?_;refine eW ?_;refine goW ?_;refine rW [] ?_;refine dW ?_;refine cV (v := .tuple #[.int .i64 0, .int .i64 1]) (fun w' H => HC.out.2 w') ?_;refine dW ?_;refine dW ?_;refine dW ?_;refine dW ?_;refine dW ?_;refine eW ?_;refine goW ?_;refine rW [] ?_;refine dW ?_;refine dW ?_;refine dB false ?_;refine eW ?_;refine goW ?_;refine cfW ?_;refine goW ?_;refine rW [] ?_;refine dW ?_;refine dB true ?_;refine eW ?_;refine goW ?_;refine ctW ?_;refine goW ?_;refine rW [] ?_;refine dW ?_;refine dB true ?_;refine dW ?_;refine eW ?_;refine goW ?_;refine fin1 fun w' H => ?_;exact ⟨_, rvT, rfl, H.below⟩
set_option maxRecDepth 100000 in
set_option maxHeartbeats 4000000 in
theorem SDet_s (n m mw cap : Nat) (ao : Option Addr) (xs : List Int) (w : World) (hn : n <= 64) (hm : m <= 64) (hmw : mw <= 1048576) (hA : LsAt w mw ao xs) (hs : xs.length = n * m) :
 Calls Tryz.prog 3 #[.agg #[.int .i64 (n : Int), .int .i64 (m : Int), .slice ao (n * m) cap]] w fun e w' => e = .returned (.bool true) /\ Below w.heap.size w w' := by
 have c1 := fun w' h => SFactors3_c n m mw ao cap xs w' hn hm (LsAt.upD h (by omega)) (lt_lsD h) hmw hs;have c2 := fun w' (h : LsAt w' mw ao xs) => BRank_c n m (n * m) mw cap ao xs w' hn hm (by omega) h hs hs;have hnm : n * m <= 4096 := Nat.mul_le_mul hn hm;have c3 : ∀ (R : List Nat) w', Smf n m xs R -> 0 < R.length -> LsAt w' mw ao xs -> Calls Tryz.prog 11 #[.slice ao (n * m) cap] w' fun e w'' => (∃ v', e = .returned v' /\ OwnI w'' w'.heap.size v' ((R.getD 0 0 : Nat) : Int)) /\ Below w'.heap.size w' w'' := fun R w' hR h0 h => by
  have := BGcdAll_c ao cap mw xs w' h (by omega) (by omega);rw [<- hR.head hs h0, hs] at this; exact this
 have c4 : n = m -> ∀ (R : List Nat) w', Smf n m xs R -> LsAt w' mw ao xs -> Calls Tryz.prog 12 #[.agg #[.int .i64 (n : Int), .int .i64 (m : Int), .slice ao (n * m) cap]] w' fun e w'' => (∃ x : Int, x.natAbs = prodN n (fun i => R.getD i 0) /\ ∃ v', e = .returned (.tuple #[v', .int .i64 0]) /\ OwnI w'' w'.heap.size v' x) /\ Below w'.heap.size w' w'' := fun e R w' hR h => by
  subst e;exact (BDet_c n (n * n) mw cap ao xs w' hn (by omega) h hs hs).mono fun e w'' ⟨⟨v', he, hv⟩, hb⟩ => ⟨⟨_, hR.det.symm, v', he, hv⟩, hb⟩
 have c5 : ∀ (R : List Nat) k cs, Smf n m xs R -> PvT n m (matE xs n m) k cs -> cntN (fun i => R.getD i 0) R.length = k := fun R k cs hR hp => hR.rank hp;obtain ⟨K, hK⟩ : ∃ K, min n m = K := ⟨_, rfl⟩;have hK64 : K <= 64 := by omega
 rw [hK] at c1;have c6 : ∀ R, Smf n m xs R -> R.length = K := fun R hR => hR.1.trans hK;have c7 : n = m -> K = n := fun e => by omega
 have HC := Lib.hid (And.intro c1 (And.intro c2 (And.intro c3 (And.intro c4 (And.intro c5 (And.intro c6 c7))))));clear c1 c2 c3 c4 c5 c6 c7 hK hnm hs;refine funW (S0 := fun _ => False) Tryz.func3 ((Fr.nil _ w).l hA (by simp)) ?_;clear hA;refine goW ?_;refine rW [] ?_;refine aW fun g1 => ?_;refine dW ?_;refine eW ?_;refine goW ?_;refine rW [] ?_;refine cV (v := .bool true) (fun w' H => LAwake_c w') ?_;refine dW ?_;refine eW ?_;refine goW ?_;refine cfW ?_;refine goW ?_;refine rW [] ?_;refine dW ?_;refine cLn (α := Nat × List Nat) (mk := fun q => .tuple #[.slice (some ⟨q.1, 0, none⟩) K K, .int .i64 0]) (ao := fun q => some ⟨q.1, 0, none⟩) (xs := fun q => nt q.2) (A := fun q => Smf n m xs q.2 /\ ∀ y ∈ q.2, wlen y <= 8900000000) (fun w' H => HC.out.1 w' (H.all (.ls mw ao xs) (by simp))) fun q1 => ?_;refine dW ?_;refine dW ?_;refine dW ?_;refine dW ?_;refine dW ?_;refine eW ?_;refine goW ?_;obtain ⟨lb, R⟩ := q1;refine prW (A := (Smf n m xs R /\ ∀ y ∈ R, wlen y <= 8900000000) /\ ∀ b o, some (⟨lb, 0, none⟩ : Addr) = some ⟨b, o, none⟩ -> w.heap.size <= b) (by simp) fun hq => ?_;have HR := Lib.hid hq.1;clear hq;refine rW [] ?_;refine dW ?_;refine cG (α := Nat × (Nat -> Nat)) (mk := fun p => .tuple #[.int .i64 (p.1 : Int), .int .i64 0]) (ens := fun p => [.pr (PvT n m (matE xs n m) p.1 p.2)]) (hne := ⟨(0, fun _ => 0)⟩) (fun w' H => (HC.out.2.1 w' (H.all (.ls mw ao xs) (by simp))).mono fun e w'' ⟨⟨p, he, hp⟩, hb⟩ => ⟨p, he, hb, fun e he => by rcases List.mem_singleton.1 he with rfl; exact ⟨hp, fun _ h => h.elim⟩, List.pairwise_singleton ..⟩) fun q2 => ?_;refine dW ?_;refine dW ?_;refine dW ?_;refine dW ?_;refine dW ?_;refine eW ?_;refine goW ?_;obtain ⟨k, cs⟩ := q2;refine prW (A := PvT n m (matE xs n m) k cs) (by simp) fun hp => ?_;have hRl := HC.out.2.2.2.2.2.1 R HR.out.1;have hcnt := HC.out.2.2.2.2.1 R k cs HR.out.1 hp;rw [hRl] at hcnt;obtain ⟨D, hD⟩ : ∃ D : Nat -> Nat, (fun i => R.getD i 0) = D := ⟨_, rfl⟩;rw [hD] at hcnt;have hDi : ∀ i, gi (nt R) i = ((D i : Nat) : Int) := fun i => by rw [gi_nt, <- hD]
 have hDw : ∀ i, wlen (D i) <= 8900000000 := fun i => by rw [<- hD]; exact getD_wl HR.out.2 i
 have hnl : (nt R).length = K := by rw [nt_length, hRl]
 have HD := Lib.hid (And.intro hDi (And.intro hDw (And.intro hcnt (And.intro hRl (And.intro hnl hD)))));clear hp hRl hcnt hDi hDw hnl hD;refine rW [] ?_;refine dW ?_;refine dW ?_;refine dB false ?_;refine eW ?_;refine goW ?_;refine cfW ?_;refine goW ?_;refine rW [] ?_;refine dW ?_;refine dB false ?_;refine eW ?_;refine goW ?_;refine cfW ?_;refine goW ?_;refine rW [] ?_;refine dW ?_;refine eW ?_;refine goW ?_;refine rW [] ?_;refine cN (x := ((1 : Nat) : Int)) (fun w' H => IOf_c 1 w' (by omega) (by omega)) fun p1 => ?_;refine aW fun g8 => ?_;refine sG ?_;refine eW ?_;refine goW ?_;refine rW [] ?_;refine dW ?_;refine eW ?_;refine goW ?_;refine loopW (X := Nat × Nat × P4) (fun x => x.1 <= K /\ x.2.1 = cntN D x.1) (fun x => K - x.1) (fun x => [(9, .int .i64 (x.1 : Int)), (7, .int .i64 (x.2.1 : Int)), (8, .pointer (some ⟨g8, 0, none⟩)), (3, .slice (some ⟨lb, 0, none⟩) K K), (5, .int .i64 (k : Int)), (1, .pointer (some ⟨g1, 0, none⟩))])
  (fun x => [.row g8 33 [.bool x.2.2.1, .slice x.2.2.2.1 x.2.2.2.2.1 x.2.2.2.2.2], .row g1 24 [.int .i64 (n : Int), .int .i64 (m : Int), .slice ao (n * m) cap], .own w.heap.size (av x.2.2) ((prodN x.1 D : Nat) : Int), .lsn (some ⟨lb, 0, none⟩) (nt R), .ls mw ao xs]) (0, 0, p1) ⟨Nat.zero_le _, rfl⟩ fun x hx => ?_
 clear p1;obtain ⟨i, C, p⟩ := x;obtain ⟨hx, hC⟩ := hx
 replace hx : i <= K := hx
 replace hC : C = cntN D i := hC
 have hpw : wlen (prodN i D) <= 570000000000 := Nat.le_trans (prodN_wl64 HD.out.2.1 (by omega)) (by omega);by_cases h : i < K
 · have h01 : (i : Int) < (K : Int) := by omega
   obtain ⟨y, hy⟩ : ∃ y, D i = y := ⟨_, rfl⟩;have hyw : wlen y <= 8900000000 := by rw [<- hy]; exact HD.out.2.1 i
   have hyN : gi (nt R) i = (y : Int) := by rw [HD.out.1, hy]
   have hyc : cntN D (i + 1) = cntN D i + if y = 0 then 0 else 1 := by show cntN D i + (if D i = 0 then 0 else 1) = _; rw [hy]
   have hyp : prodN (i + 1) D = prodN i D * y := by show prodN i D * D i = _; rw [hy]
   have hci := cntN_le D i;rw [<- hC] at hyc hci;have HY := Lib.hid (And.intro hyc (And.intro hyp hyN));clear hyc hyp hyN hy hC;refine goW ?_;refine rW [] ?_;refine dW ?_;refine dW ?_;refine dW ?_;refine dB true ?_;refine eW ?_;refine goW ?_;refine numN0W (xs := nt R) (b := lb) i (by simp) (by rw [HD.out.2.2.2.2.1]; exact h) fun py => ?_;rw [HY.out.2.2];refine ctW ?_;refine goW ?_;refine rW [] ?_;refine dW ?_;refine dW ?_;refine dW ?_;refine dW ?_;refine cV (v := .int .i64 (zsign (y : Int))) (fun w' H => ISign_c (av py) (y : Int) w' ((H.all (.num (av py) (y : Int)) (by simp [av]) : NumAt ..).int (by simp; omega))) ?_;by_cases hy0 : y = 0
   · have hz := zsign_natz hy0;refine dB false ?_;refine eW ?_;refine goW ?_;refine cfW ?_;refine goW ?_;refine rW [] ?_;refine dW ?_;refine dW ?_;refine dW ?_;refine dW ?_;refine dW ?_;refine cN (x := ((prodN i D * y : Nat) : Int)) (fun w' H => IMul_c (av p) (av py) ((prodN i D : Nat) : Int) (y : Int) 570000000000 8900000000 w' (OwnI.int (H.all (.own w.heap.size (av p) ((prodN i D : Nat) : Int)) (by simp [av])) hpw) ((H.all (.num (av py) (y : Int)) (by simp [av]) : NumAt ..).int hyw) (by omega)) fun p2 => ?_;refine sW ?_;refine eW ?_;refine goW ?_;refine rW [] ?_;refine dW ?_;refine dE (incB (a := i) (by omega)) ?_;rw [<- HY.out.2.1];have hcc : cntN D (i + 1) = C := by rw [HY.out.1, if_pos hy0]; rfl
     refine dW ?_;refine eW ?_;refine goW ?_;exact backW (i + 1, C, p2) ⟨⟨h, hcc.symm⟩, by show K - (i + 1) < K - i; omega⟩
   · have hz := zsign_natp hy0;refine dB true ?_;refine eW ?_;refine goW ?_;refine ctW ?_;refine goW ?_;refine rW [] ?_;refine dW ?_;refine dE (incB (a := C) (by omega)) ?_;refine dW ?_;refine eW ?_;refine goW ?_;refine rW [] ?_;refine dW ?_;refine dW ?_;refine dW ?_;refine dW ?_;refine dW ?_;refine cN (x := ((prodN i D * y : Nat) : Int)) (fun w' H => IMul_c (av p) (av py) ((prodN i D : Nat) : Int) (y : Int) 570000000000 8900000000 w' (OwnI.int (H.all (.own w.heap.size (av p) ((prodN i D : Nat) : Int)) (by simp [av])) hpw) ((H.all (.num (av py) (y : Int)) (by simp [av]) : NumAt ..).int hyw) (by omega)) fun p2 => ?_;refine sW ?_;refine eW ?_;refine goW ?_;refine rW [] ?_;refine dW ?_;refine dE (incB (a := i) (by omega)) ?_;rw [<- HY.out.2.1];have hcc : cntN D (i + 1) = C + 1 := by rw [HY.out.1, if_neg hy0]
     refine dW ?_;refine eW ?_;refine goW ?_;exact backW (i + 1, C + 1, p2) ⟨⟨h, hcc.symm⟩, by show K - (i + 1) < K - i; omega⟩
 · obtain rfl : K = i := by omega
   rw [HD.out.2.2.1] at hC;subst hC;refine goW ?_;refine rW [] ?_;refine dW ?_;refine dW ?_;refine dW ?_;refine dB false ?_;by_cases h0 : 0 < K
   · refine eW ?_;refine goW ?_;refine numN00W (xs := nt R) (b := lb) (by simp) (by rw [HD.out.2.2.2.2.1]; exact h0) fun py => ?_;refine cfW ?_;refine goW ?_;refine rW [] ?_;refine dW ?_;refine dW ?_;refine dB false ?_;refine dW ?_;refine dG ?_;refine dG ?_;refine dGB true ?_;refine dG ?_;refine dG ?_;refine dG ?_;refine dG ?_;refine dG ?_;refine dG ?_;refine cGg (mk := av) (ens := fun p => [.own w.heap.size (av p) ((R.getD 0 0 : Nat) : Int)]) (fun w' H => cNo' (HC.out.2.2.1 R w' HR.out.1 (by rw [HD.out.2.2.2.1]; exact h0) (H.all (.ls mw ao xs) (by simp))) H.size) fun pg => ?_;refine cVg (v := .bool true) (fun w' H => by have e : gi (nt R) 0 = ((R.getD 0 0 : Nat) : Int) := gi_nt R 0; have h1 : NumAt w' (av py) (gi (nt R) 0) := H.all (.num (av py) (gi (nt R) 0)) (by simp [av]); have hb : wlen (R.getD 0 0) <= 17592186044415 := Nat.le_trans (getD_wl HR.out.2 0) (by omega); rw [e] at h1; have := KLike_c (av py) (av pg) ((R.getD 0 0 : Nat) : Int) ((R.getD 0 0 : Nat) : Int) w' h1 (OwnI.num (H.all (.own w.heap.size (av pg) ((R.getD 0 0 : Nat) : Int)) (by simp [av]))) hb hb; rw [decide_eq_true rfl] at this; exact this) ?_;by_cases hnm : n = m
     · subst hnm;refine dG ?_;refine dG ?_;refine dW ?_;refine eW ?_;refine goW ?_;refine cfW ?_;refine goW ?_;refine rW [] ?_;refine dW ?_;refine dW ?_;refine dW ?_;refine dW ?_;refine dB false ?_;refine eW ?_;refine goW ?_;refine cfW ?_;refine goW ?_;refine rW [] ?_;refine dW ?_;refine cG (α := Int × P4) (mk := fun q => .tuple #[.agg #[.bool q.2.1, .slice q.2.2.1 q.2.2.2.1 q.2.2.2.2], .int .i64 0]) (ens := fun q => [.own w.heap.size (av q.2) q.1, .pr (q.1.natAbs = prodN K D)]) (hne := ⟨(0, p0)⟩) (fun w' H => cND (A := fun x => x.natAbs = prodN n (fun i => R.getD i 0)) (A' := fun x => x.natAbs = prodN K D) (HC.out.2.2.2.1 rfl R w' HR.out.1 (H.all (.ls mw ao xs) (by simp))) (fun x (hx : x.natAbs = prodN n (fun i => R.getD i 0)) => show x.natAbs = prodN K D by rw [hx, HD.out.2.2.2.2.2, HC.out.2.2.2.2.2.2 rfl]) H.size) fun q3 => ?_;refine dW ?_;refine dW ?_;refine dW ?_;refine aW fun g10 => ?_;refine sG ?_;refine dW ?_;refine eW ?_;refine goW ?_;obtain ⟨z, pz⟩ := q3;refine prW (A := z.natAbs = prodN K D) (by simp) fun hz => ?_;have HZ := Lib.hid hz;clear hz;refine rW [] ?_;refine dW ?_;refine dB true ?_;refine dW ?_;refine dG ?_;refine dG ?_;refine cGg (mk := av) (ens := fun p => [.own w.heap.size (av p) ((prodN K D : Nat) : Int)]) (fun w' H => by rw [<- HZ.out]; exact cNo' (IAbs_c (av pz) z w' (OwnI.int (H.all (.own w.heap.size (av pz) z) (by simp [av])) (by rw [HZ.out]; omega))) H.size) fun pa => ?_;refine cVg (v := .bool true) (fun w' H => by have := KLike_c (av p) (av pa) ((prodN K D : Nat) : Int) ((prodN K D : Nat) : Int) w' (OwnI.num (H.all (.own w.heap.size (av p) ((prodN K D : Nat) : Int)) (by simp [av]))) (OwnI.num (H.all (.own w.heap.size (av pa) ((prodN K D : Nat) : Int)) (by simp [av]))) (by simp; omega) (by simp; omega); rw [decide_eq_true rfl] at this; exact this) ?_;refine dW ?_;refine dW ?_;refine eW ?_;refine goW ?_;refine fin1 fun w' H => ?_;exact ⟨_, rvT, rfl, H.below⟩
     · have hnm2 : ¬ (n : Int) = (m : Int) := by omega
       refine dG ?_;refine dG ?_;refine dW ?_;refine eW ?_;refine goW ?_;refine cfW ?_;refine goW ?_;refine rW [] ?_;refine dW ?_;refine dW ?_;refine dW ?_;refine dW ?_;refine dB true ?_;refine eW ?_;refine goW ?_;refine ctW ?_;refine goW ?_;refine rW [] ?_;refine dW ?_;refine eW ?_;refine goW ?_;refine fin1 fun w' H => ?_;exact ⟨_, rvT, rfl, H.below⟩
   · have h01 : ¬ 0 < K := h0;refine eW ?_;refine goW ?_;refine cfW ?_;refine goW ?_;refine rW [] ?_;refine dW ?_;refine dW ?_;refine dB false ?_;refine dW ?_;refine dG ?_;refine dG ?_;refine dGB false ?_;by_cases hnm : n = m
     · subst hnm;refine dG ?_;refine uG ?_;refine uG ?_;refine uG ?_;refine uG ?_;refine uG ?_;refine uC ?_;refine uC ?_;refine uG ?_;refine dG ?_;refine dW ?_;refine eW ?_;refine goW ?_;refine cfW ?_;refine goW ?_;refine rW [] ?_;refine dW ?_;refine dW ?_;refine dW ?_;refine dW ?_;refine dB false ?_;refine eW ?_;refine goW ?_;refine cfW ?_;refine goW ?_;refine rW [] ?_;refine dW ?_;refine cG (α := Int × P4) (mk := fun q => .tuple #[.agg #[.bool q.2.1, .slice q.2.2.1 q.2.2.2.1 q.2.2.2.2], .int .i64 0]) (ens := fun q => [.own w.heap.size (av q.2) q.1, .pr (q.1.natAbs = prodN K D)]) (hne := ⟨(0, p0)⟩) (fun w' H => cND (A := fun x => x.natAbs = prodN n (fun i => R.getD i 0)) (A' := fun x => x.natAbs = prodN K D) (HC.out.2.2.2.1 rfl R w' HR.out.1 (H.all (.ls mw ao xs) (by simp))) (fun x (hx : x.natAbs = prodN n (fun i => R.getD i 0)) => show x.natAbs = prodN K D by rw [hx, HD.out.2.2.2.2.2, HC.out.2.2.2.2.2.2 rfl]) H.size) fun q3 => ?_;refine dW ?_;refine dW ?_;refine dW ?_;refine aW fun g10 => ?_;refine sG ?_;refine dW ?_;refine eW ?_;refine goW ?_;obtain ⟨z, pz⟩ := q3;refine prW (A := z.natAbs = prodN K D) (by simp) fun hz => ?_;have HZ := Lib.hid hz;clear hz;refine rW [] ?_;refine dW ?_;refine dB true ?_;refine dW ?_;refine dG ?_;refine dG ?_;refine cGg (mk := av) (ens := fun p => [.own w.heap.size (av p) ((prodN K D : Nat) : Int)]) (fun w' H => by rw [<- HZ.out]; exact cNo' (IAbs_c (av pz) z w' (OwnI.int (H.all (.own w.heap.size (av pz) z) (by simp [av])) (by rw [HZ.out]; omega))) H.size) fun pa => ?_;refine cVg (v := .bool true) (fun w' H => by have := KLike_c (av p) (av pa) ((prodN K D : Nat) : Int) ((prodN K D : Nat) : Int) w' (OwnI.num (H.all (.own w.heap.size (av p) ((prodN K D : Nat) : Int)) (by simp [av]))) (OwnI.num (H.all (.own w.heap.size (av pa) ((prodN K D : Nat) : Int)) (by simp [av]))) (by simp; omega) (by simp; omega); rw [decide_eq_true rfl] at this; exact this) ?_;refine dW ?_;refine dW ?_;refine eW ?_;refine goW ?_;refine fin1 fun w' H => ?_;exact ⟨_, rvT, rfl, H.below⟩
     · have hnm2 : ¬ (n : Int) = (m : Int) := by omega
       refine dG ?_;refine uG ?_;refine uG ?_;refine uG ?_;refine uG ?_;refine uG ?_;refine uC ?_;refine uC ?_;refine uG ?_;refine dG ?_;refine dW ?_;refine eW ?_;refine goW ?_;refine cfW ?_;refine goW ?_;refine rW [] ?_;refine dW ?_;refine dW ?_;refine dW ?_;refine dW ?_;refine dB true ?_;refine eW ?_;refine goW ?_;refine ctW ?_;refine goW ?_;refine rW [] ?_;refine dW ?_;refine eW ?_;refine goW ?_;refine fin1 fun w' H => ?_;exact ⟨_, rvT, rfl, H.below⟩
end Go.Proofs.YtcpjoiffkniccaaGreat
namespace Go.Proofs.YtcpjoiffkniccaaGreat
open Go.ChangeShapes Go.WideShapes Go.ChangeAt Go.RowKit Go.Deep
namespace lawD
theorem own : ownKnob Tryz.prog.godebug = none := by kernel_rfl
set_option maxRecDepth 100000 in
theorem contract (H : Type) (enc : TypeId × Value -> H) (Wd : World) (base : Nat) (args : Array Value) (ds gs : List (DataW H)) (before : List MemPlace)
 (hval : ∀ (j : Nat) t v, Tryz.f3.params[j]? = some t -> args[j]? = some v -> Value.okWide Tryz.prog Wd .any base t v)
 (hW : DataW.Whole enc Tryz.prog Tryz.f3.params.toList Rows.snfDetSpec.vars false Wd args.toList ds gs before) (hk : Rows.uptoSmall H (ds ++ gs) = true) :
 Calls Tryz.prog 3 args Wd fun e W' => ∃ v, e = .returned v /\ Rows.snfDetSpec.post enc Tryz.prog Tryz.f3 false true false false Wd args v W' := by
 have hW' := hW;obtain ⟨p, q, hA0, hV, rfl, hfz, hnd⟩ := hW;have hA : DataW.TrodAll enc Tryz.prog Wd 0 (fun _ => true) true Tryz.f3.params.toList args.toList ds p := hA0;rw [Tryz.params3] at hA hval;obtain ⟨v1, vs1, d1, ds1, p1, q1, hargs, rfl, rfl, h1, r1⟩ := trodAll_cons hA;obtain ⟨rfl, rfl, rfl⟩ := trodAll_nil r1;obtain rfl : args = #[v1] := by cases args; simp_all
 obtain ⟨rfl, rfl⟩ := trodVars_none hV;have hbk := bulk_bound hk;simp only [List.append_nil, Rows.uptoBulkAll] at hbk;obtain ⟨m, n, ao, la, ca, xs, rfl, hla, hca, hA1, hb1⟩ := open_mat (hval 0 _ v1 rfl rfl) h1;have R1 := mat_range (hval 0 _ _ rfl rfl) h1;obtain ⟨L, hL, hLm⟩ : ∃ L, Rows.uptoBulk d1 = L /\ L <= 1048576 := ⟨_, rfl, by omega⟩
 replace hA1 : LsAt Wd L ao xs := LsAt.upD hA1 (by omega)
 have walk : Calls Tryz.prog 3 #[.agg #[.int .i64 m, .int .i64 n, .slice ao la ca]] Wd fun e w' => e = .returned (.bool true) /\ Below Wd.heap.size Wd w' := by
  cases hs : soundM m n la with
  | false => exact SDet_u m n ao la ca Wd R1.1 R1.2 hs
  | true =>
   obtain ⟨r, c, rfl, rfl, hr, hc, rfl⟩ := soundM_nat hs;exact SDet_s r c L ca ao xs Wd hr hc hLm hA1 hla.symm
 refine walk.mono fun e W' ⟨he, hg⟩ => ?_;subst he;exact ⟨_, rfl, law_post (by kernel_rfl) rfl (by kernel_rfl) hW' rfl rfl rfl hg⟩
set_option maxRecDepth 100000 in
theorem lifted (os : Os) (started : os.Started) (H : Type) (enc : TypeId × Value -> H) (F : Stop.Interp) :
 ReturnsInHanded {} Tryz.checked os 3 .any ((Rows.OpenSpec.upto Rows.snfDetSpec).pre6 enc Tryz.prog Tryz.f3 Rows.snfDetUptoRow.domain false) (((Rows.OpenSpec.upto Rows.snfDetSpec).at F).post enc Tryz.prog Tryz.f3 false true false false) := by
 refine returnsInHanded_of_cond (C := Tryz.checked) (s := Rows.OpenSpec.upto Rows.snfDetSpec) (k := Rows.uptoSmall) rfl own started (by kernel_rfl) Tryz.func3
  (OpenSpec.witness (enc := enc) (C := Tryz.checked) (s := Rows.OpenSpec.upto Rows.snfDetSpec) (k := Rows.uptoSmall) rfl false ⟨#[], #[.agg #[.int .i64 0, .int .i64 0, .slice none 0 0]], []⟩ 8 (by kernel_rfl) (by kernel_rfl) (by kernel_rfl)
   (x := ([.agg [.lit (.int .i64 0), .lit (.int .i64 0), .nil]], [], [])) (by kernel_rfl) rfl (by kernel_rfl)) ?_
 intro W base args ds gs before hval hW _ hk _;exact contract H enc W base args ds gs before hval hW hk
theorem over : Rows.snfDetUptoRow.holds Tryz.pinned (Rows.OpenSpec.upto Rows.snfDetSpec) :=
 OpenClaim.holds_of_cond 3 Tryz.f3 rfl rfl rfl rfl rfl rfl rfl ⟨rfl, rfl, rfl, rfl, rfl⟩ rfl rfl rfl rfl rfl (by kernel_rfl) Tryz.func3 (by kernel_rfl)
  (of_decide_eq_true (by kernel_rfl)) (by unfold Func.isWrapper; first | (rw [if_pos (by decide +kernel)]; kernel_rfl) | (rw [if_neg (by decide +kernel)]; exact ⟨rfl, rfl⟩))
  (fun os started H enc _ F => lifted os started H enc F)
theorem proved : Rows.SnfDetUptoSaid := over
end lawD
end Go.Proofs.YtcpjoiffkniccaaGreat
