/- Part 6 of 9 of the proof that the law HnfVolume returns true for every input of bulk at most 1048576 and leaves its arguments as they were: here the contracts of the functions that it calls, and plain lemmas. -/
import Derived.Deep.Upon
import Derived.Deep.RegionLaw
import Derived.Test.YtdgfhcaokigieaaGreatVlE
set_option linter.all false
namespace Go.Proofs.YtdgfhcaokigieaaGreat
open Go.RowKit
attribute [local go_sem] wv
theorem Bex.ex (n : Nat) : ∃ ds, Bex n ds := by
 obtain ⟨l, _, h2, h3⟩ := bval_ex n n (Nat.lt_pow_self (show 1 < HB by decide));exact ⟨_, h3 ▸ Bex.of h2⟩
theorem Bex.halves {ws ds : List Nat} (hw : Ok ws) (h : Bex (nval ws) ds) : ds.length <= 2 * ws.length := by
 rcases Nat.eq_zero_or_pos ds.length with h0 | h0
 · omega
 · have h1 := h.top h0;have h2 := spb_val hw;have h3 := bval_lt (spb_ok ws);rw [h2, spb_length] at h3;have := (Nat.pow_lt_pow_iff_right (show 1 < HB by decide)).1 (Nat.lt_of_le_of_lt h1 h3);omega
section
variable {P : Program} {ops : Array Oper} {Q : Exit -> Act -> World -> Prop} {S0 : Nat -> Prop} {w0 : World} {E0 : List En} {hd : List (List Nat)} {n j s : Nat} {l : List Nat} {G E : List En} {ls : List (Nat × Value)} {op : Op} {ty : TypeId} {pos : String} {af : Array Edge} {f : FuncId} {args : Array Value}
theorem cHv {ao : Option Addr} {cap : Nat} {ws : List Nat} (hw : ∀ w, Fr S0 w0 w (G ++ E) -> WAt w ao ws) (hok : Ok ws) (hcap : ws.length <= cap) (hm : ws.length <= 8796093022208)
 (k : ∀ g c ds, Bex (nval ws) ds -> ds.length <= c -> c <= 35184372088832 -> ds.length <= 17592186044416 -> RWs ⟨Tryz.prog, ops, Q, S0, w0, E0, hd⟩ n l (.wat (some ⟨g, 0, none⟩) ds :: G) E ((s, .slice (some ⟨g, 0, none⟩) ds.length c) :: ls))
 (ho : ops[j]? = some ⟨some s, op, ty, pos, af, none⟩ := by rfl) (hk : (!isDet op && !isNew op && chkO ls op && Nat.blt s n) = true := by kernel_rfl)
 (hr : ∀ w, (execOp (evl ls) ⟨some s, op, ty, pos, af, none⟩).run Tryz.prog w = .ok (.enter 82 #[.slice ao ws.length cap]) w := by intro w; (try simp only [av]); go_simp <;> with_reducible rfl)
 (hst : okSt ops hd j [] = true := by kernel_rfl) : RWs ⟨Tryz.prog, ops, Q, S0, w0, E0, hd⟩ n (j :: l) G E ls := by
 refine cG (α := {p : Nat × Nat × List Nat // Bex (nval ws) p.2.2 /\ p.2.2.length <= p.2.1 /\ p.2.1 <= 35184372088832}) (mk := fun p => .slice (some ⟨p.1.1, 0, none⟩) p.1.2.2.length p.1.2.1) (ens := fun p => [.wat (some ⟨p.1.1, 0, none⟩) p.1.2.2]) (fun w H => (THalves_c ao ws.length cap ws w (hw w H) rfl hcap (by omega)).mono ?_) (fun p => k p.1.1 p.1.2.1 p.1.2.2 p.2.1 p.2.2.1 p.2.2.2 (by have := p.2.1.halves hok; omega)) ho hk hr ?_ hst
 · rintro e w' ⟨⟨b, ds, c, rfl, h1, h2, h3, h4, h5⟩, hb⟩;refine ⟨⟨(b, c, ds), h4, h2, h3⟩, rfl, hb, fun e he => ?_, List.pairwise_singleton ..⟩;rcases List.mem_singleton.1 he with rfl;refine ⟨?_, fun b' ⟨_, o, e⟩ => by cases e; exact h1⟩;have := (RowAt.wat h5 (BOk.append h4.ok (BOk.replicate _)).ok).take ds.length;rw [List.take_left'  rfl] at this;exact this
 · obtain ⟨ds, h⟩ := Bex.ex (nval ws);exact ⟨⟨(0, ds.length, ds), h, Nat.le_refl _, by show ds.length <= _; have := h.halves hok; omega⟩⟩
theorem cDv {ao bo : Option Addr} {A B ca cb : Nat} {xs ys : List Nat} (hA : ∀ w, Fr S0 w0 w (G ++ E) -> WAt w ao xs) (hB : ∀ w, Fr S0 w0 w (G ++ E) -> WAt w bo ys) (eA : Bex A xs) (eB : Bex B ys) (lA : xs.length <= ca) (lB : ys.length <= cb) (cA : ca <= 35184372088832) (cB : cb <= 35184372088832) (hx : xs.length <= 17592186044416) (hy : ys.length <= 17592186044416) (h0 : 0 < ys.length) (hm : En.wat ao xs ∈ G ++ E)
 (k : ∀ qo cq Qs ro cr Rs, Bex (A / B) Qs -> Bex (A % B) Rs -> Qs.length <= cq -> cq <= 35184372088832 -> Rs.length <= cr -> cr <= 35184372088832 -> RWs ⟨Tryz.prog, ops, Q, S0, w0, E0, hd⟩ n l (.wat qo Qs :: .wat ro Rs :: G) E ((s, .tuple #[.slice qo Qs.length cq, .slice ro Rs.length cr]) :: ls))
 (ho : ops[j]? = some ⟨some s, op, ty, pos, af, none⟩ := by rfl) (hk : (!isDet op && !isNew op && chkO ls op && Nat.blt s n) = true := by kernel_rfl)
 (hr : ∀ w, (execOp (evl ls) ⟨some s, op, ty, pos, af, none⟩).run Tryz.prog w = .ok (.enter 83 #[.slice ao xs.length ca, .slice bo ys.length cb]) w := by intro w; (try simp only [av]); go_simp <;> with_reducible rfl)
 (hst : okSt ops hd j [] = true := by kernel_rfl) : RWs ⟨Tryz.prog, ops, Q, S0, w0, E0, hd⟩ n (j :: l) G E ls := by
 refine cR (α := {p : (Option Addr × Nat × List Nat) × (Option Addr × Nat × List Nat) // (Bex (A / B) p.1.2.2 /\ Bex (A % B) p.2.2.2) /\ (p.1.2.2.length <= p.1.2.1 /\ p.1.2.1 <= 35184372088832) /\ p.2.2.2.length <= p.2.2.1 /\ p.2.2.1 <= 35184372088832})
  (mk := fun p => .tuple #[.slice p.1.1.1 p.1.1.2.2.length p.1.1.2.1, .slice p.1.2.1 p.1.2.2.2.length p.1.2.2.1]) (ens := fun p => [.wat p.1.1.1 p.1.1.2.2, .wat p.1.2.1 p.1.2.2.2])
  (fun w H => (TDivide_c A B ao bo ca cb xs ys w ⟨hA w H, eA, lA, cA⟩ ⟨hB w H, eB, lB, cB⟩ hx hy h0).mono ?_) (fun p => k _ _ _ _ _ _ p.2.1.1 p.2.1.2 p.2.2.1.1 p.2.2.1.2 p.2.2.2.1 p.2.2.2.2) ho hk hr ?_ hst
 · rintro e w' ⟨⟨qo, cq, Qs, ro, cr, Rs, rfl, h1, h2, h3, h4⟩, hb⟩;refine ⟨⟨((qo, cq, Qs), (ro, cr, Rs)), ⟨h1.ex, h2.ex⟩, ⟨h1.le, h1.cap⟩, h2.le, h2.cap⟩, rfl, hb, fun e he => ?_⟩;rcases List.mem_cons.1 he with rfl | he
   · exact ⟨h1.at_, rfl, fun b ⟨_, o, e⟩ => .inl (h3 b o e)⟩
   · rcases List.mem_singleton.1 he with rfl;refine ⟨h2.at_, rfl, fun b ⟨hl, o, e⟩ => ?_⟩;rcases h4 with h4 | ⟨h4, h5⟩
     · exact .inl (h4 b o e)
     · have h4 : ro = ao := h4;have h5 : Rs = xs := h5;exact .inr ⟨.wat ao xs, hm, rfl, by subst h4 h5; exact ⟨hl, o, e⟩⟩
 · obtain ⟨d1, h1⟩ := Bex.ex (A / B);obtain ⟨d2, h2⟩ := Bex.ex (A % B);have b1 : d1.length <= xs.length := by
    rcases Nat.lt_or_ge xs.length d1.length with h | h
    · have := eA.shorter h1 h;have := Nat.div_le_self A B;omega
    · exact h
   have b2 : d2.length <= xs.length := by
    rcases Nat.lt_or_ge xs.length d2.length with h | h
    · have := eA.shorter h2 h;have := Nat.mod_le A B;omega
    · exact h
   exact ⟨⟨((none, d1.length, d1), (none, d2.length, d2)), ⟨h1, h2⟩, ⟨Nat.le_refl _, Nat.le_trans b1 (by omega)⟩, Nat.le_refl _, Nat.le_trans b2 (by omega)⟩⟩
theorem cWo {ao : Option Addr} {cap m : Nat} {ds : List Nat} (hw : ∀ w, Fr S0 w0 w (G ++ E) -> WAt w ao ds) (hx : Bex m ds) (hc : ds.length <= cap) (hm : cap <= 35184372088832)
 (k : ∀ o c, RWs ⟨Tryz.prog, ops, Q, S0, w0, E0, hd⟩ n l (.ow w0.heap.size o m c :: G) E ((s, .slice o (wlen m) c) :: ls))
 (ho : ops[j]? = some ⟨some s, op, ty, pos, af, none⟩ := by rfl) (hk : (!isDet op && !isNew op && chkO ls op && Nat.blt s n) = true := by kernel_rfl)
 (hr : ∀ w, (execOp (evl ls) ⟨some s, op, ty, pos, af, none⟩).run Tryz.prog w = .ok (.enter 84 #[.slice ao ds.length cap]) w := by intro w; (try simp only [av]); go_simp <;> with_reducible rfl)
 (hst : okSt ops hd j [] = true := by kernel_rfl) : RWs ⟨Tryz.prog, ops, Q, S0, w0, E0, hd⟩ n (j :: l) G E ls := by
 refine cG (α := Option Addr × Nat) (mk := fun p => .slice p.1 (wlen m) p.2) (ens := fun p => [.ow w0.heap.size p.1 m p.2]) (fun w H => (TWords_c ao ds.length cap m ds w (hw w H) hx.ok hx.val rfl hc hm).mono (by
  rintro e w' ⟨⟨o, c, rfl, h1⟩, hb⟩;refine ⟨(o, c), rfl, hb, fun e he => ?_, List.pairwise_singleton ..⟩;rcases List.mem_singleton.1 he with rfl;exact ⟨h1.mono H.size, fun _ h => h.elim⟩)) (fun p => k p.1 p.2) ho hk hr ⟨(none, 0)⟩ hst
end
set_option maxRecDepth 100000 in
set_option maxHeartbeats 4000000 in
theorem TDivMod_c (ao bo : Option Addr) (la lb ca cb : Nat) (us vs : List Nat) (w : World) (hA : WAt w ao us) (hB : WAt w bo vs) (hla : la = us.length) (hlb : lb = vs.length) (hca : la <= ca) (hcb : lb <= cb) (hma : la <= 8796093022208) (hmb : lb <= 8796093022208) (h0 : nval vs ≠ 0) :
 Calls Tryz.prog 63 #[.slice ao la ca, .slice bo lb cb] w fun e w' => (∃ aq cq ar cr, e = .returned (.tuple #[.slice aq (wlen (nval us / nval vs)) cq, .slice ar (wlen (nval us % nval vs)) cr, .int .i64 0]) /\ OwnW w' w.heap.size aq (wlen (nval us / nval vs)) cq (dig (nval us / nval vs)) /\ OwnW w' w.heap.size ar (wlen (nval us % nval vs)) cr (dig (nval us % nval vs))) /\ Below w.heap.size w w' := by
 subst hla hlb;refine funW (S0 := fun _ => False) Tryz.func63 (Fr.nil _ w) ?_;refine goW ?_;refine rW [] ?_;refine dW ?_;refine dW ?_;refine dW ?_;refine eW ?_;refine goW ?_;refine rW [] ?_;refine dW ?_;refine cHv (fun w' H => hB.below H.below) hB.ok hcb hmb fun g7 c7 ys hy hy1 hy2 hy3 => ?_;refine dW ?_;refine eW ?_;have hy0 : 0 < ys.length := by have := hy.zero; omega
 have hy0' : ¬ ys.length = 0 := by omega
 refine goW ?_;refine rW [] ?_;refine dW ?_;refine dW ?_;refine dB false ?_;refine eW ?_;refine goW ?_;refine cfW ?_;refine goW ?_;refine rW [] ?_;refine dW ?_;refine cHv (fun w' H => hA.below H.below) hA.ok hca hma fun g8 c8 xs hx hx1 hx2 hx3 => ?_;refine dW ?_;refine eW ?_;refine goW ?_;refine rW [] ?_;refine dW ?_;refine dW ?_;refine cDv (fun w' H => H.m0) (fun w' H => H.m1) hx hy hx1 hy1 hx2 hy2 hx3 hy3 hy0 (List.mem_cons_self ..) fun qo cq Qs ro cr Rs hq hr hq1 hq2 hr1 hr2 => ?_;refine dW ?_;refine dW ?_;refine dW ?_;refine dW ?_;refine dW ?_;refine eW ?_;refine goW ?_;refine rW [] ?_;refine dW ?_;refine cWo (fun w' H => H.m0) hq hq1 hq2 fun o1 c1 => ?_;refine dW ?_;refine cWo (fun w' H => H.m2) hr hr1 hr2 fun o2 c2 => ?_;refine dW ?_;refine dW ?_;refine dW ?_;refine eW ?_;refine goW ?_;refine fin3 (fun w' H => ?_);exact ⟨_, _, _, rvT, rvT, rvT, ⟨o1, c1, o2, c2, rfl, H.m1, H.m0⟩, H.below⟩
attribute [local go_sem] wv
structure GdX where
 xo : Option Addr
 cx : Nat
 xs : List Nat
 yo : Option Addr
 cy : Nat
 ys : List Nat
structure GdI (g : Nat) (z : GdX) : Prop where
 x1 : Bex (bval z.xs) z.xs
 x2 : z.xs.length <= z.cx
 x3 : z.cx <= 35184372088832
 x4 : z.xs.length <= 17592186044416
 y1 : Bex (bval z.ys) z.ys
 y2 : z.ys.length <= z.cy
 y3 : z.cy <= 35184372088832
 y4 : z.ys.length <= 17592186044416
 gcd : Nat.gcd (bval z.xs) (bval z.ys) = g
theorem Bex.self {n : Nat} {ds : List Nat} (h : Bex n ds) : Bex (bval ds) ds := ⟨h.ok, h.trim, rfl⟩
set_option maxRecDepth 100000 in
set_option maxHeartbeats 4000000 in
theorem TGcd_c (ao bo : Option Addr) (la lb ca cb : Nat) (us vs : List Nat) (w : World) (hA : WAt w ao us) (hB : WAt w bo vs) (hla : la = us.length) (hlb : lb = vs.length) (hca : la <= ca) (hcb : lb <= cb) (hma : la <= 8796093022208) (hmb : lb <= 8796093022208) :
 Calls Tryz.prog 94 #[.slice ao la ca, .slice bo lb cb] w fun e w' => (∃ o c, e = .returned (.slice o (wlen (Nat.gcd (nval us) (nval vs))) c) /\ OwnW w' w.heap.size o (wlen (Nat.gcd (nval us) (nval vs))) c (dig (Nat.gcd (nval us) (nval vs)))) /\ Below w.heap.size w w' := by
 subst hla hlb;obtain ⟨g, hg⟩ : ∃ g, Nat.gcd (nval us) (nval vs) = g := ⟨_, rfl⟩;rw [hg];refine funW (S0 := fun _ => False) Tryz.func94 (Fr.nil _ w) ?_;refine goW ?_;refine rW [] ?_;refine dW ?_;refine eW ?_;refine goW ?_;refine rW [] ?_;refine dW ?_;refine cHv (fun w' H => hA.below H.below) hA.ok hca hma fun g5 c5 xs hx hx1 hx2 hx3 => ?_;refine dW ?_;refine eW ?_;refine goW ?_;refine rW [] ?_;refine dW ?_;refine cHv (fun w' H => hB.below H.below) hB.ok hcb hmb fun g6 c6 ys hy hy1 hy2 hy3 => ?_;refine dW ?_;refine eW ?_;refine goW ?_;refine loopW (X := GdX) (GdI g) (fun z => bval z.ys) (fun z => [(6, .slice z.yo z.ys.length z.cy), (5, .slice z.xo z.xs.length z.cx)]) (fun z => [.wat z.xo z.xs, .wat z.yo z.ys]) ⟨some ⟨g5, 0, none⟩, c5, xs, some ⟨g6, 0, none⟩, c6, ys⟩ ⟨hx.self, hx1, hx2, hx3, hy.self, hy1, hy2, hy3, by rw [hx.val, hy.val]; exact hg⟩ fun z hz => ?_;obtain ⟨xo, cx, xs, yo, cy, ys⟩ := z;obtain ⟨x1, x2, x3, x4, y1, y2, y3, y4, hgcd⟩ := hz;have x1 : Bex (bval xs) xs := x1;have y1 : Bex (bval ys) ys := y1;have hgcd : Nat.gcd (bval xs) (bval ys) = g := hgcd;have y4 : ys.length <= 17592186044416 := y4;by_cases h0 : 0 < ys.length
 · refine goW ?_;refine rW [] ?_;refine dW ?_;refine dW ?_;refine dB true ?_;refine eW ?_;refine goW ?_;refine ctW ?_;refine goW ?_;refine rW [] ?_;refine dW ?_;refine dW ?_;refine cDv (fun w' H => H.m0) (fun w' H => H.m1) x1 y1 x2 y2 x3 y3 x4 y4 h0 (List.mem_cons_self ..) fun qo cq Qs ro cr Rs hq hr hq1 hq2 hr1 hr2 => ?_;refine dW ?_;refine dW ?_;refine dW ?_;refine dW ?_;refine dW ?_;refine eW ?_;refine goW ?_;refine rW [] ?_;refine dW ?_;refine dW ?_;refine eW ?_;refine goW ?_;refine rW [] ?_;refine dW ?_;refine dW ?_;refine eW ?_;refine goW ?_;have hb0 : 0 < bval ys := by have := y1.zero; omega
   have hlt : bval Rs < bval ys := by rw [hr.val]; exact Nat.mod_lt _ hb0
   have hl4 : Rs.length <= ys.length := by
    rcases Nat.lt_or_ge ys.length Rs.length with h | h
    · have := y1.shorter hr.self h; omega
    · exact h
   exact backW (⟨yo, cy, ys, ro, cr, Rs⟩ : GdX) ⟨⟨y1, y2, y3, y4, hr.self, hr1, hr2, Nat.le_trans hl4 y4, by show Nat.gcd (bval ys) (bval Rs) = g; rw [hr.val, <- hgcd, Nat.gcd_comm (bval xs), Nat.gcd_rec (bval ys) (bval xs), Nat.gcd_comm]⟩, hlt⟩
 · have hy0 : ys.length = 0 := by omega
   have hb0 : bval ys = 0 := y1.zero.1 hy0;have e : bval xs = g := by rw [<- hgcd, hb0, Nat.gcd_zero_right]
   refine goW ?_;refine rW [] ?_;refine dW ?_;refine dW ?_;refine dB false ?_;refine eW ?_;refine goW ?_;refine cfW ?_;refine goW ?_;refine rW [] ?_;refine dW ?_;refine cWo (m := g) (fun w' H => H.m0) (e ▸ x1) x2 x3 fun o1 c1 => ?_;refine dW ?_;refine eW ?_;refine goW ?_;refine fin1 (fun w' H => ?_);exact ⟨_, rvT, ⟨o1, c1, rfl, H.m0⟩, H.below⟩
theorem hval_drop_take (D : List Nat) (j m : Nat) : hval ((D.drop j).take (m + 1)) = gw D j + HX * hval ((D.drop (j + 1)).take m) := by
 by_cases hj : j < D.length
 · rw [List.drop_eq_getElem_cons hj, List.take_succ_cons, hval];simp [gw, hj]
 · rw [List.drop_of_length_le (by omega), List.drop_of_length_le (by omega)];simp [hval, gw, List.getElem?_eq_none (show D.length <= j by omega)]
theorem hval_part_lt {D : List Nat} (h : HOk D) (j m : Nat) : hval ((D.drop j).take m) < HX ^ m := by
 refine Nat.lt_of_lt_of_le (hval_lt ((h.drop j).take m)) (Nat.pow_le_pow_right HX_pos (by simp; omega))
structure RowW (w : World) (b N : Nat) (D : List Nat) (W' : World) : Prop where
 row : RowAt W' b 41 ((D ++ List.replicate (N - D.length) 0).map wv)
 bel : Below w.heap.size w W'
 ge : w.heap.size <= b
theorem RowW.spare {w : World} {b N n : Nat} {D : List Nat} {W' : World} (h : RowW w b N D W') (hn : D.length = n) (hN : n + 1 <= N) (X : Obj) : (∀ j, j < 1 -> ((W'.alloc X).cell? ⟨b, 0 + n * 1 + j, none⟩).isSome = true) /\ (∀ j, j < 1 -> (W'.alloc X).frozen? ⟨b, 0 + n * 1 + j, none⟩ = false) := by
 have hr := h.row.alloc X;refine ⟨fun j hj => ?_, fun j _ => hr.free _⟩;rw [hr.cell];have : 0 + n * 1 + j < ((D ++ List.replicate (N - D.length) 0).map wv).length := by simp; omega
 simp only [List.getElem?_eq_getElem this]; rfl
theorem RowW.app {w : World} {b N n : Nat} {D : List Nat} {W' : World} (h : RowW w b N D W') (hn : D.length = n) (hN : n + 1 <= N) (x : Nat) (W2 : World)
 (e : (W'.alloc (.cells #[.int .u64 (x : Int)] 41)).setCells b n [.int .u64 (x : Int)] = W2) : RowW w b N (D ++ [x]) W2 := by
 subst hn;have hb1 : Below W'.heap.size W' (W'.alloc (.cells #[.int .u64 (x : Int)] 41)) := (Below.refl _ _).alloc (Nat.le_refl _) _;have h2 := (h.row.alloc (.cells #[.int .u64 (x : Int)] 41)).setWord D.length x;have e2 : (W'.alloc (.cells #[.int .u64 (x : Int)] 41)).setCell ⟨b, D.length, none⟩ (.int .u64 (x : Int)) = W2 := by rw [<- e]; rfl
 rw [e2] at h2;refine ⟨?_, ?_, h.ge⟩
 · have e3 : (D ++ List.replicate (N - D.length) 0).set D.length x = (D ++ [x]) ++ List.replicate (N - (D ++ [x]).length) 0 := by
    obtain ⟨q, hq⟩ : ∃ q, N - D.length = q + 1 := ⟨N - D.length - 1, by omega⟩;have hq2 : N - (D ++ [x]).length = q := by simp; omega
    rw [hq, hq2, List.replicate_succ, List.set_append_right _ _ (by simp)];simp
   rw [<- e3]; exact h2
 · rw [<- e2]; exact (h.bel.trans (hb1.mono h.bel.size)).setCell (p := ⟨b, D.length, none⟩) h.ge _
set_option maxRecDepth 100000 in
set_option maxHeartbeats 4000000 in
theorem RJoin_c (ao : Option Addr) (len cap : Nat) (ds : List Nat) (w : World) (hA : DAt w ao ds) (hok : HOk ds) (hl : len = ds.length) (hcap : len <= cap) (hm : cap <= 35184372088832) :
 Calls Tryz.prog 64 #[.slice ao len cap] w fun e w' => (∃ ao' cap', e = .returned (.slice ao' (wlen (hval ds)) cap') /\ OwnW w' w.heap.size ao' (wlen (hval ds)) cap' (dig (hval ds))) /\ Below w.heap.size w w' := by
 have hH := Hex.of hok;have htl := tlen_le ds;have ht := RTrim_c ao len cap ds w hA hl hcap (by omega);rw [<- hl] at htl;have hl2 : (ds.take (tlen ds)).length = tlen ds := by rw [List.length_take, Nat.min_eq_left (tlen_le ds)]
 have hA2 := hA.take (tlen ds);obtain ⟨D, hD⟩ : ∃ D, ds.take (tlen ds) = D := ⟨_, rfl⟩;obtain ⟨v, hv⟩ : ∃ v, hval ds = v := ⟨_, rfl⟩;obtain ⟨L, hL⟩ : ∃ L, tlen ds = L := ⟨_, rfl⟩;rw [hD] at hH hl2 hA2;rw [hv] at hH ⊢;rw [hL] at ht hl2 htl;have HT := Lib.hid ht; clear ht;have HH := Lib.hid hH; clear hH;have HA2 := Lib.hid hA2; clear hA2;have HL2 := Lib.hid hl2; clear hl2;clear hA hD hv hL hok hl;obtain ⟨N, hN⟩ : ∃ N, L / 4 + 1 = N := ⟨_, rfl⟩;have hNb : N <= 35184372088832 := by omega
 have HN := Lib.hid hN; clear hN;go_enter Tryz.func64, Tryz.ntmps64;go_wp2_with fail
 refine HT.out.mono ?_;rintro e w9 ⟨rfl, rfl⟩;have hdv : IntKind.i64.wrap ((L : Int).tdiv 4) = ((L / 4 : Nat) : Int) := by
  rw [show (L : Int).tdiv 4 = ((L / 4 : Nat) : Int) from (Int.ofNat_tdiv L 4).symm]; exact wrap_small (by omega) (by omega)
 go_wp2_with (at_make; refine mk_words rfl _ _ rfl 0 N rfl rfl rfl (by have := HN.out; omega) (Nat.zero_le _) (by omega) ?_; intro b w1 hm1)
 have hI : RowW w b N [] w1 := ⟨by have := hm1.row; simpa using this, hm1.below, by have := hm1.at_; omega⟩;have HI := Lib.hid hI; clear hI hm1 hdv;go_loopw [3, 4] (fun l_ i_ wr => ∃ (q : Nat), 4 * q < L + 4 /\ i_ = .int .i64 (4 * (q : Int)) /\ l_ = .slice (some ⟨b, 0, none⟩) q N /\ Hid (RowW w b N ((List.range q).map (ch4 D)) wr)) (fun _ i_ _ => L + 4 - (intOf i_).toNat)
 case atStart => exact ⟨0, by omega, by simp, rfl, Lib.hid (by simpa using HI.out)⟩
 case round =>
  obtain ⟨q, hq, rfl, rfl, hIr⟩ := hrel;by_cases hin : 4 * q < L
  · have hin1 : 4 * (q : Int) < (L : Int) := by omega
    have hroom : q + 1 <= N := by have := HN.out; omega
    have hqb : 4 * (q : Int) <= 140737488355328 := by omega
    go_wp2;go_loopw [5, 6] (fun x_ k_ wq => ∃ (j : Nat), j <= 4 /\ k_ = .int .i64 ((j : Int) - 1) /\ x_ = .int .u64 ((hval ((D.drop (4 * q + j)).take (4 - j)) : Nat) : Int) /\ wq = wr) (fun _ k_ _ => (intOf k_ + 1).toNat)
    case atStart => exact ⟨4, Nat.le_refl _, rfl, by simp [hval], rfl⟩
    case round =>
     obtain ⟨j, hj, rfl, rfl, rfl⟩ := hrel;rcases Nat.eq_zero_or_pos j with h0 | h0
     · subst h0;have hx : hval ((D.drop (4 * q + 0)).take (4 - 0)) = ch4 D q := rfl;rw [hx];have hlen : ((List.range q).map (ch4 D)).length = q := by simp
       have hsp := fun X => hIr.out.spare hlen hroom X;have hnext : (List.range (q + 1)).map (ch4 D) = (List.range q).map (ch4 D) ++ [ch4 D q] := by rw [List.range_succ]; simp
       have HNX := Lib.hid hnext; clear hnext hx;generalize ch4 D q = x at *;go_wp2_with (at_builtin; refine wpList_app rfl _ _ 35 rfl 41 (.int .u64 0) 1 8 Tryz.underlying35 info_u64 b 0 q N ⟨wr.heap.size, 0, none⟩ 1 1 [.int .u64 (x : Int)] rfl rfl rfl (cell_one_new _ _ _) (by simp [Value.oneCell']) hroom (hsp _).1 (hsp _).2 ?_; obtain ⟨w7, hw7⟩ : ∃ w7, (wr.alloc (.cells #[.int .u64 (x : Int)] 41)).setCells b q [.int .u64 (x : Int)] = w7 := ⟨_, rfl⟩; have hI7 := hIr.out.app hlen hroom x w7 hw7; simp only [Nat.zero_add, Nat.mul_one]; rw [hw7]; have HI7 := Lib.hid hI7; clear hI7 hw7)
       go_roundw
       case rel =>
        refine ⟨q + 1, by omega, by go_num, by go_num, Lib.hid ?_⟩;rw [HNX.out]; exact HI7.out
       case measure => simp [intOf]; omega
     · obtain ⟨j', rfl⟩ : ∃ j', j = j' + 1 := ⟨j - 1, by omega⟩;have e1 : ((j' + 1 : Nat) : Int) - 1 = (j' : Int) := by omega
       rw [e1]; clear e1;have hpos : (0 : Int) <= (j' : Int) := by omega
       obtain ⟨y, hy⟩ : ∃ y, hval ((D.drop (4 * q + (j' + 1))).take (4 - (j' + 1))) = y := ⟨_, rfl⟩;have hyl : y < HX ^ 3 := by
        rw [<- hy];exact Nat.lt_of_lt_of_le (hval_part_lt HH.out.ok _ _) (Nat.pow_le_pow_right HX_pos (by omega))
       have hnx : hval ((D.drop (4 * q + j')).take (4 - j')) = gw D (4 * q + j') + HX * y := by
        rw [show 4 - j' = 4 - (j' + 1) + 1 by omega, hval_drop_take, <- hy]; rfl
       rw [hy]; clear hy;have hdl := HH.out.ok.gw_ (4 * q + j');have hm1 : mullo y 65536 = HX * y := by
        unfold mullo; rw [Nat.mod_eq_of_lt]
        · exact Nat.mul_comm ..
        · unfold W; unfold HX at hyl; omega
       have hjb : (j' : Int) <= 3 := by omega
       have HNX := Lib.hid (And.intro hnx (And.intro hdl (And.intro hyl hm1))); clear hnx hdl hyl hm1;by_cases hil : 4 * q + j' < L
       · have hil1 : 4 * (q : Int) + (j' : Int) < (L : Int) := by omega
         obtain ⟨ab, aoff, rfl, hab, hc⟩ := (HA2.out.below hIr.out.bel) (by have := HL2.out; omega);have hcell := hc (4 * q + j') (by have := HL2.out; omega);clear hc;obtain ⟨d, hd⟩ : ∃ d, gw D (4 * q + j') = d := ⟨_, rfl⟩;rw [hd] at HNX hcell;clear hd;have hdW : d < W := Nat.lt_trans HNX.out.2.1 (by unfold HX W; omega);go_wp2_with (first
          | (with_reducible show wpList _ _ _ (⟨some 25, _, _, _, _, _⟩ :: _) _ _; refine op_mul rfl _ _ rfl y 65536 rfl rfl rfl rfl ?_)
          | (with_reducible show wpList _ _ _ (⟨some 39, _, _, _, _, _⟩ :: _) _ _; refine op_of_run rfl (run_toU _ _ _ rfl d hdW rfl) ?_)
          | (with_reducible show wpList _ _ _ (⟨some 40, _, _, _, _, _⟩ :: _) _ _; refine op_add rfl _ _ rfl (mullo y 65536) d rfl rfl rfl rfl ?_))
         go_roundw
         case rel =>
          refine ⟨j', by omega, by go_num, ?_, trivial⟩;rw [HNX.out.1, HNX.out.2.2.2];congr 2;unfold addlo;have h1 := HNX.out.2.1;have h2 := HNX.out.2.2.1;rw [Nat.mod_eq_of_lt]
          · omega
          · unfold W; unfold HX at *; omega
         case measure => (simp [intOf] <;> omega)
       · have hil1 : ¬ 4 * (q : Int) + (j' : Int) < (L : Int) := by omega
         have hd0 : gw D (4 * q + j') = 0 := by
          unfold gw; rw [List.getD_eq_getElem?_getD, List.getElem?_eq_none (by have := HL2.out; omega)]; rfl
         have HD0 := Lib.hid hd0; clear hd0;go_wp2_with (first
          | (with_reducible show wpList _ _ _ (⟨some 25, _, _, _, _, _⟩ :: _) _ _; refine op_mul rfl _ _ rfl y 65536 rfl rfl rfl rfl ?_))
         go_roundw
         case rel =>
          refine ⟨j', by omega, by go_num, ?_, trivial⟩;rw [HNX.out.1, HNX.out.2.2.2, HD0.out]; simp
         case measure => (simp [intOf] <;> omega)
  · have hin1 : ¬ 4 * (q : Int) < (L : Int) := by omega
    have hdig := ch4_dig (n := q) HH.out (by have := HL2.out; omega) (by have := HL2.out; omega);have hwl : wlen v = q := by
     have h2 := congrArg List.length hdig;rw [List.length_map, List.length_range] at h2;unfold wlen; exact h2.symm
    have hok2 := ch4_ok HH.out.ok q;have HDW := Lib.hid (And.intro hdig (And.intro hwl hok2)); clear hdig hwl hok2;go_wp2;go_ret;rw [HDW.out.2.1];refine ⟨⟨some ⟨b, 0, none⟩, N, rfl, ?_⟩, hIr.out.bel⟩;have h1 := hIr.out.row.own (n := q) (B := w.heap.size) (cap := N) (HDW.out.2.2.append (Ok.replicate _)) hIr.out.ge (by simp) (by have := HN.out; simp; omega) (by unfold maxLen; omega);rw [List.take_left' (by simp), HDW.out.1] at h1;exact h1
theorem run_remI (ρ : Operand -> Value) (o : Oper) (p q : Operand) {w : World} (ho : o.op = .binOp .rem 3 p q 3) (x y : Nat) (hx : x < 9223372036854775808) (hy : y ≠ 0) (hp : ρ p = .int .i64 (x : Int)) (hq : ρ q = .int .i64 (y : Int)) :
 (execOp ρ o).run Tryz.prog w = .ok (.value (.int .i64 ((x % y : Nat) : Int))) w := by
 obtain ⟨dst, op, type, pos, after, guard⟩ := o;simp only at ho; subst ho;have h1 := Nat.mod_le x y;have e3 : IntKind.i64.wrap ((x : Int).tmod (y : Int)) = ((x % y : Nat) : Int) := by
  rw [<- Int.ofNat_tmod];generalize x % y = z at *;exact wrap_small (by omega) (by omega)
 simp [go_sem, hp, hq, hy, e3];exact (Int.ofNat_tmod x y).symm.trans (Int.natCast_emod x y)
theorem run_quoI (ρ : Operand -> Value) (o : Oper) (p q : Operand) {w : World} (ho : o.op = .binOp .quo 3 p q 3) (x y : Nat) (hx : x < 9223372036854775808) (hy : y ≠ 0) (hp : ρ p = .int .i64 (x : Int)) (hq : ρ q = .int .i64 (y : Int)) :
 (execOp ρ o).run Tryz.prog w = .ok (.value (.int .i64 ((x / y : Nat) : Int))) w := by
 obtain ⟨dst, op, type, pos, after, guard⟩ := o;simp only at ho; subst ho;have h1 := Nat.div_le_self x y;have e3 : IntKind.i64.wrap ((x : Int).tdiv (y : Int)) = ((x / y : Nat) : Int) := by
  rw [<- Int.ofNat_tdiv];generalize x / y = z at *;exact wrap_small (by omega) (by omega)
 simp [go_sem, hp, hq, hy, e3];have e4 := Int.natCast_ediv x y;rw [<- e4];generalize x / y = z at *;exact wrap_small (by omega) (by omega)
theorem op_remI {w : World} {ops : Array Oper} {rest : List Oper} {o : Oper} {a : Act} {Q : Exit -> Act -> World -> Prop} (hg : o.guard = none) (p q : Operand) (ho : o.op = .binOp .rem 3 p q 3) {X Y : Int} (x y : Nat) (hx : x < 9223372036854775808) (hy : y ≠ 0)
 (hp : a.eval p = .int .i64 X) (hq : a.eval q = .int .i64 Y) (hX : X = (x : Int)) (hY : Y = (y : Int))
 (h : wpList Tryz.prog ops Q rest (a.put o.dst (.int .i64 ((x % y : Nat) : Int))) w) : wpList Tryz.prog ops Q (o :: rest) a w := by
 subst hX hY;exact op_of_run hg (run_remI _ _ p q ho x y hx hy hp hq) h
theorem op_quoI {w : World} {ops : Array Oper} {rest : List Oper} {o : Oper} {a : Act} {Q : Exit -> Act -> World -> Prop} (hg : o.guard = none) (p q : Operand) (ho : o.op = .binOp .quo 3 p q 3) {X Y : Int} (x y : Nat) (hx : x < 9223372036854775808) (hy : y ≠ 0)
 (hp : a.eval p = .int .i64 X) (hq : a.eval q = .int .i64 Y) (hX : X = (x : Int)) (hY : Y = (y : Int))
 (h : wpList Tryz.prog ops Q rest (a.put o.dst (.int .i64 ((x / y : Nat) : Int))) w) : wpList Tryz.prog ops Q (o :: rest) a w := by
 subst hX hY;exact op_of_run hg (run_quoI _ _ p q ho x y hx hy hp hq) h
set_option maxHeartbeats 1000000 in
theorem RLeast01_c (ao : Option Addr) (len cap : Nat) (ws : List Nat) (w : World) (hA : WAt w ao ws) (hl : len = ws.length) (hm : len <= 8796093022208) :
 Calls Tryz.prog 46 #[.slice ao len cap] w fun e w' => (∃ ao' cap', e = .returned (.slice ao' (wlen (nval ws)) cap') /\ OwnW w' w.heap.size ao' (wlen (nval ws)) cap' (dig (nval ws))) /\ Below w.heap.size w w' := by
 have HSp := Lib.hid (RSplit_c ao len cap ws w hA hl hm);clear hA hl;go_enter Tryz.func46, Tryz.ntmps46;go_wp2_with fail
 refine HSp.out.mono ?_;rintro e w2 ⟨⟨b, ds, rfl, hb, hH, hD, hdl, _⟩, hb2⟩;have hj := RJoin_c (some ⟨b, 0, none⟩) ds.length (4 * len) ds w2 hD hH.ok rfl hdl (by omega);rw [hH.val] at hj;have HJ := Lib.hid hj; clear hj hH hD;have HB2 := Lib.hid hb2; clear hb2;go_wp2_with fail
 refine HJ.out.mono ?_;rintro e w3 ⟨⟨ao', cap', rfl, hO⟩, hb3⟩;have HO := Lib.hid (hO.mono HB2.out.size);have HB3 := Lib.hid (HB2.out.trans (hb3.mono HB2.out.size));clear hO hb3;go_wp2;go_ret;exact ⟨⟨ao', cap', rfl, HO.out⟩, HB3.out⟩
theorem gw_out {l : List Nat} {i : Nat} (h : l.length <= i) : gw l i = 0 := by
 unfold gw; rw [List.getD_eq_getElem?_getD, List.getElem?_eq_none h]; rfl
set_option maxHeartbeats 1000000 in
theorem RAt_c (ao : Option Addr) (len cap : Nat) (ds : List Nat) (i : Nat) (w : World) (hA : DAt w ao ds) (hl : len = ds.length) (hm : len <= 35184372088832) (hi : i <= 35184372088832) :
 Calls Tryz.prog 107 #[.slice ao len cap, .int .i64 (i : Int)] w fun e w' => e = .returned (.int .i64 ((gw ds i : Nat) : Int)) /\ w' = w := by
 subst hl;have HA := Lib.hid hA; clear hA;go_enter Tryz.func107, Tryz.ntmps107;by_cases h : ds.length <= i
 · rw [gw_out h];have h1 : (ds.length : Int) <= (i : Int) := by omega
   go_wp2;go_ret;exact ⟨rfl, rfl⟩
 · have h1 : ¬ (ds.length : Int) <= (i : Int) := by omega
   have h2 : (i : Int) < (ds.length : Int) := by omega
   obtain ⟨b, o, rfl, hb, hc⟩ := HA.out (by omega);have hcell := hc i (by omega);clear hc;go_wp2;go_ret;exact ⟨rfl, rfl⟩
set_option maxHeartbeats 2000000 in
theorem ROrder_c (aoA aoB : Option Addr) (lA cA lB cB n m : Nat) (xs ys : List Nat) (w : World) (hA : DAt w aoA xs) (hB : DAt w aoB ys) (hx : Hex n xs) (hy : Hex m ys) (hlA : lA = xs.length) (hlB : lB = ys.length) (hmA : lA <= 35184372088832) (hmB : lB <= 35184372088832) :
 Calls Tryz.prog 48 #[.slice aoA lA cA, .slice aoB lB cB] w fun e w' => e = .returned (.int .i64 (ncmp n m)) /\ Below w.heap.size w w' := by
 subst hlA hlB;have HX' := Lib.hid hx; clear hx;have HY' := Lib.hid hy; clear hy;have HA := Lib.hid hA; clear hA;have HB := Lib.hid hB; clear hB;by_cases hs : xs.length = ys.length
 · have hb : (((xs.length : Nat) : Int) != ((ys.length : Nat) : Int)) = false := by rw [hs]; simp
   have Hs := Lib.hid hs; clear hs;go_enter Tryz.func48, Tryz.ntmps48;go_wp2;go_loopw [5] (fun i wr => ∃ k : Nat, k <= xs.length /\ i = .int .i64 ((k : Int) - 1) /\ Hid (∀ j, k <= j -> gw xs j = gw ys j) /\ Below w.heap.size w wr) (fun i _ => (intOf i + 1).toNat)
   case atStart => exact ⟨xs.length, Nat.le_refl _, rfl, Lib.hid (fun j hj => by rw [gw_out hj, gw_out (by have := Hs.out; omega)]), Below.refl _ _⟩
   case round =>
    obtain ⟨k, hk, rfl, hag, hbl⟩ := hrel;by_cases h0 : 0 < k
    · have hk2 : k <= ys.length := by have := Hs.out; omega
      obtain ⟨b1, o1, rfl, hb1, hc1⟩ := (HA.out.below hbl) (by omega);obtain ⟨b2, o2, rfl, hb2, hc2⟩ := (HB.out.below hbl) (by omega);have e1 := hc1 (k - 1) (by omega);have e2 := hc2 (k - 1) (by omega);clear hc1 hc2;have i1 : (k : Int) - 1 < (xs.length : Int) := by omega
      have i2 : (k : Int) - 1 < (ys.length : Int) := by omega
      have i3 : (0 : Int) <= (k : Int) - 1 := by omega
      by_cases hlt : gw xs (k - 1) < gw ys (k - 1)
      · have t1 : decide (((gw xs (k - 1) : Nat) : Int) < ((gw ys (k - 1) : Nat) : Int)) = true := by simp; omega
        go_wp2
        go_quiet (fail)
        go_wp2;go_ret;refine ⟨ret_int (ncmp_lt ?_).symm, below_drewN hbl _⟩;rw [<- HX'.out.val, <- HY'.out.val];exact hval_lt_of HX'.out.ok Hs.out (k - 1) (by omega) (fun j hj => hag.out j (by omega)) hlt
      · have t1 : decide (((gw xs (k - 1) : Nat) : Int) < ((gw ys (k - 1) : Nat) : Int)) = false := by simp; omega
        by_cases hgt : gw ys (k - 1) < gw xs (k - 1)
        · have t2 : decide (((gw ys (k - 1) : Nat) : Int) < ((gw xs (k - 1) : Nat) : Int)) = true := by simp; omega
          go_wp2
          go_quiet (fail)
          go_wp2
          go_quiet (fail)
          go_wp2;go_ret;refine ⟨ret_int (ncmp_gt ?_).symm, below_drewN (below_drewN hbl _) _⟩;rw [<- HX'.out.val, <- HY'.out.val];exact hval_lt_of HY'.out.ok Hs.out.symm (k - 1) (by omega) (fun j hj => (hag.out j (by omega)).symm) hgt
        · have t2 : decide (((gw ys (k - 1) : Nat) : Int) < ((gw xs (k - 1) : Nat) : Int)) = false := by simp; omega
          go_wp2
          go_quiet (fail)
          go_wp2
          go_quiet (fail)
          go_wp2;go_roundw
          case rel => exact ⟨k - 1, by omega, by go_num, Lib.hid (fun j hj => by
           by_cases e : j = k - 1
           · subst e; omega
           · exact hag.out j (by omega)), below_drewN hbl _⟩
          case measure => simp [intOf]; omega
    · go_wp2;go_ret;refine ⟨ret_int (ncmp_eq ?_).symm, hbl⟩;rw [<- HX'.out.val, <- HY'.out.val];exact hval_eq_of Hs.out (fun j => hag.out j (by omega))
 · have hb : (((xs.length : Nat) : Int) != ((ys.length : Nat) : Int)) = true := by rw [bne_iff_ne]; omega
   by_cases hlt : xs.length < ys.length;all_goals
    go_enter Tryz.func48, Tryz.ntmps48;go_wp2;go_ret
   · exact ⟨ret_int (ncmp_lt (HX'.out.shorter HY'.out hlt)).symm, Below.refl _ _⟩
   · exact ⟨ret_int (ncmp_gt (HY'.out.shorter HX'.out (by omega))).symm, Below.refl _ _⟩
set_option maxHeartbeats 1000000 in
theorem RCmp01_c (aoA aoB : Option Addr) (lA cA lB cB : Nat) (xs ys : List Nat) (w : World) (hA : WAt w aoA xs) (hB : WAt w aoB ys) (hlA : lA = xs.length) (hlB : lB = ys.length) (hmA : lA <= 8796093022208) (hmB : lB <= 8796093022208) :
 Calls Tryz.prog 30 #[.slice aoA lA cA, .slice aoB lB cB] w fun e w' => e = .returned (.int .i64 (ncmp (nval xs) (nval ys))) /\ Below w.heap.size w w' := by
 have HS1 := Lib.hid (RSplit_c aoA lA cA xs w hA hlA hmA);have HB := Lib.hid hB; clear hB;have HlB := Lib.hid hlB; clear hlB;clear hA hlA;go_enter Tryz.func30, Tryz.ntmps30;go_wp2_with fail
 refine HS1.out.mono ?_;rintro e w2 ⟨⟨b, ds, rfl, hb, hH, hD, hdl, _⟩, hb2⟩;have HS2 := Lib.hid (RSplit_c aoB lB cB ys w2 (HB.out.below hb2) HlB.out hmB);have HH := Lib.hid hH; clear hH;have HD := Lib.hid hD; clear hD;have HB2 := Lib.hid hb2; clear hb2;go_wp2_with fail
 refine HS2.out.mono ?_;rintro e w3 ⟨⟨b', es, rfl, hb', hH', hD', hel, _⟩, hb3⟩;have HO := Lib.hid (ROrder_c (some ⟨b, 0, none⟩) (some ⟨b', 0, none⟩) ds.length (4 * lA) es.length (4 * lB) _ _ ds es w3 (HD.out.below hb3) hD' HH.out hH' rfl rfl (by omega) (by omega));have HB3 := Lib.hid (HB2.out.trans (hb3.mono HB2.out.size));clear hH' hD' hb3;go_wp2_with fail
 refine HO.out.mono ?_;rintro e w4 ⟨rfl, hb4⟩;have HB4 := Lib.hid (HB3.out.trans (hb4.mono HB3.out.size));clear hb4;go_wp2;go_ret;exact ⟨rfl, HB4.out⟩
theorem hval_set_succ {l : List Nat} {k v : Nat} (hk : k < l.length) : hval ((l.set k v).take (k + 1)) = hval (l.take k) + HX ^ k * v := by
 rw [hval_take_succ, List.take_set_of_le (Nat.le_refl _)];congr 1;unfold gw; simp [hk]
theorem RowAt.dat {w : World} {b : Nat} {ds : List Nat} (h : RowAt w b 3 (ds.map iv)) : DAt w (some ⟨b, 0, none⟩) ds := DAt.row (r := []) (by simpa using h)
theorem RowAt.setI {w : World} {b : Nat} {ds : List Nat} (h : RowAt w b 3 (ds.map iv)) (i v : Nat) : RowAt (w.setCell ⟨b, i, none⟩ (.int .i64 (v : Int))) b 3 ((ds.set i v).map iv) := by
 rw [<- map_iv_set]; exact h.set i _
theorem RowAt.getI {w : World} {b : Nat} {ds : List Nat} (h : RowAt w b 3 (ds.map iv)) {i : Nat} (hi : i < ds.length) : w.cell? ⟨b, i, none⟩ = some (.int .i64 ((gw ds i : Nat) : Int)) :=
 (h.cell i).trans (map_iv_get ds hi)
structure Two (w : World) (b1 b2 n m : Nat) (xs ys : List Nat) : Prop where
 h1 : Hex n xs
 h2 : Hex m ys
 d1 : DAt w (some ⟨b1, 0, none⟩) xs
 d2 : DAt w (some ⟨b2, 0, none⟩) ys
theorem Two.below {w w' : World} {b1 b2 n m : Nat} {xs ys : List Nat} (h : Two w b1 b2 n m xs ys) (hb : Below w.heap.size w w') : Two w' b1 b2 n m xs ys := ⟨h.h1, h.h2, h.d1.below hb, h.d2.below hb⟩
theorem DAt.other {w : World} {b g : Nat} {ds : List Nat} (h : DAt w (some ⟨b, 0, none⟩) ds) (hne : b ≠ g) (i : Nat) (v : Value) : DAt (w.setCell ⟨g, i, none⟩ v) (some ⟨b, 0, none⟩) ds := by
 intro hl;obtain ⟨b', o, e, hlt, hc⟩ := h hl;simp only [Option.some.injEq, Addr.mk.injEq, and_true] at e;obtain ⟨rfl, rfl⟩ := e;exact ⟨b, 0, rfl, by simpa using hlt, fun i hi => (World.cell?_setCell_far _ _ _ _ (fun e => hne e.symm)).trans (hc i hi)⟩
theorem Two.setI {w : World} {b1 b2 n m b : Nat} {xs ys cu : List Nat} (h : Two w b1 b2 n m xs ys) (_ : RowAt w b 3 (cu.map iv)) (hb : b1 < b /\ b2 < b) (i : Nat) (v : Value) : Two (w.setCell ⟨b, i, none⟩ v) b1 b2 n m xs ys :=
 ⟨h.h1, h.h2, h.d1.other (by omega) i v, h.d2.other (by omega) i v⟩
structure SumI (w : World) (b n i c : Nat) (xs ys cu : List Nat) (W' : World) : Prop where
 len : cu.length = n + 1
 ok : HOk cu
 c1 : c <= 1
 val : hval (cu.take i) + HX ^ i * c = hval (xs.take i) + hval (ys.take i)
 row : RowAt W' b 3 (cu.map iv)
 bel : Below w.heap.size w W'
set_option maxRecDepth 100000 in
set_option maxHeartbeats 4000000 in
theorem RAdd01_c (aoA aoB : Option Addr) (lA cA lB cB : Nat) (xs ys : List Nat) (w : World) (hA : WAt w aoA xs) (hB : WAt w aoB ys) (hlA : lA = xs.length) (hlB : lB = ys.length) (hmA : lA <= 1099511627776) (hmB : lB <= 1099511627776) :
 Calls Tryz.prog 92 #[.slice aoA lA cA, .slice aoB lB cB] w fun e w' => (∃ ao' cap', e = .returned (.slice ao' (wlen (nval xs + nval ys)) cap') /\ OwnW w' w.heap.size ao' (wlen (nval xs + nval ys)) cap' (dig (nval xs + nval ys))) /\ Below w.heap.size w w' := by
 have HS1 := Lib.hid (RSplit_c aoA lA cA xs w hA hlA (by omega));have HB := Lib.hid hB; clear hB;have HlB := Lib.hid hlB; clear hlB;clear hA hlA;go_enter Tryz.func92, Tryz.ntmps92;go_wp2_with fail
 refine HS1.out.mono ?_;rintro e w2 ⟨⟨b1, ds, rfl, hb1, hH, hD, hdl, hlt1⟩, hb2⟩;have HS2 := Lib.hid (RSplit_c aoB lB cB ys w2 (HB.out.below hb2) HlB.out (by omega));have HH := Lib.hid hH; clear hH;have HD := Lib.hid hD; clear hD;have HB2 := Lib.hid hb2; clear hb2;go_wp2_with fail
 refine HS2.out.mono ?_;rintro e w3 ⟨⟨b2, es, rfl, hb', hH', hD', hel, hlt2⟩, hb3⟩;have HT : Hid (Two w3 b1 b2 (nval xs) (nval ys) ds es) := Lib.hid ⟨HH.out, hH', HD.out.below hb3, hD'⟩;have HB3 := Lib.hid (HB2.out.trans (hb3.mono HB2.out.size));have hTB : b1 < w3.heap.size /\ b2 < w3.heap.size := ⟨Nat.lt_of_lt_of_le hlt1 hb3.size, hlt2⟩;clear hH' hD' hb3 HH HD HB2 HS1 HS2 hb1 hb' hlt1 hlt2;have HTB := Lib.hid hTB; clear hTB;by_cases hcmp : (ds.length : Int) < (es.length : Int)
 · have hv1 : hval (ds.take es.length) = nval xs := by rw [List.take_of_length_le (by omega), HT.out.h1.val]
   have hv2 : hval (es.take es.length) = nval ys := by rw [List.take_of_length_le (by omega), HT.out.h2.val]
   have HV := Lib.hid (And.intro hv1 hv2); clear hv1 hv2;go_wp2_with (at_make; refine mk_ints rfl _ _ rfl (es.length + 1) (es.length + 1) rfl rfl (by omega) (by omega) (Nat.le_refl _) (by omega) ?_; intro b w4 hm4)
   have hbg : w.heap.size <= b := by have := hm4.at_; have := HB3.out.size; omega
   have hbb : b1 < b /\ b2 < b := by have := hm4.at_; have := HTB.out; omega
   have HI : Hid (SumI w b es.length 0 0 ds es (List.replicate (es.length + 1) 0) w4) := Lib.hid ⟨by simp, HOk.replicate _, by omega, by simp [hval], hm4.row, HB3.out.trans (hm4.below.mono HB3.out.size)⟩;have HT4 := Lib.hid (HT.out.below hm4.below);clear hm4 HT hcmp;go_loopw [9, 10] (fun c_ i_ wr => ∃ (i c : Nat) (cu : List Nat), i <= es.length /\ i_ = .int .i64 (i : Int) /\ c_ = .int .i64 (c : Int) /\ Hid (SumI w b es.length i c ds es cu wr) /\ Hid (Two wr b1 b2 (nval xs) (nval ys) ds es)) (fun _ i_ _ => es.length - (intOf i_).toNat)
   case atStart => exact ⟨0, 0, _, Nat.zero_le _, rfl, rfl, HI, HT4⟩
   case round =>
    obtain ⟨i, c, cu, hi, rfl, rfl, hI, hT⟩ := hrel;by_cases hin : i < es.length
    · have hin1 : (i : Int) < (es.length : Int) := by omega
      have hA1 := Lib.hid (RAt_c (some ⟨b1, 0, none⟩) ds.length (4 * lA) ds i wr hT.out.d1 rfl (by omega) (by omega));have hA2 := Lib.hid (RAt_c (some ⟨b2, 0, none⟩) es.length (4 * lB) es i wr hT.out.d2 rfl (by omega) (by omega));have hx := hT.out.h1.ok.gw_ i;have hy := hT.out.h2.ok.gw_ i;have hv := hval_take_succ ds i;have hv' := hval_take_succ es i;obtain ⟨x, hxe⟩ : ∃ x, gw ds i = x := ⟨_, rfl⟩;obtain ⟨y, hye⟩ : ∃ y, gw es i = y := ⟨_, rfl⟩;rw [hxe] at hx hv hA1;rw [hye] at hy hv' hA2;have hc := hI.out.c1;have hxb : x <= 65535 := by unfold HX at hx; omega
      have hyb : y <= 65535 := by unfold HX at hy; omega
      have HVV := Lib.hid (And.intro hv hv');clear hx hy hv hv' hxe hye;obtain ⟨s, hs⟩ : ∃ s, x + y + c = s := ⟨_, rfl⟩;have hsb : s <= 131071 := by omega
      have hsi : (x : Int) + (y : Int) + (c : Int) = (s : Int) := by omega
      have HSI := Lib.hid hsi; clear hsi;have HSS := Lib.hid hs; clear hs;have g0 := hI.out.row.getI (i := i) (by rw [hI.out.len]; omega);have f0 := hI.out.row.free i;go_wp2_with fail
      refine hA1.out.mono ?_;rintro e w' ⟨rfl, rfl⟩;go_wp2_with fail
      refine hA2.out.mono ?_;rintro e w' ⟨rfl, rfl⟩;go_wp2_with (first
       | (with_reducible show wpList _ _ _ (⟨some 44, _, _, _, _, _⟩ :: _) _ _; refine op_remI rfl _ _ rfl s 65536 (by omega) (by omega) rfl rfl HSI.out rfl ?_)
       | (with_reducible show wpList _ _ _ (⟨some 47, _, _, _, _, _⟩ :: _) _ _; refine op_quoI rfl _ _ rfl s 65536 (by omega) (by omega) rfl rfl HSI.out rfl ?_))
      go_roundw
      case rel =>
       have hI' := hI.out;refine ⟨i + 1, s / 65536, cu.set i (s % 65536), by omega, by go_num, rfl, Lib.hid ⟨by rw [List.length_set]; exact hI'.len, hI'.ok.set _ _ (by unfold HX; omega), by omega, ?_, hI'.row.setI i _, hI'.bel.setCell (p := ⟨b, i, none⟩) hbg _⟩, Lib.hid (hT.out.setI hI'.row hbb i _)⟩;rw [hval_set_succ (by rw [hI'.len]; omega), HVV.out.1, HVV.out.2];have e1 := hI'.val;have e2 : HX ^ (i + 1) * (s / 65536) = HX ^ i * (65536 * (s / 65536)) := by rw [Nat.pow_succ, Nat.mul_assoc]; rfl
       have e3 : HX ^ i * (s % 65536) + HX ^ i * (65536 * (s / 65536)) = HX ^ i * s := by
        rw [<- Nat.mul_add, Nat.mod_add_div]
       have e4 : HX ^ i * s = HX ^ i * x + HX ^ i * y + HX ^ i * c := by rw [<- HSS.out, Nat.mul_add, Nat.mul_add]
       omega
      case measure => simp [intOf]; omega
    · obtain rfl : i = es.length := by omega
      have hI' := hI.out;have g0 := hI'.row.getI (i := es.length) (by rw [hI'.len]; omega);have f0 := hI'.row.free es.length;have hfin : hval (cu.set es.length c) = nval xs + nval ys := by
       have h1 := hval_set_succ (l := cu) (k := es.length) (v := c) (by rw [hI'.len]; omega);rw [List.take_of_length_le (by rw [List.length_set, hI'.len]; exact Nat.le_refl _)] at h1;rw [h1, hI'.val, HV.out.1, HV.out.2]
      have hrow := hI'.row.setI es.length c;have hbl := hI'.bel.setCell (p := ⟨b, es.length, none⟩) hbg (.int .i64 (c : Int));have hj := RJoin_c (some ⟨b, 0, none⟩) (es.length + 1) (es.length + 1) (cu.set es.length c) _ hrow.dat (hI'.ok.set _ _ (by have := hI'.c1; unfold HX; omega)) (by rw [List.length_set, hI'.len]) (Nat.le_refl _) (by omega);rw [hfin] at hj;have HJ := Lib.hid hj;have HBL := Lib.hid hbl;clear hj hbl hrow hfin hI' hi hin;go_wp2_with fail
      refine HJ.out.mono ?_;rintro e w9 ⟨⟨ao', cap', rfl, hO⟩, hb9⟩;have HO := Lib.hid (hO.mono HBL.out.size);have HB9 := Lib.hid (HBL.out.trans (hb9.mono HBL.out.size));clear hO hb9;go_wp2;go_ret;exact ⟨⟨ao', cap', rfl, HO.out⟩, HB9.out⟩
 · have hv1 : hval (ds.take ds.length) = nval xs := by rw [List.take_of_length_le (by omega), HT.out.h1.val]
   have hv2 : hval (es.take ds.length) = nval ys := by rw [List.take_of_length_le (by omega), HT.out.h2.val]
   have HV := Lib.hid (And.intro hv1 hv2); clear hv1 hv2;go_wp2_with (at_make; refine mk_ints rfl _ _ rfl (ds.length + 1) (ds.length + 1) rfl rfl (by omega) (by omega) (Nat.le_refl _) (by omega) ?_; intro b w4 hm4)
   have hbg : w.heap.size <= b := by have := hm4.at_; have := HB3.out.size; omega
   have hbb : b1 < b /\ b2 < b := by have := hm4.at_; have := HTB.out; omega
   have HI : Hid (SumI w b ds.length 0 0 ds es (List.replicate (ds.length + 1) 0) w4) := Lib.hid ⟨by simp, HOk.replicate _, by omega, by simp [hval], hm4.row, HB3.out.trans (hm4.below.mono HB3.out.size)⟩;have HT4 := Lib.hid (HT.out.below hm4.below);clear hm4 HT hcmp;go_loopw [9, 10] (fun c_ i_ wr => ∃ (i c : Nat) (cu : List Nat), i <= ds.length /\ i_ = .int .i64 (i : Int) /\ c_ = .int .i64 (c : Int) /\ Hid (SumI w b ds.length i c ds es cu wr) /\ Hid (Two wr b1 b2 (nval xs) (nval ys) ds es)) (fun _ i_ _ => ds.length - (intOf i_).toNat)
   case atStart => exact ⟨0, 0, _, Nat.zero_le _, rfl, rfl, HI, HT4⟩
   case round =>
    obtain ⟨i, c, cu, hi, rfl, rfl, hI, hT⟩ := hrel;by_cases hin : i < ds.length
    · have hin1 : (i : Int) < (ds.length : Int) := by omega
      have hA1 := Lib.hid (RAt_c (some ⟨b1, 0, none⟩) ds.length (4 * lA) ds i wr hT.out.d1 rfl (by omega) (by omega));have hA2 := Lib.hid (RAt_c (some ⟨b2, 0, none⟩) es.length (4 * lB) es i wr hT.out.d2 rfl (by omega) (by omega));have hx := hT.out.h1.ok.gw_ i;have hy := hT.out.h2.ok.gw_ i;have hv := hval_take_succ ds i;have hv' := hval_take_succ es i;obtain ⟨x, hxe⟩ : ∃ x, gw ds i = x := ⟨_, rfl⟩;obtain ⟨y, hye⟩ : ∃ y, gw es i = y := ⟨_, rfl⟩;rw [hxe] at hx hv hA1;rw [hye] at hy hv' hA2;have hc := hI.out.c1;have hxb : x <= 65535 := by unfold HX at hx; omega
      have hyb : y <= 65535 := by unfold HX at hy; omega
      have HVV := Lib.hid (And.intro hv hv');clear hx hy hv hv' hxe hye;obtain ⟨s, hs⟩ : ∃ s, x + y + c = s := ⟨_, rfl⟩;have hsb : s <= 131071 := by omega
      have hsi : (x : Int) + (y : Int) + (c : Int) = (s : Int) := by omega
      have HSI := Lib.hid hsi; clear hsi;have HSS := Lib.hid hs; clear hs;have g0 := hI.out.row.getI (i := i) (by rw [hI.out.len]; omega);have f0 := hI.out.row.free i;go_wp2_with fail
      refine hA1.out.mono ?_;rintro e w' ⟨rfl, rfl⟩;go_wp2_with fail
      refine hA2.out.mono ?_;rintro e w' ⟨rfl, rfl⟩;go_wp2_with (first
       | (with_reducible show wpList _ _ _ (⟨some 44, _, _, _, _, _⟩ :: _) _ _; refine op_remI rfl _ _ rfl s 65536 (by omega) (by omega) rfl rfl HSI.out rfl ?_)
       | (with_reducible show wpList _ _ _ (⟨some 47, _, _, _, _, _⟩ :: _) _ _; refine op_quoI rfl _ _ rfl s 65536 (by omega) (by omega) rfl rfl HSI.out rfl ?_))
      go_roundw
      case rel =>
       have hI' := hI.out;refine ⟨i + 1, s / 65536, cu.set i (s % 65536), by omega, by go_num, rfl, Lib.hid ⟨by rw [List.length_set]; exact hI'.len, hI'.ok.set _ _ (by unfold HX; omega), by omega, ?_, hI'.row.setI i _, hI'.bel.setCell (p := ⟨b, i, none⟩) hbg _⟩, Lib.hid (hT.out.setI hI'.row hbb i _)⟩;rw [hval_set_succ (by rw [hI'.len]; omega), HVV.out.1, HVV.out.2];have e1 := hI'.val;have e2 : HX ^ (i + 1) * (s / 65536) = HX ^ i * (65536 * (s / 65536)) := by rw [Nat.pow_succ, Nat.mul_assoc]; rfl
       have e3 : HX ^ i * (s % 65536) + HX ^ i * (65536 * (s / 65536)) = HX ^ i * s := by
        rw [<- Nat.mul_add, Nat.mod_add_div]
       have e4 : HX ^ i * s = HX ^ i * x + HX ^ i * y + HX ^ i * c := by rw [<- HSS.out, Nat.mul_add, Nat.mul_add]
       omega
      case measure => simp [intOf]; omega
    · obtain rfl : i = ds.length := by omega
      have hI' := hI.out;have g0 := hI'.row.getI (i := ds.length) (by rw [hI'.len]; omega);have f0 := hI'.row.free ds.length;have hfin : hval (cu.set ds.length c) = nval xs + nval ys := by
       have h1 := hval_set_succ (l := cu) (k := ds.length) (v := c) (by rw [hI'.len]; omega);rw [List.take_of_length_le (by rw [List.length_set, hI'.len]; exact Nat.le_refl _)] at h1;rw [h1, hI'.val, HV.out.1, HV.out.2]
      have hrow := hI'.row.setI ds.length c;have hbl := hI'.bel.setCell (p := ⟨b, ds.length, none⟩) hbg (.int .i64 (c : Int));have hj := RJoin_c (some ⟨b, 0, none⟩) (ds.length + 1) (ds.length + 1) (cu.set ds.length c) _ hrow.dat (hI'.ok.set _ _ (by have := hI'.c1; unfold HX; omega)) (by rw [List.length_set, hI'.len]) (Nat.le_refl _) (by omega);rw [hfin] at hj;have HJ := Lib.hid hj;have HBL := Lib.hid hbl;clear hj hbl hrow hfin hI' hi hin;go_wp2_with fail
      refine HJ.out.mono ?_;rintro e w9 ⟨⟨ao', cap', rfl, hO⟩, hb9⟩;have HO := Lib.hid (hO.mono HBL.out.size);have HB9 := Lib.hid (HBL.out.trans (hb9.mono HBL.out.size));clear hO hb9;go_wp2;go_ret;exact ⟨⟨ao', cap', rfl, HO.out⟩, HB9.out⟩
structure DifI (w : World) (b i c : Nat) (xs ys cu : List Nat) (W' : World) : Prop where
 len : cu.length = xs.length
 ok : HOk cu
 c1 : c <= 1
 val : hval (cu.take i) + hval (ys.take i) = hval (xs.take i) + HX ^ i * c
 row : RowAt W' b 3 (cu.map iv)
 bel : Below w.heap.size w W'
set_option maxRecDepth 100000 in
set_option maxHeartbeats 4000000 in
theorem RSub01_c (aoA aoB : Option Addr) (lA cA lB cB : Nat) (xs ys : List Nat) (w : World) (hA : WAt w aoA xs) (hB : WAt w aoB ys) (hlA : lA = xs.length) (hlB : lB = ys.length) (hmA : lA <= 1099511627776) (hmB : lB <= 1099511627776) (hle : nval ys <= nval xs) :
 Calls Tryz.prog 93 #[.slice aoA lA cA, .slice aoB lB cB] w fun e w' => (∃ ao' cap', e = .returned (.tuple #[.slice ao' (wlen (nval xs - nval ys)) cap', .int .i64 0]) /\ OwnW w' w.heap.size ao' (wlen (nval xs - nval ys)) cap' (dig (nval xs - nval ys))) /\ Below w.heap.size w w' := by
 have HS1 := Lib.hid (RSplit_c aoA lA cA xs w hA hlA (by omega));have HB := Lib.hid hB; clear hB;have HlB := Lib.hid hlB; clear hlB;have HLE := Lib.hid hle; clear hle;clear hA hlA;go_enter Tryz.func93, Tryz.ntmps93;go_wp2_with fail
 refine HS1.out.mono ?_;rintro e w2 ⟨⟨b1, ds, rfl, hb1, hH, hD, hdl, hlt1⟩, hb2⟩;have HS2 := Lib.hid (RSplit_c aoB lB cB ys w2 (HB.out.below hb2) HlB.out (by omega));have HH := Lib.hid hH; clear hH;have HD := Lib.hid hD; clear hD;have HB2 := Lib.hid hb2; clear hb2;go_wp2_with fail
 refine HS2.out.mono ?_;rintro e w3 ⟨⟨b2, es, rfl, hb', hH', hD', hel, hlt2⟩, hb3⟩;have hT : Two w3 b1 b2 (nval xs) (nval ys) ds es := ⟨HH.out, hH', HD.out.below hb3, hD'⟩;have HO := Lib.hid (ROrder_c (some ⟨b1, 0, none⟩) (some ⟨b2, 0, none⟩) ds.length (4 * lA) es.length (4 * lB) _ _ ds es w3 hT.d1 hT.d2 hT.h1 hT.h2 rfl rfl (by omega) (by omega));have HT := Lib.hid hT;have HB3 := Lib.hid (HB2.out.trans (hb3.mono HB2.out.size));have hTB : b1 < w3.heap.size /\ b2 < w3.heap.size := ⟨Nat.lt_of_lt_of_le hlt1 hb3.size, hlt2⟩;have hes : es.length <= ds.length := by
  by_cases h : es.length <= ds.length
  · exact h
  · have := hT.h1.shorter hT.h2 (by omega);have := HLE.out; omega
 have hnc : 0 <= ncmp (nval xs) (nval ys) := by
  unfold ncmp; have := HLE.out;rw [if_neg (by omega)]; split <;> omega
 obtain ⟨cc, hcc⟩ : ∃ cc, ncmp (nval xs) (nval ys) = cc := ⟨_, rfl⟩;rw [hcc] at HO hnc;clear hH' hD' hb3 HH HD HB2 HS1 HS2 hb1 hb' hlt1 hlt2 hT hcc;go_wp2_with fail
 refine HO.out.mono ?_;rintro e w4 ⟨rfl, hb4⟩;have HT4 := Lib.hid (HT.out.below hb4);have HB4 := Lib.hid (HB3.out.trans (hb4.mono HB3.out.size));have hTB4 : b1 < w4.heap.size /\ b2 < w4.heap.size := by have := hb4.size; omega
 clear hb4 HT HB3 hTB HO;have hcc1 : ¬ cc < 0 := by omega
 go_wp2_with (at_make; refine mk_ints rfl _ _ rfl ds.length ds.length rfl rfl rfl rfl (Nat.le_refl _) (by omega) ?_; intro b w5 hm5)
 have hbg : w.heap.size <= b := by have := hm5.at_; have := HB4.out.size; omega
 have hbb : b1 < b /\ b2 < b := by have := hm5.at_; omega
 have HI : Hid (DifI w b 0 0 ds es (List.replicate ds.length 0) w5) := Lib.hid ⟨by simp, HOk.replicate _, by omega, by simp [hval], hm5.row, HB4.out.trans (hm5.below.mono HB4.out.size)⟩;have HT5 := Lib.hid (HT4.out.below hm5.below);clear hm5 HT4 HB4;go_loopw [9, 10] (fun c_ i_ wr => ∃ (i c : Nat) (cu : List Nat), i <= ds.length /\ i_ = .int .i64 (i : Int) /\ c_ = .int .i64 (c : Int) /\ Hid (DifI w b i c ds es cu wr) /\ Hid (Two wr b1 b2 (nval xs) (nval ys) ds es)) (fun _ i_ _ => ds.length - (intOf i_).toNat)
 case atStart => exact ⟨0, 0, _, Nat.zero_le _, rfl, rfl, HI, HT5⟩
 case round =>
  obtain ⟨i, c, cu, hi, rfl, rfl, hI, hT⟩ := hrel;by_cases hin : i < ds.length
  · have hin1 : (i : Int) < (ds.length : Int) := by omega
    have hA2 := fun m => RAt_c (some ⟨b2, 0, none⟩) es.length (4 * lB) es i (wr.drewN m) (DAt.below (w := wr) hT.out.d2 (below_drewN (Below.refl _ _) m)) rfl (by omega) (by omega);obtain ⟨b1', o1', e1', hlt1', hc1'⟩ := hT.out.d1 (by omega);simp only [Option.some.injEq, Addr.mk.injEq, and_true] at e1';obtain ⟨rfl, rfl⟩ := e1';have hcell := hc1' i hin;rw [Nat.zero_add] at hcell;have hx := hT.out.h1.ok.gw_ i;have hy := hT.out.h2.ok.gw_ i;have hv := hval_take_succ ds i;have hv' := hval_take_succ es i;obtain ⟨x, hxe⟩ : ∃ x, gw ds i = x := ⟨_, rfl⟩;obtain ⟨y, hye⟩ : ∃ y, gw es i = y := ⟨_, rfl⟩;rw [hxe] at hx hv hcell;rw [hye] at hy hv';have hA3 : ∀ m, Calls Tryz.prog 107 #[.slice (some ⟨b2, 0, none⟩) es.length (4 * lB), .int .i64 (i : Int)] (wr.drewN m) fun e w' => e = .returned (.int .i64 (y : Int)) /\ ∃ k, w' = (wr.drewN m).drewN k := fun m => by
     have := hA2 m;rw [hye] at this;exact this.mono (fun e w' h => ⟨h.1, 0, h.2⟩)
    have HA3 := Lib.hid hA3; clear hA2 hA3;have hc := hI.out.c1;have hxb : x <= 65535 := by unfold HX at hx; omega
    have hyb : y <= 65535 := by unfold HX at hy; omega
    have HVV := Lib.hid (And.intro hv hv');clear hx hy hv hv' hxe hye hc1';have g0 := hI.out.row.getI (i := i) (by rw [hI.out.len]; exact hin);have f0 := hI.out.row.free i;go_wp2
    go_quiet ((go_at_call 107; refine Calls.quiet_of (HA3.out _)))
    have hT2 := Two.below (w := wr) hT.out (below_drewN (Below.refl _ _) nq);have hI2 : DifI w b i c ds es cu (wr.drewN nq) := ⟨hI.out.len, hI.out.ok, hI.out.c1, hI.out.val, hI.out.row.below (below_drewN (Below.refl _ _) nq) hI.out.row.lt, below_drewN hI.out.bel nq⟩;generalize wr.drewN nq = w6 at *;have HT2 := Lib.hid hT2; clear hT2;have g0 := hI2.row.getI (i := i) (by rw [hI2.len]; exact hin);have f0 := hI2.row.free i;have HI2 := Lib.hid hI2; clear hI2;have fin : ∀ (z c' : Nat), z < HX -> c' <= 1 -> (z : Int) = (x : Int) - (y : Int) - (c : Int) + 65536 * (c' : Int) -> DifI w b (i + 1) c' ds es (cu.set i z) (w6.setCell ⟨b, i, none⟩ (.int .i64 (z : Int))) := by
     intro z c' hz hc' he;have hI' := HI2.out;refine ⟨by rw [List.length_set]; exact hI'.len, hI'.ok.set _ _ hz, hc', ?_, hI'.row.setI i _, hI'.bel.setCell (p := ⟨b, i, none⟩) hbg _⟩;rw [hval_set_succ (by rw [hI'.len]; exact hin), HVV.out.1, HVV.out.2];have e1 := hI'.val;have e2 : z + y + c = x + 65536 * c' := by omega
     have e3 : HX ^ (i + 1) * c' = HX ^ i * (65536 * c') := by rw [Nat.pow_succ, Nat.mul_assoc]; rfl
     have e4 : HX ^ i * z + HX ^ i * y + HX ^ i * c = HX ^ i * x + HX ^ i * (65536 * c') := by
      rw [<- Nat.mul_add, <- Nat.mul_add, <- Nat.mul_add, e2]
     omega
    have HF := Lib.hid fin; clear fin;by_cases hneg : (x : Int) - (y : Int) - (c : Int) < 0
    · have hsum : (x : Int) - (y : Int) - (c : Int) + 65536 = ((x + 65536 - y - c : Nat) : Int) := by omega
      obtain ⟨z, hz⟩ : ∃ z, x + 65536 - y - c = z := ⟨_, rfl⟩;rw [hz] at hsum;have hF := HF.out z 1 (by unfold HX; omega) (Nat.le_refl _) (by omega);have HF2 := Lib.hid hF; clear hF;have hzb : z <= 65535 := by omega
      have HSUM := Lib.hid hsum; clear hsum hz;go_wp2;go_roundw
      case rel =>
       have e5 := HSUM.out;refine ⟨i + 1, 1, cu.set i z, by omega, by go_num, rfl, Lib.hid ?_, Lib.hid (HT2.out.setI HI2.out.row hbb i _)⟩;rw [e5]; exact HF2.out
      case measure => simp [intOf]; omega
    · have hsum : (x : Int) - (y : Int) - (c : Int) = ((x - y - c : Nat) : Int) := by omega
      obtain ⟨z, hz⟩ : ∃ z, x - y - c = z := ⟨_, rfl⟩;rw [hz] at hsum;have hF := HF.out z 0 (by unfold HX; omega) (Nat.zero_le _) (by omega);have HF2 := Lib.hid hF; clear hF;have HSUM := Lib.hid hsum; clear hsum hz;go_wp2;go_roundw
      case rel =>
       have e5 := HSUM.out;refine ⟨i + 1, 0, cu.set i z, by omega, by go_num, rfl, Lib.hid ?_, Lib.hid (HT2.out.setI HI2.out.row hbb i _)⟩;rw [e5]; exact HF2.out
      case measure => simp [intOf]; omega
  · obtain rfl : i = ds.length := by omega
    have hI' := hI.out;have hfin : hval cu = nval xs - nval ys := by
     have h1 := hI'.val;rw [List.take_of_length_le (by rw [hI'.len]; exact Nat.le_refl _), List.take_of_length_le hes, List.take_length, hT.out.h1.val, hT.out.h2.val] at h1;have h2 := hval_lt hI'.ok;rw [hI'.len] at h2;have h3 := hI'.c1;have h4 := HLE.out;have h5 : c = 0 := by
      rcases Nat.eq_zero_or_pos c with h | h
      · exact h
      · obtain rfl : c = 1 := by omega
        omega
     subst h5;omega
    have hj := RJoin_c (some ⟨b, 0, none⟩) ds.length ds.length cu _ hI'.row.dat hI'.ok hI'.len.symm (Nat.le_refl _) (by omega);rw [hfin] at hj;have HJ := Lib.hid hj;have HBL := Lib.hid hI'.bel;clear hj hfin hI' hi hin;go_wp2_with fail
    refine HJ.out.mono ?_;rintro e w9 ⟨⟨ao', cap', rfl, hO⟩, hb9⟩;have HO := Lib.hid (hO.mono HBL.out.size);have HB9 := Lib.hid (HBL.out.trans (hb9.mono HBL.out.size));clear hO hb9;go_wp2;go_ret2;exact ⟨⟨ao', cap', rfl, HO.out⟩, HB9.out⟩
theorem RowI.put {w : World} {b N n : Nat} {D : List Nat} {W' : World} (h : RowI w b N D W') (hn : D.length = n) (hN : n + 1 <= N) (x : Nat) : RowI w b N (D ++ [x]) (W'.setCell ⟨b, n, none⟩ (.int .i64 (x : Int))) := by
 subst hn;refine ⟨?_, h.bel.setCell (p := ⟨b, D.length, none⟩) h.ge _, h.ge⟩;have e3 : (D.map iv ++ List.replicate (N - D.length) (iv 0)).set D.length (.int .i64 (x : Int)) = (D ++ [x]).map iv ++ List.replicate (N - (D ++ [x]).length) (iv 0) := by
  obtain ⟨q, hq⟩ : ∃ q, N - D.length = q + 1 := ⟨N - D.length - 1, by omega⟩;have hq2 : N - (D ++ [x]).length = q := by simp; omega
  rw [hq, hq2, List.replicate_succ, List.set_append_right _ _ (by simp)];simp [iv]
 rw [<- e3]; exact h.row.set D.length (.int .i64 (x : Int))
theorem RowI.at0 {w : World} {b N n : Nat} {D : List Nat} {W' : World} (h : RowI w b N D W') (hn : D.length = n) (hN : n + 1 <= N) : W'.cell? ⟨b, n, none⟩ = some (.int .i64 0) := by
 subst hn;rw [h.row.cell, List.getElem?_append_right (by simp)];have : 0 < N - D.length := by omega
 simp [iv, this]
set_option maxRecDepth 100000 in
set_option maxHeartbeats 4000000 in
theorem RDigits_c (ao : Option Addr) (len cap : Nat) (ws : List Nat) (w : World) (hA : WAt w ao ws) (hl : len = ws.length) (hm : len <= 8796093022208) :
 Calls Tryz.prog 44 #[.slice ao len cap] w fun e w' => (∃ b ds, e = .returned (.slice (some ⟨b, 0, none⟩) ds.length (4 * len)) /\ w.heap.size <= b /\ Hex (nval ws) ds /\ DAt w' (some ⟨b, 0, none⟩) ds /\ ds.length <= 4 * len /\ b < w'.heap.size) /\ Below w.heap.size w w' := by
 subst hl;have HA := Lib.hid hA; clear hA;have hw4 : IntKind.i64.wrap (4 * (ws.length : Int)) = ((4 * ws.length : Nat) : Int) := by rw [wrap_small] <;> omega
 go_enter Tryz.func44, Tryz.ntmps44;go_wp2_with (at_make; refine mk_ints rfl _ _ rfl (4 * ws.length) (4 * ws.length) rfl rfl (by omega) (by omega) (Nat.le_refl _) (by omega) ?_; intro b w1 hm1)
 have hI : RowI w b (4 * ws.length) [] w1 := ⟨by have := hm1.row; rw [List.map_replicate] at this; simpa using this, hm1.below, by have := hm1.at_; omega⟩;have HI := Lib.hid hI; clear hI hm1;clear hw4;go_loopw [4] (fun i_ wr => ∃ (i : Nat), i <= ws.length /\ i_ = .int .i64 (i : Int) /\ Hid (RowI w b (4 * ws.length) (spl (ws.take i)) wr)) (fun i_ _ => ws.length - (intOf i_).toNat)
 case atStart => exact ⟨0, Nat.zero_le _, rfl, Lib.hid (by simpa [spl] using HI.out)⟩
 case round =>
  obtain ⟨i, hi, rfl, hIr⟩ := hrel;by_cases hin : i < ws.length
  · have hin1 : (i : Int) < (ws.length : Int) := by omega
    obtain ⟨ab, aoff, rfl, hab, hc⟩ := (HA.out.below hIr.out.bel).pos (by omega);have hcell := hc i hin;have hgwW := HA.out.ok.gw i;obtain ⟨x, hx⟩ : ∃ x, gw ws i = x := ⟨_, rfl⟩;rw [hx] at hcell hgwW;have Hx := Lib.hid hx; clear hx hc;go_wp2;go_loopw [5, 6] (fun x_ k_ wq => ∃ (k : Nat), k <= 4 /\ k_ = .int .i64 (k : Int) /\ x_ = .int .u64 ((x / HX ^ k : Nat) : Int) /\ Hid (RowI w b (4 * ws.length) (spl (ws.take i) ++ (sp4 x).take k) wq)) (fun _ k_ _ => 4 - (intOf k_).toNat)
    case atStart => exact ⟨0, by omega, rfl, by simp, Lib.hid (by simpa using hIr.out)⟩
    case round =>
     obtain ⟨k, hk, rfl, rfl, hIq⟩ := hrel;by_cases hk4 : k < 4
     · have hk41 : (k : Int) < 4 := by omega
       obtain ⟨y, hy⟩ : ∃ y, x / HX ^ k = y := ⟨_, rfl⟩;have hyW : y < W := by rw [<- hy]; exact Nat.lt_of_le_of_lt (Nat.div_le_self ..) hgwW
       have hlen : (spl (ws.take i) ++ (sp4 x).take k).length = 4 * i + k := by
        rw [List.length_append, spl_length, List.length_take, List.length_take, sp4_length, Nat.min_eq_left (by omega), Nat.min_eq_left (by omega)]
       have hroom : 4 * i + k + 1 <= 4 * ws.length := by omega
       have hnext : spl (ws.take i) ++ (sp4 x).take (k + 1) = (spl (ws.take i) ++ (sp4 x).take k) ++ [y % HX] := by
        have hd : (sp4 x).take (k + 1) = (sp4 x).take k ++ [y % HX] := by
         rw [<- hy];match k, hk4 with
         | 0, _ => simp [sp4]
         | 1, _ => simp [sp4, HX]
         | 2, _ => simp [sp4, HX, Nat.div_div_eq_div_mul]
         | 3, _ => simp [sp4, HX, Nat.div_div_eq_div_mul]
        rw [hd, List.append_assoc]
       have hdiv : x / HX ^ (k + 1) = y / HX := by rw [<- hy, Nat.div_div_eq_div_mul, Nat.pow_succ]
       rw [hy];generalize spl (ws.take i) ++ (sp4 x).take k = D at *;have HN := Lib.hid (And.intro hnext hdiv); clear hnext hdiv hy;have hr1 : remW y 65536 < 9223372036854775808 := Nat.lt_of_lt_of_le (Nat.mod_lt _ (by omega)) (by omega);have c0 := hIq.out.at0 hlen hroom;have f0 := hIq.out.row.free (4 * i + k);have HL := Lib.hid hlen; clear hlen;have hi1 : 4 * (i : Int) + (k : Int) < 4 * (ws.length : Int) := by omega
       go_wp2_with (first
        | (with_reducible show wpList _ _ _ (⟨some 32, _, _, _, _, _⟩ :: _) _ _; refine op_rem rfl _ _ rfl y 65536 hyW (by omega) rfl rfl rfl rfl ?_)
        | (with_reducible show wpList _ _ _ (⟨some 33, _, _, _, _, _⟩ :: _) _ _; refine op_of_run rfl (run_toI _ _ _ rfl (remW y 65536) hr1 rfl) ?_)
        | (with_reducible show wpList _ _ _ (⟨some 36, _, _, _, _, _⟩ :: _) _ _; refine op_quo rfl _ _ rfl y 65536 hyW (by omega) rfl rfl rfl rfl ?_))
       go_roundw
       case rel =>
        refine ⟨k + 1, by omega, by go_num, ?_, Lib.hid ?_⟩
        · rw [HN.out.2]; rfl
        · rw [HN.out.1]; exact hIq.out.put HL.out hroom (remW y 65536)
       case measure => simp [intOf]; omega
     · obtain rfl : k = 4 := by omega
       go_wp2;go_roundw
       case rel =>
        have h9 := hIq.out;refine ⟨i + 1, by omega, by go_num, Lib.hid ?_⟩;have e : spl (ws.take (i + 1)) = spl (ws.take i) ++ sp4 x := by
         rw [List.take_succ_eq_append_getElem hin];have : ws[i] = x := by rw [<- Hx.out]; simp [gw, hin]
         simp [spl, this]
        rw [e]; exact h9
       case measure => simp [intOf]; omega
  · obtain rfl : i = ws.length := by omega
    have hIe := hIr.out;rw [List.take_length] at hIe;have hval := spl_val HA.out.ok;have hlen := spl_length ws;have hH := Hex.of (spl_ok ws);rw [hval] at hH;have htl := tlen_le (spl ws);have HD := Lib.hid (show DAt wr (some ⟨b, 0, none⟩) (spl ws) from DAt.row hIe.row);have HH := Lib.hid (And.intro hH (And.intro hlen htl));have hlt := hIe.row.lt;obtain ⟨t, ht⟩ : ∃ t, tlen (spl ws) = t := ⟨_, rfl⟩;rw [ht] at HH;have hlen2 : t <= 4 * ws.length := by have := HH.out.2; omega
    have HTL := Lib.hid ht; clear ht;clear hH hval hlen htl hIe;go_wp2
    go_loop [7] (fun n_ => ∃ k : Nat, k <= 4 * ws.length /\ t <= k /\ n_ = .int .i64 k) (fun i => (intOf i).toNat)
    case atStart => exact ⟨4 * ws.length, by omega, by omega, by go_num⟩
    case round =>
     obtain ⟨k, hk, ht, rfl⟩ := hrel;by_cases h0 : 0 < k
     · obtain ⟨b', o', e', hb', hc'⟩ := HD.out (by rw [HH.out.2.1]; omega);simp only [Option.some.injEq, Addr.mk.injEq, and_true] at e';obtain ⟨rfl, rfl⟩ := e';have hcell := hc' (k - 1) (by rw [HH.out.2.1]; omega);rw [Nat.zero_add] at hcell;have hkb : (k : Int) - 1 < 4 * (ws.length : Int) := by omega
       by_cases hz : gw (spl ws) (k - 1) = 0
       · have hzb : (((gw (spl ws) (k - 1) : Nat) : Int) == 0) = true := by rw [hz]; rfl
         have hnk : t <= k - 1 := by
          rw [<- HTL.out];exact tlen_of_zeros (spl ws) (k - 1) (fun j hj => by
           by_cases hj' : j = k - 1
           · rw [hj']; exact hz
           · exact zero_of_tlen (spl ws) j (by have := HTL.out; omega))
         clear hz hc';go_wp2
         go_round
         case rel => exact ⟨k - 1, by omega, hnk, by go_num⟩
         case measure => simp [intOf]; omega
       · have hzb : (((gw (spl ws) (k - 1) : Nat) : Int) == 0) = false := by rw [beq_eq_false_iff_ne]; omega
         have h1 := lt_tlen (spl ws) (k - 1) hz;have hke : k = t := by have := HTL.out; omega
         clear hc' hz h1;subst hke;go_wp2;go_ret;have hl2 : ((spl ws).take k).length = k := by rw [List.length_take, Nat.min_eq_left HH.out.2.2]
         have hH := HH.out.1;refine ⟨⟨b, (spl ws).take k, ?_, hIr.out.ge, hH, HD.out.take _, by omega, hlt⟩, hIr.out.bel⟩;rw [hl2]; rfl
     · have hke : k = t := by omega
       subst hke;go_wp2;go_ret;have hl2 : ((spl ws).take k).length = k := by rw [List.length_take, Nat.min_eq_left HH.out.2.2]
       have hH := HH.out.1;refine ⟨⟨b, (spl ws).take k, ?_, hIr.out.ge, hH, HD.out.take _, by omega, hlt⟩, hIr.out.bel⟩;rw [hl2]; rfl
def pw (ds : List Nat) (j q : Nat) : Nat := hval ((ds.take (4 * q + 4)).drop (max j (4 * q)))
theorem hval_drop (l : List Nat) {j : Nat} (hj : j < l.length) : hval (l.drop j) = gw l j + HX * hval (l.drop (j + 1)) := by
 rw [List.drop_eq_getElem_cons hj, hval]; simp [gw, hj]
theorem pw_step {ds : List Nat} {j : Nat} (hj : j < ds.length) : pw ds j (j / 4) = gw ds j + HX * pw ds (j + 1) (j / 4) := by
 unfold pw;rw [Nat.max_eq_left (by omega), Nat.max_eq_left (by omega), hval_drop _ (by simp; omega), gw_tk (by omega)]
theorem pw_same {ds : List Nat} {j q : Nat} (h : q ≠ j / 4) : pw ds j q = pw ds (j + 1) q := by
 unfold pw;by_cases h1 : j < 4 * q
 · rw [Nat.max_eq_right (by omega), Nat.max_eq_right (by omega)]
 · rw [List.drop_of_length_le (by simp; omega), List.drop_of_length_le (by simp; omega)]
theorem pw_top {ds : List Nat} {q : Nat} : pw ds ds.length q = 0 := by
 unfold pw;rw [List.drop_of_length_le (by simp; omega)]; rfl
theorem pw_zero (ds : List Nat) (q : Nat) : pw ds 0 q = ch4 ds q := by
 unfold pw ch4;rw [Nat.max_eq_right (by omega), List.drop_take];congr 2; omega
theorem pwd_lt3 {ds : List Nat} (h : HOk ds) (j : Nat) : pw ds (j + 1) (j / 4) < HX ^ 3 := by
 unfold pw;refine Nat.lt_of_lt_of_le (hval_lt ((h.take _).drop _)) (Nat.pow_le_pow_right HX_pos ?_);rw [Nat.max_eq_left (by omega)];simp; omega
theorem pw_set {ds : List Nat} {j Q : Nat} (hj : j < ds.length) (hQ : j / 4 < Q) : ((List.range Q).map (pw ds (j + 1))).set (j / 4) (gw ds j + HX * pw ds (j + 1) (j / 4)) = (List.range Q).map (pw ds j) := by
 refine List.ext_getElem (by simp) fun q h1 h2 => ?_;rw [List.getElem_set];by_cases e : j / 4 = q
 · rw [if_pos e]; subst e; simp [pw_step hj]
 · rw [if_neg e]; simp [pw_same (fun h => e h.symm)]
set_option maxRecDepth 100000 in
set_option maxHeartbeats 4000000 in
theorem RWords_c (b0 len cap : Nat) (ds : List Nat) (w : World) (hA : RowAt w b0 3 (ds.map iv)) (hok : HOk ds) (hl : len = ds.length) (hm : len <= 70368744177664) :
 Calls Tryz.prog 45 #[.slice (some ⟨b0, 0, none⟩) len cap] w fun e w' => (∃ ao' cap', e = .returned (.slice ao' (wlen (hval ds)) cap') /\ OwnW w' w.heap.size ao' (wlen (hval ds)) cap' (dig (hval ds))) /\ Below w.heap.size w w' := by
 subst hl;have HA := Lib.hid hA; clear hA;have HO := Lib.hid hok; clear hok;obtain ⟨Q, hQ⟩ : ∃ Q, (ds.length + 3) / 4 = Q := ⟨_, rfl⟩;have hQd : ds.length <= 4 * Q := by omega
 have hQb : Q <= 17592186044417 := by omega
 have hdv : IntKind.i64.wrap (((ds.length : Int) + 3).tdiv 4) = (Q : Int) := by
  have e : ((ds.length : Int) + 3).tdiv 4 = (((ds.length + 3) / 4 : Nat) : Int) := by
   rw [show ((ds.length : Int) + 3) = ((ds.length + 3 : Nat) : Int) by omega];exact (Int.ofNat_tdiv (ds.length + 3) 4).symm
  rw [e, hQ]; exact wrap_small (by omega) (by omega)
 have HQ := Lib.hid hQ; clear hQ;go_enter Tryz.func45, Tryz.ntmps45;go_wp2_with (at_make; refine mk_words rfl _ _ rfl Q Q rfl rfl rfl rfl (Nat.le_refl _) (by omega) ?_; intro b w1 hm1)
 have hrow : RowAt w1 b 41 (((List.range Q).map (pw ds ds.length)).map wv) := by
  have e : (List.range Q).map (pw ds ds.length) = List.replicate Q 0 := by
   refine List.ext_getElem (by simp) fun q h1 h2 => by simp [pw_top]
  rw [e]; exact hm1.row
 have hbg : w.heap.size <= b /\ b0 < b := by have := hm1.at_; have := HA.out.lt; omega
 have HR := Lib.hid hrow; clear hrow;have HB := Lib.hid hm1.below;clear hm1 hdv;go_loopw [4] (fun i_ wr => ∃ (j : Nat), j <= ds.length /\ i_ = .int .i64 ((j : Int) - 1) /\ Hid (RowAt wr b 41 (((List.range Q).map (pw ds j)).map wv)) /\ Hid (Below w.heap.size w wr)) (fun i_ _ => (intOf i_ + 1).toNat)
 case atStart => exact ⟨ds.length, Nat.le_refl _, rfl, HR, HB⟩
 case round =>
  obtain ⟨j', hj, rfl, hR, hBl⟩ := hrel;rcases Nat.eq_zero_or_pos j' with h0 | h0
  · subst h0;have hL : (List.range Q).map (pw ds 0) = (List.range Q).map (ch4 ds) := List.map_congr_left (fun q _ => pw_zero ds q);have hR' := hR.out;rw [hL] at hR';have hv := nval_ch4 Q ds hQd;have hok := ch4_ok HO.out Q;obtain ⟨ls, hls⟩ : ∃ ls, (List.range Q).map (ch4 ds) = ls := ⟨_, rfl⟩;have hll : ls.length = Q := by rw [<- hls]; simp
    rw [hls] at hR' hv hok;have hdig := dig_nval hok;have htl := tlen_le ls;rw [hv] at hdig;have hwl : wlen (hval ds) = tlen ls := by unfold wlen; rw [hdig, List.length_take, Nat.min_eq_left htl]
    obtain ⟨t, ht⟩ : ∃ t, tlen ls = t := ⟨_, rfl⟩;have HT := Lib.hid ht;have HR2 := Lib.hid hR';have HOK := Lib.hid hok;have HD := Lib.hid hdig;rw [ht] at htl hwl;have HWL := Lib.hid hwl;have HLL := Lib.hid hll;have htQ : t <= Q := by omega
    clear hR' hok hdig ht htl hwl hll hv hls hL;go_wp2
    go_loop [5] (fun n_ => ∃ k : Nat, k <= Q /\ t <= k /\ n_ = .int .i64 k) (fun i => (intOf i).toNat)
    case atStart => exact ⟨Q, Nat.le_refl _, htQ, rfl⟩
    case round =>
     obtain ⟨k, hk, ht, rfl⟩ := hrel;by_cases h0 : 0 < k
     · have hcell := HR2.out.word (i := k - 1) (by rw [HLL.out]; omega);have hkb : (k : Int) - 1 < (Q : Int) := by omega
       by_cases hz : gw ls (k - 1) = 0
       · have hzb : (((gw ls (k - 1) : Nat) : Int) == 0) = true := by rw [hz]; rfl
         have hnk : t <= k - 1 := by
          rw [<- HT.out];exact tlen_of_zeros ls (k - 1) (fun j hj => by
           by_cases hj' : j = k - 1
           · rw [hj']; exact hz
           · exact zero_of_tlen ls j (by have := HT.out; omega))
         clear hz;go_wp2
         go_round
         case rel => exact ⟨k - 1, by omega, hnk, by go_num⟩
         case measure => simp [intOf]; omega
       · have hzb : (((gw ls (k - 1) : Nat) : Int) == 0) = false := by rw [beq_eq_false_iff_ne]; omega
         have h1 := lt_tlen ls (k - 1) hz;have hke : k = t := by have := HT.out; omega
         clear hz h1;subst hke;go_wp2;go_ret;rw [HWL.out];refine ⟨⟨some ⟨b, 0, none⟩, Q, rfl, ?_⟩, hBl.out⟩;have h1 := HR2.out.own (n := k) (B := w.heap.size) (cap := Q) HOK.out hbg.1 (by rw [HLL.out]; exact hk) HLL.out.symm (by unfold maxLen; omega);rw [HD.out, HT.out]; exact h1
     · have hke : k = t := by omega
       subst hke;go_wp2;go_ret;rw [HWL.out];refine ⟨⟨some ⟨b, 0, none⟩, Q, rfl, ?_⟩, hBl.out⟩;have h1 := HR2.out.own (n := k) (B := w.heap.size) (cap := Q) HOK.out hbg.1 (by rw [HLL.out]; exact hk) HLL.out.symm (by unfold maxLen; omega);rw [HD.out, HT.out]; exact h1
  · obtain ⟨j, rfl⟩ : ∃ j, j' = j + 1 := ⟨j' - 1, by omega⟩;have e1 : ((j + 1 : Nat) : Int) - 1 = (j : Int) := by omega
    rw [e1]; clear e1;have hpos : (0 : Int) <= (j : Int) := by omega
    have hjl : (j : Int) < (ds.length : Int) := by omega
    have hq : j / 4 < Q := by omega
    have hc := (HA.out.below hBl.out HA.out.lt).getI (i := j) (by omega);have hg := hR.out.word (i := j / 4) (by simp; exact hq);have hg2 : gw ((List.range Q).map (pw ds (j + 1))) (j / 4) = pw ds (j + 1) (j / 4) := by
     unfold gw; simp [hq]
    rw [hg2] at hg;have hset := pw_set (ds := ds) (j := j) (Q := Q) (by omega) hq;have hp3 := pwd_lt3 HO.out j;have hd := HO.out.gw_ j;obtain ⟨v, hv⟩ : ∃ v, pw ds (j + 1) (j / 4) = v := ⟨_, rfl⟩;obtain ⟨d, hde⟩ : ∃ d, gw ds j = d := ⟨_, rfl⟩;rw [hv] at hset hp3 hg;rw [hde] at hset hd hc;have hv3 : v <= 281474976710655 := by unfold HX at hp3; omega
    have hd3 : d <= 65535 := by unfold HX at hd; omega
    have hw1 : IntKind.u64.wrap ((v : Int) * 65536) = (v : Int) * 65536 := by rw [IntKind.wrap_u64]; omega
    have hw2 : IntKind.u64.wrap ((d : Int)) = (d : Int) := by rw [IntKind.wrap_u64]; omega
    have hw3 : IntKind.u64.wrap ((v : Int) * 65536 + (d : Int)) = (v : Int) * 65536 + (d : Int) := by rw [IntKind.wrap_u64]; omega
    have hf := hR.out.free (j / 4);have hjq : IntKind.i64.wrap ((j : Int) / 4) = (j : Int) / 4 := wrap_small (by omega) (by omega);have hqi : (j : Int) / 4 < (Q : Int) := by omega
    have hqp : 0 <= (j : Int) / 4 := by omega
    have hqn : ((j : Int) / 4).toNat = j / 4 := by omega
    have HS := Lib.hid hset; clear hset hg2 hv hde hp3 hd;go_wp2
    go_region
    go_wp2;go_roundw
    case rel =>
     refine ⟨j, by omega, by go_num, Lib.hid ?_, Lib.hid ?_⟩
     · have h9 := (hR.out.setWord (j / 4) (d + HX * v));rw [HS.out] at h9;have e : ((d + HX * v : Nat) : Int) = (v : Int) * 65536 + (d : Int) := by unfold HX; omega
       rw [e] at h9;exact h9
     · exact (hBl.out.setCell (p := ⟨b, j / 4, none⟩) hbg.1 _).drew
    case measure => simp only [intOf]; omega
structure MulI (w : World) (b i j c : Nat) (xs ys cu : List Nat) (W' : World) : Prop where
 len : cu.length = xs.length + ys.length
 ok : HOk cu
 c1 : c < HX
 val : hval cu + HX ^ (i + j) * c = hval (xs.take i) * hval ys + HX ^ i * (gw xs i * hval (ys.take j))
 hi : ∀ k, i + ys.length <= k -> gw cu k = 0
 row : RowAt W' b 3 (cu.map iv)
 bel : Below w.heap.size w W'
structure MulO (w : World) (b i : Nat) (xs ys cu : List Nat) (W' : World) : Prop where
 len : cu.length = xs.length + ys.length
 ok : HOk cu
 val : hval cu = hval (xs.take i) * hval ys
 hi : ∀ k, i + ys.length <= k -> gw cu k = 0
 row : RowAt W' b 3 (cu.map iv)
 bel : Below w.heap.size w W'
theorem gw_set {l : List Nat} {k v j : Nat} (hk : k < l.length) : gw (l.set k v) j = if j = k then v else gw l j := by
 unfold gw;rw [List.getD_eq_getElem?_getD, List.getElem?_set, List.getD_eq_getElem?_getD];by_cases h : k = j
 · subst h; simp [hk]
 · rw [if_neg h, if_neg (fun e => h e.symm)]
theorem hval_set_all {l : List Nat} {k v : Nat} (hk : k < l.length) : hval (l.set k v) + HX ^ k * gw l k = hval l + HX ^ k * v := by
 have h1 : l = l.take k ++ (gw l k :: l.drop (k + 1)) := by
  conv => lhs; rw [<- List.take_append_drop k l, List.drop_eq_getElem_cons hk]
  simp [gw, hk]
 have h2 : l.set k v = l.take k ++ (v :: l.drop (k + 1)) := by
  rw [List.set_eq_take_append_cons_drop]; simp [hk]
 have e1 : hval l = hval (l.take k) + HX ^ k * (gw l k + HX * hval (l.drop (k + 1))) := by
  conv => lhs; rw [h1]
  rw [hval_append, List.length_take, Nat.min_eq_left (by omega)]; rfl
 have e2 : hval (l.set k v) = hval (l.take k) + HX ^ k * (v + HX * hval (l.drop (k + 1))) := by
  rw [h2, hval_append, List.length_take, Nat.min_eq_left (by omega)]; rfl
 rw [e1, e2, Nat.mul_add, Nat.mul_add]; omega
theorem MulI.step {w : World} {b i j c : Nat} {xs ys cu : List Nat} {W' : World} (h : MulI w b i j c xs ys cu W') (hb : w.heap.size <= b) (hi : i < xs.length) (hj : j < ys.length) {s : Nat} (hs : s = gw cu (i + j) + gw xs i * gw ys j + c) (hc : s / 65536 < 65536) :
 MulI w b i (j + 1) (s / 65536) xs ys (cu.set (i + j) (s % 65536)) (W'.setCell ⟨b, i + j, none⟩ (.int .i64 ((s % 65536 : Nat) : Int))) := by
 have hl : i + j < cu.length := by rw [h.len]; omega
 refine ⟨by rw [List.length_set]; exact h.len, h.ok.set _ _ (by unfold HX; omega), by unfold HX; exact hc, ?_, fun k hk => ?_, h.row.setI _ _, h.bel.setCell (p := ⟨b, i + j, none⟩) hb _⟩
 · have e1 := hval_set_all (v := s % 65536) hl;have e2 := h.val;have e3 := hval_take_succ ys j;have e4 : HX ^ (i + (j + 1)) * (s / 65536) = HX ^ (i + j) * (65536 * (s / 65536)) := by rw [<- Nat.add_assoc, Nat.pow_succ, Nat.mul_assoc]; rfl
   have e5 : HX ^ (i + j) * (s % 65536) + HX ^ (i + j) * (65536 * (s / 65536)) = HX ^ (i + j) * s := by rw [<- Nat.mul_add, Nat.mod_add_div]
   have e6 : HX ^ (i + j) * s = HX ^ (i + j) * gw cu (i + j) + HX ^ (i + j) * (gw xs i * gw ys j) + HX ^ (i + j) * c := by rw [hs, Nat.mul_add, Nat.mul_add]
   have e7 : HX ^ i * (gw xs i * hval (ys.take (j + 1))) = HX ^ i * (gw xs i * hval (ys.take j)) + HX ^ (i + j) * (gw xs i * gw ys j) := by
    rw [e3, Nat.mul_add, Nat.mul_add, Nat.pow_add];have : HX ^ i * (gw xs i * (HX ^ j * gw ys j)) = HX ^ i * HX ^ j * (gw xs i * gw ys j) := by
     rw [Nat.mul_left_comm (gw xs i), Nat.mul_assoc]
    omega
   omega
 · rw [gw_set hl, if_neg (by omega)]; exact h.hi k hk
theorem MulI.last {w : World} {b i c : Nat} {xs ys cu : List Nat} {W' : World} (h : MulI w b i ys.length c xs ys cu W') (hb : w.heap.size <= b) (hi : i < xs.length) :
 MulO w b (i + 1) xs ys (cu.set (i + ys.length) c) (W'.setCell ⟨b, i + ys.length, none⟩ (.int .i64 (c : Int))) := by
 have hl : i + ys.length < cu.length := by rw [h.len]; omega
 refine ⟨by rw [List.length_set]; exact h.len, h.ok.set _ _ h.c1, ?_, fun k hk => ?_, h.row.setI _ _, h.bel.setCell (p := ⟨b, i + ys.length, none⟩) hb _⟩
 · have e1 := hval_set_all (v := c) hl;rw [h.hi (i + ys.length) (Nat.le_refl _), Nat.mul_zero, Nat.add_zero] at e1;have e2 := h.val;rw [List.take_length] at e2;rw [e1, e2, hval_take_succ, Nat.add_mul, Nat.mul_assoc]
 · rw [gw_set hl, if_neg (by omega)]; exact h.hi k (by omega)
theorem gw_replicate (n k : Nat) : gw (List.replicate n 0) k = 0 := by
 unfold gw;rw [List.getD_eq_getElem?_getD, List.getElem?_replicate];split <;> rfl
set_option maxRecDepth 100000 in
set_option maxHeartbeats 8000000 in
theorem RMul02_c (aoA aoB : Option Addr) (lA cA lB cB : Nat) (xs ys : List Nat) (w : World) (hA : WAt w aoA xs) (hB : WAt w aoB ys) (hlA : lA = xs.length) (hlB : lB = ys.length) (hmA : lA <= 1099511627776) (hmB : lB <= 1099511627776) :
 Calls Tryz.prog 28 #[.slice aoA lA cA, .slice aoB lB cB] w fun e w' => (∃ ao' cap', e = .returned (.slice ao' (wlen (nval xs * nval ys)) cap') /\ OwnW w' w.heap.size ao' (wlen (nval xs * nval ys)) cap' (dig (nval xs * nval ys))) /\ Below w.heap.size w w' := by
 have HS1 := Lib.hid (RDigits_c aoA lA cA xs w hA hlA (by omega));have HB := Lib.hid hB; clear hB;have HlB := Lib.hid hlB; clear hlB;clear hA hlA;go_enter Tryz.func28, Tryz.ntmps28;go_wp2_with fail
 refine HS1.out.mono ?_;rintro e w2 ⟨⟨b1, ds, rfl, hb1, hH, hD, hdl, hlt1⟩, hb2⟩;have HS2 := Lib.hid (RDigits_c aoB lB cB ys w2 (HB.out.below hb2) HlB.out (by omega));have HH := Lib.hid hH; clear hH;have HD := Lib.hid hD; clear hD;have HB2 := Lib.hid hb2; clear hb2;go_wp2_with fail
 refine HS2.out.mono ?_;rintro e w3 ⟨⟨b2, es, rfl, hb', hH', hD', hel, hlt2⟩, hb3⟩;have HT : Hid (Two w3 b1 b2 (nval xs) (nval ys) ds es) := Lib.hid ⟨HH.out, hH', HD.out.below hb3, hD'⟩;have HB3 := Lib.hid (HB2.out.trans (hb3.mono HB2.out.size));have hTB : b1 < w3.heap.size /\ b2 < w3.heap.size := ⟨Nat.lt_of_lt_of_le hlt1 hb3.size, hlt2⟩;clear hH' hD' hb3 HH HD HB2 HS1 HS2 hb1 hb' hlt1 hlt2;go_wp2_with (at_make; refine mk_ints rfl _ _ rfl (ds.length + es.length) (ds.length + es.length) rfl rfl (by omega) (by omega) (Nat.le_refl _) (by omega) ?_; intro b w4 hm4)
 have hbg : w.heap.size <= b := by have := hm4.at_; have := HB3.out.size; omega
 have hbb : b1 < b /\ b2 < b := by have := hm4.at_; omega
 have HI : Hid (MulO w b 0 ds es (List.replicate (ds.length + es.length) 0) w4) := Lib.hid ⟨by simp, HOk.replicate _, by simp [hval, hval_replicate], fun k _ => gw_replicate _ k, hm4.row, HB3.out.trans (hm4.below.mono HB3.out.size)⟩;have HT4 := Lib.hid (HT.out.below hm4.below);clear hm4 HT HB3 hTB;go_loopw [8] (fun i_ wr => ∃ (i : Nat) (cu : List Nat), i <= ds.length /\ i_ = .int .i64 (i : Int) /\ Hid (MulO w b i ds es cu wr) /\ Hid (Two wr b1 b2 (nval xs) (nval ys) ds es)) (fun i_ _ => ds.length - (intOf i_).toNat)
 case atStart => exact ⟨0, _, Nat.zero_le _, rfl, HI, HT4⟩
 case round =>
  obtain ⟨i, cu0, hi, rfl, hO, hT0⟩ := hrel;by_cases hin : i < ds.length
  · have hin1 : (i : Int) < (ds.length : Int) := by omega
    have HI0 : Hid (MulI w b i 0 0 ds es cu0 wr) := Lib.hid ⟨hO.out.len, hO.out.ok, by unfold HX; omega, by rw [hO.out.val]; simp [hval], hO.out.hi, hO.out.row, hO.out.bel⟩;clear hO;go_wp2;go_loopw [9, 10] (fun c_ j_ wq => ∃ (j c : Nat) (cu : List Nat), j <= es.length /\ j_ = .int .i64 (j : Int) /\ c_ = .int .i64 (c : Int) /\ Hid (MulI w b i j c ds es cu wq) /\ Hid (Two wq b1 b2 (nval xs) (nval ys) ds es)) (fun _ j_ _ => es.length - (intOf j_).toNat)
    case atStart => exact ⟨0, 0, _, Nat.zero_le _, rfl, rfl, HI0, hT0⟩
    case round =>
     obtain ⟨j, c, cu, hj, rfl, rfl, hI, hT⟩ := hrel;by_cases hjn : j < es.length
     · have hjn1 : (j : Int) < (es.length : Int) := by omega
       obtain ⟨b1', o1', e1', hlt1', hc1'⟩ := hT.out.d1 (by omega);simp only [Option.some.injEq, Addr.mk.injEq, and_true] at e1';obtain ⟨rfl, rfl⟩ := e1';have k1 := hc1' i hin;rw [Nat.zero_add] at k1;obtain ⟨b2', o2', e2', hlt2', hc2'⟩ := hT.out.d2 (by omega);simp only [Option.some.injEq, Addr.mk.injEq, and_true] at e2';obtain ⟨rfl, rfl⟩ := e2';have k2 := hc2' j hjn;rw [Nat.zero_add] at k2;have k3 := hI.out.row.getI (i := i + j) (by rw [hI.out.len]; omega);have hx := hT.out.h1.ok.gw_ i;have hy := hT.out.h2.ok.gw_ j;have hz := hI.out.ok.gw_ (i + j);have hcc := hI.out.c1;obtain ⟨x, hxe⟩ : ∃ x, gw ds i = x := ⟨_, rfl⟩;obtain ⟨y, hye⟩ : ∃ y, gw es j = y := ⟨_, rfl⟩;obtain ⟨z, hze⟩ : ∃ z, gw cu (i + j) = z := ⟨_, rfl⟩;rw [hxe] at hx k1;rw [hye] at hy k2;rw [hze] at hz k3;unfold HX at hx hy hz hcc;have hxy : x * y <= 65535 * 65535 := Nat.mul_le_mul (by omega) (by omega);obtain ⟨p, hp⟩ : ∃ p, x * y = p := ⟨_, rfl⟩;rw [hp] at hxy;obtain ⟨s, hs⟩ : ∃ s, z + p + c = s := ⟨_, rfl⟩;have hsb : s <= 4294967295 := by omega
       have HST := Lib.hid (show s = gw cu (i + j) + gw ds i * gw es j + c by rw [hxe, hye, hze, hp]; exact hs.symm);have hdb : s / 65536 < 65536 := by omega
       have hm1 : IntKind.i64.wrap ((x : Int) * (y : Int)) = (p : Int) := by
        rw [<- Int.natCast_mul, hp]; exact wrap_small (by omega) (by omega)
       have hm2 : IntKind.i64.wrap ((z : Int) + (p : Int)) = (z : Int) + (p : Int) := wrap_small (by omega) (by omega);have hm3 : IntKind.i64.wrap ((z : Int) + (p : Int) + (c : Int)) = (s : Int) := by
        rw [show (z : Int) + (p : Int) + (c : Int) = (s : Int) by omega]; exact wrap_small (by omega) (by omega)
       have hm4 : IntKind.i64.wrap ((i : Int) + (j : Int)) = (i : Int) + (j : Int) := wrap_small (by omega) (by omega);have hm5 : (i : Int) + (j : Int) < (ds.length : Int) + (es.length : Int) := by omega
       have hm6 : 0 <= (i : Int) + (j : Int) := by omega
       have hm7 : ((i : Int) + (j : Int)).toNat = i + j := by omega
       have f3 := hI.out.row.free (i + j);clear hs hp hxe hye hze hc1' hc2';go_wp2
       go_quiet (fail)
       have hT2 := Two.below (w := wr) hT.out (below_drewN (Below.refl _ _) nq);have hI2 : MulI w b i j c ds es cu (wr.drewN nq) := ⟨hI.out.len, hI.out.ok, hI.out.c1, hI.out.val, hI.out.hi, hI.out.row.below (below_drewN (Below.refl _ _) nq) hI.out.row.lt, below_drewN hI.out.bel nq⟩;generalize wr.drewN nq = w6 at *;have g3 := hI2.row.getI (i := i + j) (by rw [hI2.len]; omega);have g4 := hI2.row.free (i + j);have HN := Lib.hid (hI2.step hbg hin hjn HST.out hdb);have HT2 := Lib.hid (hT2.setI hI2.row hbb (i + j) (.int .i64 ((s % 65536 : Nat) : Int)));clear hT2 hI2 k1 k2 k3 f3;go_wp2_with (first
        | (with_reducible show wpList _ _ _ (⟨some 57, _, _, _, _, _⟩ :: _) _ _; refine op_remI rfl _ _ rfl s 65536 (by omega) (by omega) rfl rfl rfl rfl ?_)
        | (with_reducible show wpList _ _ _ (⟨some 60, _, _, _, _, _⟩ :: _) _ _; refine op_quoI rfl _ _ rfl s 65536 (by omega) (by omega) rfl rfl rfl rfl ?_))
       go_roundw
       case rel => exact ⟨j + 1, s / 65536, _, by omega, by go_num, rfl, HN, HT2⟩
       case measure => simp [intOf]; omega
     · obtain rfl : j = es.length := by omega
       have hm4 : IntKind.i64.wrap ((i : Int) + (es.length : Int)) = (i : Int) + (es.length : Int) := wrap_small (by omega) (by omega);have hm5 : (i : Int) + (es.length : Int) < (ds.length : Int) + (es.length : Int) := by omega
       have g3 := hI.out.row.getI (i := i + es.length) (by rw [hI.out.len]; omega);have g4 := hI.out.row.free (i + es.length);have HN := Lib.hid (hI.out.last hbg hin);have HT2 := Lib.hid (hT.out.setI hI.out.row hbb (i + es.length) (.int .i64 (c : Int)));go_wp2;go_roundw
       case rel => exact ⟨i + 1, _, by omega, by go_num, HN, HT2⟩
       case measure => simp [intOf]; omega
  · obtain rfl : i = ds.length := by omega
    have hO' := hO.out;have hfin : hval cu0 = nval xs * nval ys := by
     rw [hO'.val, List.take_length, hT0.out.h1.val, hT0.out.h2.val]
    have hj := RWords_c b (ds.length + es.length) (ds.length + es.length) cu0 _ hO'.row hO'.ok hO'.len.symm (by omega);rw [hfin] at hj;have HJ := Lib.hid hj;have HBL := Lib.hid hO'.bel;clear hj hfin hO' hi hin;go_wp2_with fail
    refine HJ.out.mono ?_;rintro e w9 ⟨⟨ao', cap', rfl, hO9⟩, hb9⟩;have HO := Lib.hid (hO9.mono HBL.out.size);have HB9 := Lib.hid (HBL.out.trans (hb9.mono HBL.out.size));clear hO9 hb9;go_wp2;go_ret;exact ⟨⟨ao', cap', rfl, HO.out⟩, HB9.out⟩
set_option maxRecDepth 100000 in
set_option maxHeartbeats 1000000 in
theorem RMade_c (n : Bool) (ao : Option Addr) (len cap : Nat) (ws : List Nat) (w : World) (hA : WAt w ao ws) (hl : len = ws.length) (hm : len <= 8796093022208) :
 Calls Tryz.prog 29 #[.bool n, .slice ao len cap] w fun e w' => (∃ v', e = .returned v' /\ OwnI w' w.heap.size v' (zi n (nval ws))) /\ Below w.heap.size w w' := by
 have hb1 : Below w.heap.size w (w.alloc (.cells #[.bool false, .slice none 0 0] 37)) := (Below.refl _ _).alloc (Nat.le_refl _) _;have hr1 := RowAt.new w #[.bool false, .slice none 0 0] 37;have hs1 : (w.alloc (.cells #[.bool false, .slice none 0 0] 37)).heap.size = w.heap.size + 1 := by simp
 have HL := Lib.hid (RLeast01_c ao len cap ws _ (hA.below hb1) hl hm);have HB1 := Lib.hid hb1; clear hb1;have HR1 := Lib.hid hr1; clear hr1;clear hA hl;go_enter Tryz.func29, Tryz.ntmps29;go_wp2_with fail
 generalize w.alloc (.cells #[.bool false, .slice none 0 0] 37) = w1 at *;refine HL.out.mono ?_;rintro e w2 ⟨⟨ao', cap', rfl, hO⟩, hb2⟩;have hr2 := HR1.out.below hb2 HR1.out.lt;have c0 := hr2.cell 0;have c1 := hr2.cell 1;have f0 := hr2.free 0;have f1 := hr2.free 1;have HR2 := Lib.hid hr2; clear hr2;have HO := Lib.hid hO; clear hO;have HB2 := Lib.hid (HB1.out.trans (hb2.mono HB1.out.size)); clear hb2;cases n;all_goals
  go_wp2;refine bodyPost_ret (results_int (p := 4) (by kernel_rfl) _ _ w.heap.size _ _ rfl (HR2.out.set2 _ _)) rfl ?_
 · refine ⟨⟨_, rfl, ?_⟩, (HB2.out.setCell (Nat.le_refl _) _).setCell (Nat.le_refl _) _⟩;have := OwnI.mk false ((HO.out.setOther (p := ⟨w.heap.size, 0, none⟩) (by show w.heap.size < w1.heap.size; omega) (.bool false)).setOther (p := ⟨w.heap.size, 1, none⟩) (by show w.heap.size < w1.heap.size; omega) (.slice ao' (wlen (nval ws)) cap'));exact this.mono (by omega)
 · refine ⟨⟨_, rfl, ?_⟩, (HB2.out.setCell (Nat.le_refl _) _).setCell (Nat.le_refl _) _⟩;have := OwnI.mk true ((HO.out.setOther (p := ⟨w.heap.size, 0, none⟩) (by show w.heap.size < w1.heap.size; omega) (.bool (decide (0 < wlen (nval ws))))).setOther (p := ⟨w.heap.size, 1, none⟩) (by show w.heap.size < w1.heap.size; omega) (.slice ao' (wlen (nval ws)) cap'));simpa using this.mono (by omega)
set_option maxRecDepth 100000 in
set_option maxHeartbeats 1000000 in
theorem RLeast_c (v : Value) (x : Int) (L : Nat) (w : World) (hA : IntAt w L v x) (hL : L <= 8796093022208) :
 Calls Tryz.prog 60 #[v] w fun e w' => (∃ v', e = .returned v' /\ OwnI w' w.heap.size v' x) /\ Below w.heap.size w w' := by
 obtain ⟨n, ao, len, cap, ws, rfl, hW, hl, hl2, hc, rfl⟩ := hA;obtain ⟨r1, r2, hb⟩ := two_new w #[.bool n, .slice ao len cap] #[.bool false, .slice none 0 0] 37 37;have HM := Lib.hid (RMade_c n ao len cap ws _ (hW.below hb) hl (by omega));have HR1 := Lib.hid r1; clear r1;have HR2 := Lib.hid r2; clear r2;have HB := Lib.hid hb; clear hb;have e0 := HR1.out.cell 0;have e1 := HR1.out.cell 1;clear hW hl hc;go_enter Tryz.func60, Tryz.ntmps60;go_wp2_with fail
 generalize (w.alloc (.cells #[.bool n, .slice ao len cap] 37)).alloc (.cells #[.bool false, .slice none 0 0] 37) = w2 at *;refine HM.out.mono ?_;rintro e w3 ⟨⟨v', rfl, hO⟩, hb3⟩;obtain ⟨pz, rfl⟩ := NumAt.parts hO.num;unfold av at *;have hr3 := HR2.out.below hb3 HR2.out.lt;have c0 := hr3.cell 0;have c1 := hr3.cell 1;have f0 := hr3.free 0;have f1 := hr3.free 1;have hs2 : w.heap.size + 1 < w2.heap.size := HR2.out.lt;have HR3 := Lib.hid hr3; clear hr3;have HO := Lib.hid hO; clear hO;have HB3 := Lib.hid (HB.out.trans (hb3.mono HB.out.size)); clear hb3 e0 e1;go_wp2;refine bodyPost_ret (results_int (p := 2) (by kernel_rfl) _ _ (w.heap.size + 1) _ _ rfl (HR3.out.set2 _ _)) rfl ?_;refine ⟨⟨_, rfl, ?_⟩, (HB3.out.setCell (Nat.le_succ _) _).setCell (Nat.le_succ _) _⟩;exact (OwnI.setRow2 HO.out HR3.out _ _).mono (by omega)
set_option maxRecDepth 100000 in
set_option maxHeartbeats 2000000 in
theorem RNeg_c (v : Value) (x : Int) (L : Nat) (w : World) (h : IntAt w L v x) (hL : L <= 8796093022208) :
 Calls Tryz.prog 26 #[v] w fun e w' => (∃ v', e = .returned v' /\ OwnI w' w.heap.size v' (-x)) /\ Below w.heap.size w w' := by
 obtain ⟨n, ao, len, cap, ws, rfl, hW, hl, hk, hc, rfl⟩ := h;obtain ⟨r1, r2, hb⟩ := two_new w #[.bool n, .slice ao len cap] #[.bool false, .slice none 0 0] 37 37;have HM := Lib.hid (RMade_c (!n) ao len cap ws _ (hW.below hb) hl (by omega));have HR1 := Lib.hid r1; clear r1;have HR2 := Lib.hid r2; clear r2;have HB := Lib.hid hb; clear hb;have e0 := HR1.out.cell 0;have e1 := HR1.out.cell 1;clear hW hl hc;go_enter Tryz.func26, Tryz.ntmps26;go_wp2_with fail
 generalize (w.alloc (.cells #[.bool n, .slice ao len cap] 37)).alloc (.cells #[.bool false, .slice none 0 0] 37) = w2 at *;refine HM.out.mono ?_;rintro e w3 ⟨⟨v', rfl, hO⟩, hbz⟩;rw [zi_not] at hO;have hs2 : w.heap.size + 1 < w2.heap.size := HR2.out.lt;obtain ⟨pz, rfl⟩ := NumAt.parts hO.num;unfold av at *;have hrz := HR2.out.below hbz HR2.out.lt;have c0 := hrz.cell 0;have c1 := hrz.cell 1;have f0 := hrz.free 0;have f1 := hrz.free 1;have HRZ := Lib.hid hrz; clear hrz;have HO := Lib.hid hO; clear hO;have HBZ := Lib.hid (HB.out.trans (hbz.mono HB.out.size)); clear hbz;clear e0 e1;go_wp2;refine bodyPost_ret (results_int (p := 2) (by kernel_rfl) _ _ (w.heap.size + 1) _ _ rfl (HRZ.out.set2 _ _)) rfl ?_;refine ⟨⟨_, rfl, ?_⟩, (HBZ.out.setCell (by show w.heap.size <= w.heap.size + 1; omega) _).setCell (by show w.heap.size <= w.heap.size + 1; omega) _⟩;exact (OwnI.setRow2 HO.out HRZ.out _ _).mono (by omega)
set_option maxRecDepth 100000 in
set_option maxHeartbeats 2000000 in
theorem RSign_c (v : Value) (x : Int) (L : Nat) (w : World) (h : IntAt w L v x) (hL : L <= 8796093022208) :
 Calls Tryz.prog 40 #[v] w fun e w' => e = .returned (.int .i64 (zsign x)) /\ Below w.heap.size w w' := by
 have hA := h;obtain ⟨n, ao, len, cap, ws, rfl, hW, hl, hk, hc, hx⟩ := h;have r1 := RowAt.new w #[.bool n, .slice ao len cap] 37;have hb : Below w.heap.size w (w.alloc (.cells #[.bool n, .slice ao len cap] 37)) := (Below.refl _ _).alloc (Nat.le_refl _) _;have HM := Lib.hid (RLeast_c _ x L _ (hA.below hb) hL);have HR1 := Lib.hid r1; clear r1;have HB := Lib.hid hb; clear hb;have e0 := HR1.out.cell 0;have e1 := HR1.out.cell 1;clear hW hl hc hA hx;go_enter Tryz.func40, Tryz.ntmps40;go_wp2_with fail
 generalize w.alloc (.cells #[.bool n, .slice ao len cap] 37) = w2 at *;refine HM.out.mono ?_;rintro e w3 ⟨⟨v', rfl, hO⟩, hb3⟩;obtain ⟨aoz, capz, rfl, hOz⟩ := hO;have hbz : Below w.heap.size w w3 := HB.out.trans (hb3.mono HB.out.size);have HBZ := Lib.hid hbz; clear hbz hb3 hOz e0 e1;rcases Int.lt_trichotomy x 0 with hx | hx | hx
 · have h1 : decide (x < 0) = true := by simpa using hx
   rw [h1];have HZ := Lib.hid (show zsign x = -1 by unfold zsign; rw [if_pos hx]);clear hx h1;go_wp2;go_ret;exact ⟨by rw [HZ.out]; rfl, HBZ.out.alloc HBZ.out.size _⟩
 · subst hx;have h1 : decide ((0 : Int) < 0) = false := rfl;have h2 : wlen (0 : Int).natAbs = 0 := wlen_zero;rw [h1, h2];have HZ := Lib.hid (show zsign 0 = 0 from rfl);clear h1 h2;go_wp2;go_ret;exact ⟨by rw [HZ.out]; rfl, HBZ.out.alloc HBZ.out.size _⟩
 · have h1 : decide (x < 0) = false := by simp; omega
   have h2 : wlen x.natAbs ≠ 0 := fun e => by have := wlen_eq_zero.1 e; omega
   rw [h1];have HZ := Lib.hid (show zsign x = 1 by unfold zsign; rw [if_neg (by omega), if_neg (by omega)]);obtain ⟨k, hk⟩ : ∃ k, wlen x.natAbs = k := ⟨_, rfl⟩;rw [hk] at h2 ⊢;have h3 : 0 < (k : Int) := by omega
   clear hx h1 hk;go_wp2;go_ret;exact ⟨by rw [HZ.out]; rfl, HBZ.out.alloc HBZ.out.size _⟩
set_option maxRecDepth 100000 in
set_option maxHeartbeats 2000000 in
theorem RCmpAbs_c (v u : Value) (x y : Int) (L : Nat) (w : World) (h1 : IntAt w L v x) (h2 : IntAt w L u y) (hL : L <= 1099511627776) :
 Calls Tryz.prog 12 #[v, u] w fun e w' => e = .returned (.int .i64 (ncmp x.natAbs y.natAbs)) /\ Below w.heap.size w w' := by
 obtain ⟨n1, ao1, len1, cap1, ws1, rfl, hW1, hl1, hk1, hc1, rfl⟩ := h1;obtain ⟨n2, ao2, len2, cap2, ws2, rfl, hW2, hl2, hk2, hc2, rfl⟩ := h2;rw [zi_abs, zi_abs];obtain ⟨r1, r2, hb⟩ := two_new w #[.bool n1, .slice ao1 len1 cap1] #[.bool n2, .slice ao2 len2 cap2] 37 37;have HM := Lib.hid (RCmp01_c ao1 ao2 len1 cap1 len2 cap2 ws1 ws2 _ (hW1.below hb) (hW2.below hb) hl1 hl2 (by omega) (by omega));have e10 := r1.cell 0;have e11 := r1.cell 1;have e20 := r2.cell 0;have e21 := r2.cell 1;have HB := Lib.hid hb; clear hb r1 r2;clear hW1 hl1 hc1 hW2 hl2 hc2;go_enter Tryz.func12, Tryz.ntmps12;go_wp2_with fail
 generalize (w.alloc (.cells #[.bool n1, .slice ao1 len1 cap1] 37)).alloc (.cells #[.bool n2, .slice ao2 len2 cap2] 37) = w2 at *;refine HM.out.mono ?_;rintro e w3 ⟨rfl, hb3⟩;have HB3 := Lib.hid (HB.out.trans (hb3.mono HB.out.size)); clear hb3 e10 e11 e20 e21;go_wp2;go_ret;exact ⟨rfl, HB3.out⟩
theorem madeW {B m cap : Nat} {ao : Option Addr} (n : Bool) {w : World} (hm : wlen m <= 8796093022208) (hB : B <= w.heap.size) (h : OwnW w B ao (wlen m) cap (dig m)) : Calls Tryz.prog 29 #[.bool n, .slice ao (wlen m) cap] w fun e w' => (∃ v, e = .returned v /\ OwnI w' B v (zi n m)) /\ Below w.heap.size w w' :=
 (RMade_c n ao (wlen m) cap (dig m) w h.at_ h.len hm).mono fun e w' ⟨⟨v, he, hv⟩, hb⟩ => ⟨⟨v, he, by rw [nval_dig] at hv; exact hv.mono hB⟩, hb⟩
set_option maxRecDepth 100000 in
set_option maxHeartbeats 1000000 in
theorem RTrunc_c (v u : Value) (x y : Int) (w : World) (hA : IntAt w 8796093022208 v x) (hB : IntAt w 8796093022208 u y) (hy : y ≠ 0) :
 Calls Tryz.prog 43 #[v, u] w fun e w' => (∃ v' u', e = .returned (.tuple #[v', u', .int .i64 0]) /\ OwnI w' w.heap.size v' (x.tdiv y) /\ OwnI w' w.heap.size u' (x.tmod y)) /\ Below w.heap.size w w' := by
 obtain ⟨n, ao, len, cap, ws, rfl, hW, hl, hL1, hc, hx⟩ := hA;obtain ⟨n2, ao2, len2, cap2, ws2, rfl, hW2, hl2, hL2, hc2, hx2⟩ := hB;have lq : wlen (nval ws / nval ws2) <= 8796093022208 := Nat.le_trans (wlen_mono (Nat.div_le_self ..)) (Nat.le_trans (wlen_nval_le hW.ok) (by omega));have lr : wlen (nval ws % nval ws2) <= 8796093022208 := Nat.le_trans (wlen_mono (Nat.mod_le ..)) (Nat.le_trans (wlen_nval_le hW.ok) (by omega));have h2 : nval ws2 ≠ 0 := fun h => hy (by rw [hx2, h]; cases n2 <;> rfl);rw [hx, hx2, <- zi_tdiv, <- zi_tmod (b := n2)];refine funW (S0 := fun _ => False) Tryz.func43 (Fr.nil _ w) ?_;refine goW ?_;refine rW [] ?_;refine aW fun g2 => ?_;refine aW fun g3 => ?_;refine aW fun g4 => ?_;refine aW fun g5 => ?_;refine dW ?_;refine eW ?_;refine goW ?_;refine rW [] ?_;refine dW ?_;refine dW ?_;refine dW ?_;refine dW ?_;refine cG (α := (Option Addr × Nat) × Option Addr × Nat) (mk := fun p => .tuple #[.slice p.1.1 (wlen (nval ws / nval ws2)) p.1.2, .slice p.2.1 (wlen (nval ws % nval ws2)) p.2.2, .int .i64 0]) (ens := fun p => [.ow w.heap.size p.1.1 (nval ws / nval ws2) p.1.2, .ow w.heap.size p.2.1 (nval ws % nval ws2) p.2.2])
  (fun w' H => (TDivMod_c ao ao2 len len2 cap cap2 ws ws2 w' (hW.below H.below) (hW2.below H.below) hl hl2 hc hc2 (by omega) (by omega) h2).mono ?_) ?_
 · rintro e w3 ⟨⟨aq, cq, ar, cr, rfl, h1, h3⟩, hb⟩;exact ⟨⟨(aq, cq), (ar, cr)⟩, rfl, hb, fun e he => by
    rcases List.mem_cons.1 he with rfl | he
    · exact ⟨h1.mono H.size, fun _ h => h.elim⟩
    · rcases List.mem_singleton.1 he with rfl;exact ⟨h3.mono H.size, fun _ h => h.elim⟩, List.pairwise_pair.2 ⟨(fun h => nomatch h), (fun h => nomatch h)⟩⟩
 rintro ⟨⟨aq, cq⟩, ar, cr⟩;refine dW ?_;refine dW ?_;refine dW ?_;refine dW ?_;refine dW ?_;refine dW ?_;refine dW ?_;refine eW ?_;refine goW ?_;refine rW [] ?_;refine dW ?_;refine dW ?_;refine eW ?_;refine goW ?_;refine cfW ?_;refine goW ?_;refine rW [] ?_;refine dW ?_;refine dW ?_;refine dW ?_;refine dW ?_;refine dW ?_;refine dW ?_;refine cNo (fun w' H => madeW (!(n == n2)) lq H.size H.m0) fun p1 => ?_;refine dW ?_;refine dW ?_;refine dW ?_;refine cNo (fun w' H => madeW n lr H.size H.m2) fun p2 => ?_;refine sW ?_;refine sW ?_;refine dW ?_;refine eW ?_;refine goW ?_;refine fin3 fun w' H => ?_;exact ⟨_, _, _, rvI H.m5, rvI H.m4, rvT, ⟨_, _, rfl, H.m1, H.m0⟩, H.below⟩
set_option maxRecDepth 100000 in
set_option maxHeartbeats 1000000 in
theorem RGcd_c (v u : Value) (x y : Int) (w : World) (hA : IntAt w 8796093022208 v x) (hB : IntAt w 8796093022208 u y) :
 Calls Tryz.prog 81 #[v, u] w fun e w' => (∃ v', e = .returned v' /\ OwnI w' w.heap.size v' (Int.gcd x y : Int)) /\ Below w.heap.size w w' := by
 obtain ⟨n, ao, len, cap, ws, rfl, hW, hl, hL1, hc, hx⟩ := hA;obtain ⟨n2, ao2, len2, cap2, ws2, rfl, hW2, hl2, hL2, hc2, hx2⟩ := hB;have hg : Int.gcd x y = Nat.gcd (nval ws) (nval ws2) := by rw [hx, hx2]; unfold Int.gcd; rw [zi_abs, zi_abs]
 rw [hg];refine funW (S0 := fun _ => False) Tryz.func81 (Fr.nil _ w) ?_;refine goW ?_;refine rW [] ?_;refine aW fun g2 => ?_;refine aW fun g3 => ?_;refine aW fun g4 => ?_;refine eW ?_;refine goW ?_;refine rW [] ?_;refine dW ?_;refine dW ?_;refine dW ?_;refine dW ?_;refine cG (α := Option Addr × Nat) (mk := fun p => .slice p.1 (wlen (Nat.gcd (nval ws) (nval ws2))) p.2) (ens := fun p => [.ow w.heap.size p.1 (Nat.gcd (nval ws) (nval ws2)) p.2])
  (fun w' H => (TGcd_c ao ao2 len len2 cap cap2 ws ws2 w' (hW.below H.below) (hW2.below H.below) hl hl2 hc hc2 (by omega) (by omega)).mono (by
   rintro e w3 ⟨⟨o, c, rfl, h1⟩, hb⟩;exact ⟨(o, c), rfl, hb, fun e he => by
    rcases List.mem_singleton.1 he with rfl;exact ⟨h1.mono H.size, fun _ h => h.elim⟩, List.pairwise_singleton ..⟩)) ?_
 rintro ⟨o, c⟩;refine dW ?_;refine eW ?_;refine goW ?_;refine rW [] ?_;refine dW ?_;refine dW ?_;refine sW ?_;refine eW ?_;refine goW ?_;refine fin1 fun w' H => ?_;exact ⟨_, rvI H.m1, ⟨_, rfl, ow_own H.m0⟩, H.below⟩
set_option maxRecDepth 100000 in
set_option maxHeartbeats 2000000 in
theorem RMul_c (v u : Value) (x y : Int) (L : Nat) (w : World) (h1 : IntAt w L v x) (h2 : IntAt w L u y) (hL : L <= 1099511627776) :
 Calls Tryz.prog 11 #[v, u] w fun e w' => (∃ v', e = .returned v' /\ OwnI w' w.heap.size v' (x * y)) /\ Below w.heap.size w w' := by
 obtain ⟨n1, ao1, len1, cap1, ws1, rfl, hW1, hl1, hk1, hc1, rfl⟩ := h1;obtain ⟨n2, ao2, len2, cap2, ws2, rfl, hW2, hl2, hk2, hc2, rfl⟩ := h2;obtain ⟨r1, r2, r3, hb⟩ := three_new w #[.bool n1, .slice ao1 len1 cap1] #[.bool n2, .slice ao2 len2 cap2] #[.bool false, .slice none 0 0] 37 37 37;have R1 := Lib.hid r1;have R2 := Lib.hid r2;have R3 := Lib.hid r3;have e10 := r1.cell 0;have e11 := r1.cell 1;have e20 := r2.cell 0;have e21 := r2.cell 1;have H1 := Lib.hid (hW1.below hb);have H2 := Lib.hid (hW2.below hb);have HL := Lib.hid (And.intro hl1 hl2);have HB := Lib.hid hb; clear hb r1 r2 r3;clear hW1 hl1 hc1 hW2 hl2 hc2;have HM := Lib.hid (RMul02_c ao1 ao2 len1 cap1 len2 cap2 ws1 ws2 _ H1.out H2.out HL.out.1 HL.out.2 (by omega) (by omega));go_enter Tryz.func11, Tryz.ntmps11;go_wp2_with fail
 generalize ((w.alloc (.cells #[.bool n1, .slice ao1 len1 cap1] 37)).alloc (.cells #[.bool n2, .slice ao2 len2 cap2] 37)).alloc (.cells #[.bool false, .slice none 0 0] 37) = w2 at *;refine HM.out.mono ?_;rintro e w3 ⟨⟨ao3, cap3, rfl, hO3⟩, hb3⟩;have hwl : wlen (nval ws1 * nval ws2) <= 8796093022208 := by
  have h1 := hO3.len;have h2 := wlen_mul (nval ws1) (nval ws2);have h3 := wlen_le_length H1.out.1;have h4 := wlen_le_length H2.out.1;have h5 := HL.out;omega
 have HM3 := Lib.hid (RMade_c (n1 != n2) ao3 _ cap3 _ w3 hO3.at_ hO3.len hwl);have k10 := (R1.out.below hb3 R1.out.lt).cell 0;have k11 := (R1.out.below hb3 R1.out.lt).cell 1;have k20 := (R2.out.below hb3 R2.out.lt).cell 0;have k21 := (R2.out.below hb3 R2.out.lt).cell 1;have R33 := Lib.hid (R3.out.below hb3 R3.out.lt);have HB3 := Lib.hid (HB.out.trans (hb3.mono HB.out.size));clear hb3 e10 e11 e20 e21 hO3 hwl HM;go_wp2_with fail
 refine HM3.out.mono ?_;rintro e w4 ⟨⟨v', rfl, hO⟩, hbz⟩;rw [nval_dig, zi_mul] at hO;have hs3 : w.heap.size + 2 < w3.heap.size := R33.out.lt;obtain ⟨pz, rfl⟩ := NumAt.parts hO.num;unfold av at *;have hrz := R33.out.below hbz R33.out.lt;have c0 := hrz.cell 0;have c1 := hrz.cell 1;have f0 := hrz.free 0;have f1 := hrz.free 1;have HRZ := Lib.hid hrz; clear hrz;have HO := Lib.hid hO; clear hO;have HBZ := Lib.hid (HB3.out.trans (hbz.mono HB3.out.size)); clear hbz;clear k10 k11 k20 k21;go_wp2;refine bodyPost_ret (results_int (p := 4) (by kernel_rfl) _ _ (w.heap.size + 2) _ _ rfl (HRZ.out.set2 _ _)) rfl ?_;refine ⟨⟨_, rfl, ?_⟩, (HBZ.out.setCell (by show w.heap.size <= w.heap.size + 2; omega) _).setCell (by show w.heap.size <= w.heap.size + 2; omega) _⟩;exact (OwnI.setRow2 HO.out HRZ.out _ _).mono (by omega)
set_option maxRecDepth 100000 in
set_option maxHeartbeats 2000000 in
theorem RAdd_c (v u : Value) (x y : Int) (L : Nat) (w : World) (h1 : IntAt w L v x) (h2 : IntAt w L u y) (hL : L <= 1099511627776) :
 Calls Tryz.prog 80 #[v, u] w fun e w' => (∃ v', e = .returned v' /\ OwnI w' w.heap.size v' (x + y)) /\ Below w.heap.size w w' := by
 obtain ⟨n1, ao1, len1, cap1, ws1, rfl, hW1, hl1, hk1, hc1, rfl⟩ := h1;obtain ⟨n2, ao2, len2, cap2, ws2, rfl, hW2, hl2, hk2, hc2, rfl⟩ := h2;obtain ⟨r1, r2, r3, hb⟩ := three_new w #[.bool n1, .slice ao1 len1 cap1] #[.bool n2, .slice ao2 len2 cap2] #[.bool false, .slice none 0 0] 37 37 37;have R1 := Lib.hid r1;have R2 := Lib.hid r2;have R3 := Lib.hid r3;have e10 := r1.cell 0;have e11 := r1.cell 1;have e20 := r2.cell 0;have e21 := r2.cell 1;have H1 := Lib.hid (hW1.below hb);have H2 := Lib.hid (hW2.below hb);have HL := Lib.hid (And.intro hl1 hl2);have HB := Lib.hid hb; clear hb r1 r2 r3;clear hW1 hl1 hc1 hW2 hl2 hc2;cases n1
 · cases n2
   · have HM := Lib.hid (RAdd01_c ao1 ao2 len1 cap1 len2 cap2 ws1 ws2 _ H1.out H2.out HL.out.1 HL.out.2 (by omega) (by omega));go_enter Tryz.func80, Tryz.ntmps80;go_wp2_with fail
     generalize ((w.alloc (.cells #[.bool false, .slice ao1 len1 cap1] 37)).alloc (.cells #[.bool false, .slice ao2 len2 cap2] 37)).alloc (.cells #[.bool false, .slice none 0 0] 37) = w2 at *;refine HM.out.mono ?_;rintro e w3 ⟨⟨ao3, cap3, rfl, hO3⟩, hb3⟩;have hwl : wlen (nval ws1 + nval ws2) <= 8796093022208 := by
      have h3 := wlen_le_length H1.out.1;have h4 := wlen_le_length H2.out.1;have h5 := HL.out;have h2 := wlen_add (nval ws1) (nval ws2);omega
     have HM3 := Lib.hid (RMade_c false ao3 _ cap3 _ w3 hO3.at_ hO3.len hwl);have k10 := (R1.out.below hb3 R1.out.lt).cell 0;have k11 := (R1.out.below hb3 R1.out.lt).cell 1;have k20 := (R2.out.below hb3 R2.out.lt).cell 0;have k21 := (R2.out.below hb3 R2.out.lt).cell 1;have R33 := Lib.hid (R3.out.below hb3 R3.out.lt);have HB3 := Lib.hid (HB.out.trans (hb3.mono HB.out.size));clear hb3 e10 e11 e20 e21 hO3 hwl HM;go_wp2_with fail
     refine HM3.out.mono ?_;rintro e w4 ⟨⟨v', rfl, hO⟩, hbz⟩;rw [nval_dig, zi_add] at hO;have hs3 : w.heap.size + 2 < w3.heap.size := R33.out.lt;obtain ⟨pz, rfl⟩ := NumAt.parts hO.num;unfold av at *;have hrz := R33.out.below hbz R33.out.lt;have c0 := hrz.cell 0;have c1 := hrz.cell 1;have f0 := hrz.free 0;have f1 := hrz.free 1;have HRZ := Lib.hid hrz; clear hrz;have HO := Lib.hid hO; clear hO;have HBZ := Lib.hid (HB3.out.trans (hbz.mono HB3.out.size)); clear hbz;clear k10 k11 k20 k21;go_wp2;refine bodyPost_ret (results_int (p := 4) (by kernel_rfl) _ _ (w.heap.size + 2) _ _ rfl (HRZ.out.set2 _ _)) rfl ?_;refine ⟨⟨_, rfl, ?_⟩, (HBZ.out.setCell (by show w.heap.size <= w.heap.size + 2; omega) _).setCell (by show w.heap.size <= w.heap.size + 2; omega) _⟩;exact (OwnI.setRow2 HO.out HRZ.out _ _).mono (by omega)
   · have HM := Lib.hid (RCmp01_c ao1 ao2 len1 cap1 len2 cap2 ws1 ws2 _ H1.out H2.out HL.out.1 HL.out.2 (by omega) (by omega));go_enter Tryz.func80, Tryz.ntmps80;go_wp2_with fail
     generalize ((w.alloc (.cells #[.bool false, .slice ao1 len1 cap1] 37)).alloc (.cells #[.bool true, .slice ao2 len2 cap2] 37)).alloc (.cells #[.bool false, .slice none 0 0] 37) = w2 at *;refine HM.out.mono ?_;rintro e w2b ⟨rfl, hb2⟩;by_cases hle : nval ws2 <= nval ws1
     · have hcc : ncmp (nval ws1) (nval ws2) = 0 ∨ ncmp (nval ws1) (nval ws2) = 1 := by
        unfold ncmp; rw [if_neg (by omega)]; split
        · exact .inr rfl
        · exact .inl rfl
       obtain ⟨cc, hce⟩ : ∃ cc, ncmp (nval ws1) (nval ws2) = cc := ⟨_, rfl⟩;rw [hce] at hcc ⊢;have hc0 : 0 <= cc := by omega
       clear hcc hce;have HM := Lib.hid (RSub01_c ao1 ao2 len1 cap1 len2 cap2 ws1 ws2 w2b (H1.out.below hb2) (H2.out.below hb2) HL.out.1 HL.out.2 (by omega) (by omega) (by omega));have HB := Lib.hid (HB.out.trans (hb2.mono HB.out.size));have R1 := Lib.hid (R1.out.below hb2 R1.out.lt);have R2 := Lib.hid (R2.out.below hb2 R2.out.lt);have R3 := Lib.hid (R3.out.below hb2 R3.out.lt);have j10 := R1.out.cell 0;have j11 := R1.out.cell 1;have j20 := R2.out.cell 0;have j21 := R2.out.cell 1;have HLE := Lib.hid hle;clear e10 e11 e20 e21 hb2 hle;go_wp2_with fail
       refine HM.out.mono ?_;rintro e w3 ⟨⟨ao3, cap3, rfl, hO3⟩, hb3⟩;have hwl : wlen (nval ws1 - nval ws2) <= 8796093022208 := by
        have h3 := wlen_le_length H1.out.1;have h4 := wlen_le_length H2.out.1;have h5 := HL.out;have h2 := wlen_mono (Nat.sub_le (nval ws1) (nval ws2));omega
       have HM3 := Lib.hid (RMade_c false ao3 _ cap3 _ w3 hO3.at_ hO3.len hwl);have k10 := (R1.out.below hb3 R1.out.lt).cell 0;have k11 := (R1.out.below hb3 R1.out.lt).cell 1;have k20 := (R2.out.below hb3 R2.out.lt).cell 0;have k21 := (R2.out.below hb3 R2.out.lt).cell 1;have R33 := Lib.hid (R3.out.below hb3 R3.out.lt);have HB3 := Lib.hid (HB.out.trans (hb3.mono HB.out.size));clear hb3 j10 j11 j20 j21 hO3 hwl HM;go_wp2_with fail
       refine HM3.out.mono ?_;rintro e w4 ⟨⟨v', rfl, hO⟩, hbz⟩;rw [nval_dig, zi_subR (n := false) (n2 := true) (by decide) (by have := HLE.out; omega)] at hO;have hs3 : w.heap.size + 2 < w3.heap.size := R33.out.lt;obtain ⟨pz, rfl⟩ := NumAt.parts hO.num;unfold av at *;have hrz := R33.out.below hbz R33.out.lt;have c0 := hrz.cell 0;have c1 := hrz.cell 1;have f0 := hrz.free 0;have f1 := hrz.free 1;have HRZ := Lib.hid hrz; clear hrz;have HO := Lib.hid hO; clear hO;have HBZ := Lib.hid (HB3.out.trans (hbz.mono HB3.out.size)); clear hbz;clear k10 k11 k20 k21;go_wp2;refine bodyPost_ret (results_int (p := 4) (by kernel_rfl) _ _ (w.heap.size + 2) _ _ rfl (HRZ.out.set2 _ _)) rfl ?_;refine ⟨⟨_, rfl, ?_⟩, (HBZ.out.setCell (by show w.heap.size <= w.heap.size + 2; omega) _).setCell (by show w.heap.size <= w.heap.size + 2; omega) _⟩;exact (OwnI.setRow2 HO.out HRZ.out _ _).mono (by omega)
     · have hcc : ncmp (nval ws1) (nval ws2) = -1 := by unfold ncmp; rw [if_pos (by omega)]
       rw [hcc];clear hcc;have HM := Lib.hid (RSub01_c ao2 ao1 len2 cap2 len1 cap1 ws2 ws1 w2b (H2.out.below hb2) (H1.out.below hb2) HL.out.2 HL.out.1 (by omega) (by omega) (by omega));have HB := Lib.hid (HB.out.trans (hb2.mono HB.out.size));have R1 := Lib.hid (R1.out.below hb2 R1.out.lt);have R2 := Lib.hid (R2.out.below hb2 R2.out.lt);have R3 := Lib.hid (R3.out.below hb2 R3.out.lt);have j10 := R1.out.cell 0;have j11 := R1.out.cell 1;have j20 := R2.out.cell 0;have j21 := R2.out.cell 1;have HLE := Lib.hid hle;clear e10 e11 e20 e21 hb2 hle;go_wp2_with fail
       refine HM.out.mono ?_;rintro e w3 ⟨⟨ao3, cap3, rfl, hO3⟩, hb3⟩;have hwl : wlen (nval ws2 - nval ws1) <= 8796093022208 := by
        have h3 := wlen_le_length H1.out.1;have h4 := wlen_le_length H2.out.1;have h5 := HL.out;have h2 := wlen_mono (Nat.sub_le (nval ws2) (nval ws1));omega
       have HM3 := Lib.hid (RMade_c true ao3 _ cap3 _ w3 hO3.at_ hO3.len hwl);have k10 := (R1.out.below hb3 R1.out.lt).cell 0;have k11 := (R1.out.below hb3 R1.out.lt).cell 1;have k20 := (R2.out.below hb3 R2.out.lt).cell 0;have k21 := (R2.out.below hb3 R2.out.lt).cell 1;have R33 := Lib.hid (R3.out.below hb3 R3.out.lt);have HB3 := Lib.hid (HB.out.trans (hb3.mono HB.out.size));clear hb3 j10 j11 j20 j21 hO3 hwl HM;go_wp2_with fail
       refine HM3.out.mono ?_;rintro e w4 ⟨⟨v', rfl, hO⟩, hbz⟩;rw [nval_dig, zi_subL (n := false) (n2 := true) (by decide) (by have := HLE.out; omega)] at hO;have hs3 : w.heap.size + 2 < w3.heap.size := R33.out.lt;obtain ⟨pz, rfl⟩ := NumAt.parts hO.num;unfold av at *;have hrz := R33.out.below hbz R33.out.lt;have c0 := hrz.cell 0;have c1 := hrz.cell 1;have f0 := hrz.free 0;have f1 := hrz.free 1;have HRZ := Lib.hid hrz; clear hrz;have HO := Lib.hid hO; clear hO;have HBZ := Lib.hid (HB3.out.trans (hbz.mono HB3.out.size)); clear hbz;clear k10 k11 k20 k21;go_wp2;refine bodyPost_ret (results_int (p := 4) (by kernel_rfl) _ _ (w.heap.size + 2) _ _ rfl (HRZ.out.set2 _ _)) rfl ?_;refine ⟨⟨_, rfl, ?_⟩, (HBZ.out.setCell (by show w.heap.size <= w.heap.size + 2; omega) _).setCell (by show w.heap.size <= w.heap.size + 2; omega) _⟩;exact (OwnI.setRow2 HO.out HRZ.out _ _).mono (by omega)
 · cases n2
   · have HM := Lib.hid (RCmp01_c ao1 ao2 len1 cap1 len2 cap2 ws1 ws2 _ H1.out H2.out HL.out.1 HL.out.2 (by omega) (by omega));go_enter Tryz.func80, Tryz.ntmps80;go_wp2_with fail
     generalize ((w.alloc (.cells #[.bool true, .slice ao1 len1 cap1] 37)).alloc (.cells #[.bool false, .slice ao2 len2 cap2] 37)).alloc (.cells #[.bool false, .slice none 0 0] 37) = w2 at *;refine HM.out.mono ?_;rintro e w2b ⟨rfl, hb2⟩;by_cases hle : nval ws2 <= nval ws1
     · have hcc : ncmp (nval ws1) (nval ws2) = 0 ∨ ncmp (nval ws1) (nval ws2) = 1 := by
        unfold ncmp; rw [if_neg (by omega)]; split
        · exact .inr rfl
        · exact .inl rfl
       obtain ⟨cc, hce⟩ : ∃ cc, ncmp (nval ws1) (nval ws2) = cc := ⟨_, rfl⟩;rw [hce] at hcc ⊢;have hc0 : 0 <= cc := by omega
       clear hcc hce;have HM := Lib.hid (RSub01_c ao1 ao2 len1 cap1 len2 cap2 ws1 ws2 w2b (H1.out.below hb2) (H2.out.below hb2) HL.out.1 HL.out.2 (by omega) (by omega) (by omega));have HB := Lib.hid (HB.out.trans (hb2.mono HB.out.size));have R1 := Lib.hid (R1.out.below hb2 R1.out.lt);have R2 := Lib.hid (R2.out.below hb2 R2.out.lt);have R3 := Lib.hid (R3.out.below hb2 R3.out.lt);have j10 := R1.out.cell 0;have j11 := R1.out.cell 1;have j20 := R2.out.cell 0;have j21 := R2.out.cell 1;have HLE := Lib.hid hle;clear e10 e11 e20 e21 hb2 hle;go_wp2_with fail
       refine HM.out.mono ?_;rintro e w3 ⟨⟨ao3, cap3, rfl, hO3⟩, hb3⟩;have hwl : wlen (nval ws1 - nval ws2) <= 8796093022208 := by
        have h3 := wlen_le_length H1.out.1;have h4 := wlen_le_length H2.out.1;have h5 := HL.out;have h2 := wlen_mono (Nat.sub_le (nval ws1) (nval ws2));omega
       have HM3 := Lib.hid (RMade_c true ao3 _ cap3 _ w3 hO3.at_ hO3.len hwl);have k10 := (R1.out.below hb3 R1.out.lt).cell 0;have k11 := (R1.out.below hb3 R1.out.lt).cell 1;have k20 := (R2.out.below hb3 R2.out.lt).cell 0;have k21 := (R2.out.below hb3 R2.out.lt).cell 1;have R33 := Lib.hid (R3.out.below hb3 R3.out.lt);have HB3 := Lib.hid (HB.out.trans (hb3.mono HB.out.size));clear hb3 j10 j11 j20 j21 hO3 hwl HM;go_wp2_with fail
       refine HM3.out.mono ?_;rintro e w4 ⟨⟨v', rfl, hO⟩, hbz⟩;rw [nval_dig, zi_subR (n := true) (n2 := false) (by decide) (by have := HLE.out; omega)] at hO;have hs3 : w.heap.size + 2 < w3.heap.size := R33.out.lt;obtain ⟨pz, rfl⟩ := NumAt.parts hO.num;unfold av at *;have hrz := R33.out.below hbz R33.out.lt;have c0 := hrz.cell 0;have c1 := hrz.cell 1;have f0 := hrz.free 0;have f1 := hrz.free 1;have HRZ := Lib.hid hrz; clear hrz;have HO := Lib.hid hO; clear hO;have HBZ := Lib.hid (HB3.out.trans (hbz.mono HB3.out.size)); clear hbz;clear k10 k11 k20 k21;go_wp2;refine bodyPost_ret (results_int (p := 4) (by kernel_rfl) _ _ (w.heap.size + 2) _ _ rfl (HRZ.out.set2 _ _)) rfl ?_;refine ⟨⟨_, rfl, ?_⟩, (HBZ.out.setCell (by show w.heap.size <= w.heap.size + 2; omega) _).setCell (by show w.heap.size <= w.heap.size + 2; omega) _⟩;exact (OwnI.setRow2 HO.out HRZ.out _ _).mono (by omega)
     · have hcc : ncmp (nval ws1) (nval ws2) = -1 := by unfold ncmp; rw [if_pos (by omega)]
       rw [hcc];clear hcc;have HM := Lib.hid (RSub01_c ao2 ao1 len2 cap2 len1 cap1 ws2 ws1 w2b (H2.out.below hb2) (H1.out.below hb2) HL.out.2 HL.out.1 (by omega) (by omega) (by omega));have HB := Lib.hid (HB.out.trans (hb2.mono HB.out.size));have R1 := Lib.hid (R1.out.below hb2 R1.out.lt);have R2 := Lib.hid (R2.out.below hb2 R2.out.lt);have R3 := Lib.hid (R3.out.below hb2 R3.out.lt);have j10 := R1.out.cell 0;have j11 := R1.out.cell 1;have j20 := R2.out.cell 0;have j21 := R2.out.cell 1;have HLE := Lib.hid hle;clear e10 e11 e20 e21 hb2 hle;go_wp2_with fail
       refine HM.out.mono ?_;rintro e w3 ⟨⟨ao3, cap3, rfl, hO3⟩, hb3⟩;have hwl : wlen (nval ws2 - nval ws1) <= 8796093022208 := by
        have h3 := wlen_le_length H1.out.1;have h4 := wlen_le_length H2.out.1;have h5 := HL.out;have h2 := wlen_mono (Nat.sub_le (nval ws2) (nval ws1));omega
       have HM3 := Lib.hid (RMade_c false ao3 _ cap3 _ w3 hO3.at_ hO3.len hwl);have k10 := (R1.out.below hb3 R1.out.lt).cell 0;have k11 := (R1.out.below hb3 R1.out.lt).cell 1;have k20 := (R2.out.below hb3 R2.out.lt).cell 0;have k21 := (R2.out.below hb3 R2.out.lt).cell 1;have R33 := Lib.hid (R3.out.below hb3 R3.out.lt);have HB3 := Lib.hid (HB.out.trans (hb3.mono HB.out.size));clear hb3 j10 j11 j20 j21 hO3 hwl HM;go_wp2_with fail
       refine HM3.out.mono ?_;rintro e w4 ⟨⟨v', rfl, hO⟩, hbz⟩;rw [nval_dig, zi_subL (n := true) (n2 := false) (by decide) (by have := HLE.out; omega)] at hO;have hs3 : w.heap.size + 2 < w3.heap.size := R33.out.lt;obtain ⟨pz, rfl⟩ := NumAt.parts hO.num;unfold av at *;have hrz := R33.out.below hbz R33.out.lt;have c0 := hrz.cell 0;have c1 := hrz.cell 1;have f0 := hrz.free 0;have f1 := hrz.free 1;have HRZ := Lib.hid hrz; clear hrz;have HO := Lib.hid hO; clear hO;have HBZ := Lib.hid (HB3.out.trans (hbz.mono HB3.out.size)); clear hbz;clear k10 k11 k20 k21;go_wp2;refine bodyPost_ret (results_int (p := 4) (by kernel_rfl) _ _ (w.heap.size + 2) _ _ rfl (HRZ.out.set2 _ _)) rfl ?_;refine ⟨⟨_, rfl, ?_⟩, (HBZ.out.setCell (by show w.heap.size <= w.heap.size + 2; omega) _).setCell (by show w.heap.size <= w.heap.size + 2; omega) _⟩;exact (OwnI.setRow2 HO.out HRZ.out _ _).mono (by omega)
   · have HM := Lib.hid (RAdd01_c ao1 ao2 len1 cap1 len2 cap2 ws1 ws2 _ H1.out H2.out HL.out.1 HL.out.2 (by omega) (by omega));go_enter Tryz.func80, Tryz.ntmps80;go_wp2_with fail
     generalize ((w.alloc (.cells #[.bool true, .slice ao1 len1 cap1] 37)).alloc (.cells #[.bool true, .slice ao2 len2 cap2] 37)).alloc (.cells #[.bool false, .slice none 0 0] 37) = w2 at *;refine HM.out.mono ?_;rintro e w3 ⟨⟨ao3, cap3, rfl, hO3⟩, hb3⟩;have hwl : wlen (nval ws1 + nval ws2) <= 8796093022208 := by
      have h3 := wlen_le_length H1.out.1;have h4 := wlen_le_length H2.out.1;have h5 := HL.out;have h2 := wlen_add (nval ws1) (nval ws2);omega
     have HM3 := Lib.hid (RMade_c true ao3 _ cap3 _ w3 hO3.at_ hO3.len hwl);have k10 := (R1.out.below hb3 R1.out.lt).cell 0;have k11 := (R1.out.below hb3 R1.out.lt).cell 1;have k20 := (R2.out.below hb3 R2.out.lt).cell 0;have k21 := (R2.out.below hb3 R2.out.lt).cell 1;have R33 := Lib.hid (R3.out.below hb3 R3.out.lt);have HB3 := Lib.hid (HB.out.trans (hb3.mono HB.out.size));clear hb3 e10 e11 e20 e21 hO3 hwl HM;go_wp2_with fail
     refine HM3.out.mono ?_;rintro e w4 ⟨⟨v', rfl, hO⟩, hbz⟩;rw [nval_dig, zi_add] at hO;have hs3 : w.heap.size + 2 < w3.heap.size := R33.out.lt;obtain ⟨pz, rfl⟩ := NumAt.parts hO.num;unfold av at *;have hrz := R33.out.below hbz R33.out.lt;have c0 := hrz.cell 0;have c1 := hrz.cell 1;have f0 := hrz.free 0;have f1 := hrz.free 1;have HRZ := Lib.hid hrz; clear hrz;have HO := Lib.hid hO; clear hO;have HBZ := Lib.hid (HB3.out.trans (hbz.mono HB3.out.size)); clear hbz;clear k10 k11 k20 k21;go_wp2;refine bodyPost_ret (results_int (p := 4) (by kernel_rfl) _ _ (w.heap.size + 2) _ _ rfl (HRZ.out.set2 _ _)) rfl ?_;refine ⟨⟨_, rfl, ?_⟩, (HBZ.out.setCell (by show w.heap.size <= w.heap.size + 2; omega) _).setCell (by show w.heap.size <= w.heap.size + 2; omega) _⟩;exact (OwnI.setRow2 HO.out HRZ.out _ _).mono (by omega)
theorem digOne {n : Nat} (h0 : 0 < n) (h : n < W) : dig n = [n] := by
 have e := dig_nval (Ok.one h);have hv : nval [n] = n := by simp [nval]
 have hw : wlen n = 1 := by
  have e1 : wlen n ≠ 0 := fun e => by have := wlen_eq_zero.1 e; omega
  have e2 : wlen n <= 1 := wlen_le_of_lt (by simpa using h);omega
 have ht := wlen_nval (Ok.one h);rw [hv, hw] at ht;rw [hv, <- ht] at e;simpa using e
theorem wlenOne {n : Nat} (h0 : 0 < n) (h : n < W) : wlen n = 1 := by
 have e1 : wlen n ≠ 0 := fun e => by have := wlen_eq_zero.1 e; omega
 have e2 : wlen n <= 1 := wlen_le_of_lt (by simpa using h);omega
theorem zsign_zero {x : Int} : zsign x = 0 ↔ x = 0 := by
 unfold zsign;constructor
 · intro h; split at h <;> first | omega | (split at h <;> omega)
 · rintro rfl; rfl
set_option maxRecDepth 100000 in
set_option maxHeartbeats 1000000 in
theorem RExact_c (v u : Value) (x y : Int) (w : World) (hA : IntAt w 8796093022208 v x) (hB : IntAt w 8796093022208 u y) (hy : y ≠ 0) (hd : y ∣ x) :
 Calls Tryz.prog 27 #[v, u] w fun e w' => (∃ v', e = .returned (.tuple #[v', .int .i64 0]) /\ OwnI w' w.heap.size v' (x / y)) /\ Below w.heap.size w w' := by
 obtain ⟨p, rfl⟩ := hA.parts;obtain ⟨q, rfl⟩ := hB.parts;have hq : x.tdiv y = x / y := Int.tdiv_eq_ediv_of_dvd hd;have hr : x.tmod y = 0 := Int.tmod_eq_zero_of_dvd hd;refine funW (S0 := fun _ => False) Tryz.func27 (((Fr.nil _ w).i hB).i hA) ?_;refine goW ?_;refine rW [] ?_;refine aW fun g2 => ?_;refine aW fun g3 => ?_;refine aW fun g4 => ?_;refine dW ?_;refine eW ?_;refine goW ?_;refine rW [] ?_;refine dW ?_;refine dW ?_;refine cN2 (x := x / y) (y := 0) (fun w H => by have := RTrunc_c _ _ x y w H.m3 H.m4 hy; rw [hq, hr] at this; exact this) fun p12 p13 => ?_;refine dW ?_;refine dW ?_;refine dW ?_;refine dW ?_;refine aW fun g6 => ?_;refine aW fun g7 => ?_;refine sG ?_;refine sG ?_;refine dW ?_;refine eW ?_;refine goW ?_;refine rW [] ?_;refine dW ?_;refine dW ?_;refine eW ?_;refine goW ?_;refine cfW ?_;refine goW ?_;refine rW [] ?_;refine dW ?_;refine cV (fun w H => RSign_c _ 0 0 w (OwnI.int H.m3 (by simp [wlen_zero])) (by omega)) ?_;refine dB false ?_;refine eW ?_;refine goW ?_;refine cfW ?_;refine goW ?_;refine rW [] ?_;refine dW ?_;refine sW ?_;refine dW ?_;refine eW ?_;refine goW ?_;refine fin2 fun w' H => ?_;exact ⟨_, _, rvI H.m4, rvT, ⟨_, rfl, H.m2⟩, H.below⟩
section
variable {P : Program} {ops : Array Oper} {Q : Exit -> Act -> World -> Prop} {S0 : Nat -> Prop} {w0 : World} {E0 : List En} {hd : List (List Nat)} {n j s sg g : Nat} {l : List Nat} {G E : List En} {ls : List (Nat × Value)} {op : Op} {ty : TypeId} {pos : String} {af : Array Edge} {f : FuncId} {args : Array Value} {v : Value} {want : Bool}
theorem cGg {α : Type} {mk : α -> Value} {ens : α -> List En} (c : ∀ w, Fr S0 w0 w (G ++ E) -> Calls P f args w fun e w' => ∃ p, e = .returned (mk p) /\ Nw w w' (ens p))
 (k : ∀ p, RWs ⟨P, ops, Q, S0, w0, E0, hd⟩ n l (ens p ++ G) E ((s, mk p) :: ls))
 (ho : ops[j]? = some ⟨some s, op, ty, pos, af, some (g, want)⟩ := by rfl) (hk : (!isDet op && !isNew op && chkO ls op && Nat.blt s n) = true := by kernel_rfl)
 (hg : (ops[g]?).bind (·.dst) = some sg := by rfl) (hi : inLs ls (.tmp sg) = true := by kernel_rfl) (hb : evl ls (.tmp sg) = .bool want := by (simp only [evlN, Nat.reduceEqDiff, ↓reduceIte]) <;> first | rfl | simp [*])
 (hr : ∀ w, (execOp (evl ls) ⟨some s, op, ty, pos, af, some (g, want)⟩).run P w = .ok (.enter f args) w := by intro w; (try simp only [av]); go_simp <;> with_reducible rfl) (hne : Nonempty α := by infer_instance)
 (hst : okSt ops hd j [] = true := by kernel_rfl) : RWs ⟨P, ops, Q, S0, w0, E0, hd⟩ n (j :: l) G E ls := fun a ha => by
 simp only [Bool.and_eq_true, Bool.not_eq_true'] at hk;refine ⟨_, ho, .inr (.inr ⟨hk.1.1.1, hk.1.1.2, α, mk, fun p => ens p ++ G, fun _ => E, [], hne, fun X w hX hw => ?_, hst, fun _ _ _ => rfl, fun p => k p _ (ha.put (Nat.le_of_ble_eq_true hk.2) _)⟩)⟩;rw [if_pos (by rw [wanted_of ha hg hi hb]; simp)];show wpR P _ ((execOp a.eval _).run P w);rw [ha.exec hk.1.2, hr w];refine (c w (hw.sub (List.sublist_append_right ..))).mono ?_;rintro e w' ⟨p, rfl, hn⟩;refine ⟨_, rfl, p, rfl, (hn.fr hw).perm ?_⟩;rw [List.append_assoc];exact (List.perm_append_comm_assoc (ens p) X (G ++ E))
theorem cVg (c : ∀ w, Fr S0 w0 w (G ++ E) -> Calls P f args w fun e w' => e = .returned v /\ Below w.heap.size w w')
 (k : RWs ⟨P, ops, Q, S0, w0, E0, hd⟩ n l G E ((s, v) :: ls))
 (ho : ops[j]? = some ⟨some s, op, ty, pos, af, some (g, want)⟩ := by rfl) (hk : (!isDet op && !isNew op && chkO ls op && Nat.blt s n) = true := by kernel_rfl)
 (hg : (ops[g]?).bind (·.dst) = some sg := by rfl) (hi : inLs ls (.tmp sg) = true := by kernel_rfl) (hb : evl ls (.tmp sg) = .bool want := by (simp only [evlN, Nat.reduceEqDiff, ↓reduceIte]) <;> first | rfl | simp [*])
 (hr : ∀ w, (execOp (evl ls) ⟨some s, op, ty, pos, af, some (g, want)⟩).run P w = .ok (.enter f args) w := by intro w; (try simp only [av]); go_simp <;> with_reducible rfl)
 (hst : okSt ops hd j [] = true := by kernel_rfl) : RWs ⟨P, ops, Q, S0, w0, E0, hd⟩ n (j :: l) G E ls := by
 refine cGg (α := Unit) (mk := fun _ => v) (ens := fun _ => []) (fun w hw => (c w hw).mono ?_) (fun _ => k) ho hk hg hi hb hr ⟨()⟩ hst;rintro e w' ⟨rfl, hb⟩;exact ⟨(), rfl, hb, fun e he => (List.not_mem_nil he).elim, .nil⟩
end
section
variable {ops : Array Oper} {Q : Exit -> Act -> World -> Prop} {S0 : Nat -> Prop} {w0 : World} {E0 : List En} {hd : List (List Nat)} {n j s : Nat} {l : List Nat} {G E : List En} {ls : List (Nat × Value)} {ty : TypeId} {pos : String} {af : Array Edge}
end
set_option maxRecDepth 100000 in
set_option maxHeartbeats 2000000 in
theorem RSame_c (aoA aoB : Option Addr) (lA cA lB cB : Nat) (xs ys : List Nat) (w : World) (hA : WAt w aoA xs) (hB : WAt w aoB ys) (hlA : lA = xs.length) (hlB : lB = ys.length) (hmA : lA <= 17592186044415) (hmB : lB <= 17592186044415) :
 Calls Tryz.prog 66 #[.slice aoA lA cA, .slice aoB lB cB] w fun e w' => e = .returned (.bool (decide (xs = ys))) /\ Below w.heap.size w w' := by
 subst hlA hlB;have HA := Lib.hid hA; clear hA;have HB := Lib.hid hB; clear hB;go_enter Tryz.func66, Tryz.ntmps66;by_cases hs : xs.length = ys.length
 · have hb : (((xs.length : Nat) : Int) != ((ys.length : Nat) : Int)) = false := by rw [hs]; simp
   have Hs := Lib.hid hs; clear hs;go_wp2;go_loopw [5] (fun i wr => ∃ k : Nat, k <= xs.length /\ i = .int .i64 (k : Int) /\ Hid (∀ j, j < k -> gw xs j = gw ys j) /\ Below w.heap.size w wr) (fun i _ => xs.length - (intOf i).toNat)
   case atStart => exact ⟨0, Nat.zero_le _, rfl, Lib.hid (fun j hj => by omega), Below.refl _ _⟩
   case round =>
    obtain ⟨k, hk, rfl, hag, hbl⟩ := hrel;by_cases h0 : k < xs.length
    · have h01 : (k : Int) < (xs.length : Int) := by omega
      have h02 : (k : Int) < (ys.length : Int) := by have := Hs.out; omega
      obtain ⟨b1, o1, rfl, hb1, hc1⟩ := (HA.out.below hbl).pos (by omega);obtain ⟨b2, o2, rfl, hb2, hc2⟩ := (HB.out.below hbl).pos (by omega);have e1 := hc1 k h0;have e2 := hc2 k (by omega);clear hc1 hc2;by_cases hne : gw xs k = gw ys k
      · have t1 : (((gw xs k : Nat) : Int) != ((gw ys k : Nat) : Int)) = false := by rw [hne]; simp
        have HN := Lib.hid hne; clear hne;go_wp2
        go_quiet (fail)
        go_wp2;go_roundw
        case rel => exact ⟨k + 1, by omega, by go_num, Lib.hid (fun j hj => by
         by_cases e : j = k
         · subst e; exact HN.out
         · exact hag.out j (by omega)), below_drewN hbl _⟩
        case measure => simp [intOf]; omega
      · have t1 : (((gw xs k : Nat) : Int) != ((gw ys k : Nat) : Int)) = true := by rw [bne_iff_ne]; omega
        have hd : decide (xs = ys) = false := by
         rw [decide_eq_false_iff_not]; intro e; exact hne (by rw [e])
        have HD := Lib.hid hd; clear hd hne;go_wp2
        go_quiet (fail)
        go_wp2;go_ret;exact ⟨by rw [HD.out]; rfl, below_drewN hbl _⟩
    · obtain rfl : k = xs.length := by omega
      have hd : decide (xs = ys) = true := by
       rw [decide_eq_true_iff];refine List.ext_getElem Hs.out fun j h1 h2 => ?_;have := hag.out j h1;unfold gw at this;simpa [h1, h2] using this
      have HD := Lib.hid hd; clear hd;go_wp2;go_ret;exact ⟨by rw [HD.out]; rfl, hbl⟩
 · have hb : (((xs.length : Nat) : Int) != ((ys.length : Nat) : Int)) = true := by rw [bne_iff_ne]; omega
   have hd : decide (xs = ys) = false := by
    rw [decide_eq_false_iff_not]; intro e; exact hs (by rw [e])
   have HD := Lib.hid hd; clear hd hs;go_wp2;go_ret;exact ⟨by rw [HD.out]; rfl, Below.refl _ _⟩
theorem alike_bool (x y : Int) : (decide (dig x.natAbs = dig y.natAbs) && (decide (x < 0) == decide (y < 0))) = decide (x = y) := by
 have h1 : dig x.natAbs = dig y.natAbs ↔ x.natAbs = y.natAbs := ⟨fun h => by rw [<- nval_dig x.natAbs, h, nval_dig], fun h => by rw [h]⟩;rw [Bool.eq_iff_iff];simp only [Bool.and_eq_true, decide_eq_true_eq, beq_iff_eq, h1, decide_eq_decide];omega
theorem Fr.ln {S0 : Nat -> Prop} {w0 w : World} {es : List En} (h : Fr S0 w0 w es) {ao : Option Addr} {xs : List Int} (hx : LsN w ao xs) (hS : ∀ e ∈ es, e.wr = false) : Fr S0 w0 w (.lsn ao xs :: es) :=
 h.cons hx (fun e he => ⟨(fun q => nomatch q), fun q => by rw [hS e he] at q; cases q⟩) (fun q => nomatch q)
theorem LsN.pos {w : World} {ao : Option Addr} {xs : List Int} (h : LsN w ao xs) {i : Nat} (hi : i < xs.length) : ∃ b o, ao = some ⟨b, o, none⟩ := by
 obtain ⟨b, o, e, _⟩ := h (by omega);exact ⟨b, o, e⟩
section
variable {P : Program} {Q : Exit -> Act -> World -> Prop} {S0 : Nat -> Prop} {w0 : World} {n : Nat} {ls : List (Nat × Value)} {es : List En} {c : Code}
theorem numNW {xs : List Int} {b o : Nat} (i : Nat) (hm : En.lsn (some ⟨b, o, none⟩) xs ∈ es) (hi : i < xs.length) (k : ∀ p : P4, CW P n S0 w0 c Q ls (.cell ⟨b, o + i * 2, none⟩ (.bool p.1) :: .cell ⟨b, o + i * 2 + 1, none⟩ (.slice p.2.1 p.2.2.1 p.2.2.2) :: .num (av p) (gi xs i) :: es)) : CW P n S0 w0 c Q ls es := fun a w ha hw => by
 have hA : LsN w (some ⟨b, o, none⟩) xs := hw.all _ hm;obtain ⟨b', o', e, hb, hc⟩ := hA (by omega);cases e;obtain ⟨p, h0, h1, hx⟩ := hc i hi;rw [<- gi_eq hi] at hx;have hS : (En.lsn (some ⟨b, o, none⟩) xs).S b := ⟨by omega, o, rfl⟩;exact k p a w ha (((hw.pure (e := .num (av p) (gi xs i)) hx (fun _ h => h)).cellOf (List.mem_cons_of_mem _ hm) rfl hS h1).cellOf (List.mem_cons_of_mem _ (List.mem_cons_of_mem _ hm)) rfl hS h0)
end
section
variable {P : Program} {ops : Array Oper} {Q : Exit -> Act -> World -> Prop} {S0 : Nat -> Prop} {w0 : World} {E0 : List En} {n j s sg g : Nat} {l : List Nat} {G E : List En} {ls : List (Nat × Value)} {op : Op} {ty : TypeId} {pos : String} {af : Array Edge} {v v' : Value} {want : Bool}
end
end Go.Proofs.YtdgfhcaokigieaaGreat
namespace Go.Proofs.YtdgfhcaokigieaaGreat
end Go.Proofs.YtdgfhcaokigieaaGreat
namespace Go.Proofs.YtdgfhcaokigieaaGreat
open Go.RowKit
theorem prW {A : Prop} {P : Program} {Q : Exit -> Act -> World -> Prop} {S0 : Nat -> Prop} {w0 : World} {n : Nat} {ls : List (Nat × Value)} {es : List En} {c : Code} (hm : En.pr A ∈ es) (k : A -> CW P n S0 w0 c Q ls es) : CW P n S0 w0 c Q ls es := fun a w ha hw => k (hw.all _ hm) a w ha hw
section
variable {P : Program} {ops : Array Oper} {Q : Exit -> Act -> World -> Prop} {S0 : Nat -> Prop} {w0 : World} {E0 : List En} {hd : List (List Nat)} {n j s : Nat} {l : List Nat} {G E : List En} {ls : List (Nat × Value)} {op : Op} {ty : TypeId} {pos : String} {af : Array Edge} {v : Value} {f : FuncId} {args : Array Value}
theorem cLn {α : Type} {mk : α -> Value} {ao : α -> Option Addr} {xs : α -> List Int} {A : α -> Prop} (c : ∀ w, Fr S0 w0 w (G ++ E) -> Calls P f args w fun e w' => (∃ p, e = .returned (mk p) /\ LsN w' (ao p) (xs p) /\ A p /\ ∀ b o, ao p = some ⟨b, o, none⟩ -> w.heap.size <= b) /\ Below w.heap.size w w')
 (k : ∀ p, RWs ⟨P, ops, Q, S0, w0, E0, hd⟩ n l (.lsn (ao p) (xs p) :: .pr (A p /\ ∀ b o, ao p = some ⟨b, o, none⟩ -> w0.heap.size <= b) :: G) E ((s, mk p) :: ls))
 (ho : ops[j]? = some ⟨some s, op, ty, pos, af, none⟩ := by rfl) (hk : (!isDet op && !isNew op && chkO ls op && Nat.blt s n) = true := by kernel_rfl)
 (hr : ∀ w, (execOp (evl ls) ⟨some s, op, ty, pos, af, none⟩).run P w = .ok (.enter f args) w := by intro w; (try simp only [av]); go_simp <;> with_reducible rfl) (hne : Nonempty α := by infer_instance)
 (hst : okSt ops hd j [] = true := by kernel_rfl) : RWs ⟨P, ops, Q, S0, w0, E0, hd⟩ n (j :: l) G E ls := by
 refine cG (mk := mk) (ens := fun p => [.lsn (ao p) (xs p), .pr (A p /\ ∀ b o, ao p = some ⟨b, o, none⟩ -> w0.heap.size <= b)]) (fun w hw => (c w hw).mono ?_) k ho hk hr hne hst;rintro e w' ⟨⟨p, rfl, hl, hA, hS⟩, hb⟩;exact ⟨p, rfl, hb, fun e he => by
  rcases List.mem_cons.1 he with rfl | he
  · exact ⟨hl, fun b ⟨_, o, e⟩ => hS b o e⟩
  · rcases List.mem_singleton.1 he with rfl;exact ⟨⟨hA, fun b o e => Nat.le_trans hw.size (hS b o e)⟩, fun _ h => h.elim⟩, List.pairwise_pair.2 ⟨(fun h => nomatch h), (fun h => nomatch h)⟩⟩
end
theorem setCells_stA (b : Nat) : ∀ (us : List Value) (k : Nat) (w : World), w.setCells b k us = stA w b k us
 | [], _, _ => rfl
 | _ :: us, k, _ => setCells_stA b us (k + 1) _
theorem setL_length : ∀ (us : List Value) (k : Nat) (cs : List Value), (setL cs k us).length = cs.length
 | [], _, _ => rfl
 | u :: us, k, cs => by rw [setL, setL_length us, List.length_set]
section
variable {ops : Array Oper} {Q : Exit -> Act -> World -> Prop} {S0 : Nat -> Prop} {w0 : World} {E0 : List En} {hd : List (List Nat)} {n j s : Nat} {l : List Nat} {G E : List En} {ls : List (Nat × Value)} {ty : TypeId} {pos : String} {af : Array Edge}
end
theorem setL_over : ∀ (us cs tl : List Value), us.length <= tl.length -> setL (cs ++ tl) cs.length us = cs ++ us ++ tl.drop us.length
 | [], cs, tl, _ => by simp [setL]
 | u :: us, cs, tl, h => by
  obtain ⟨x, t, rfl⟩ : ∃ x t, tl = x :: t := by
   cases tl with
   | nil => simp at h
   | cons x t => exact ⟨x, t, rfl⟩
  have e : (cs ++ x :: t).set cs.length u = (cs ++ [u]) ++ t := by
   rw [List.set_append_right _ _ (Nat.le_refl _)]; simp
  have h2 := setL_over us (cs ++ [u]) t (by simpa using h);rw [setL, e, show cs.length + 1 = (cs ++ [u]).length by simp, h2];simp
theorem LgF.nil (te : TypeId) (sz : Nat) (w : World) : LgF te sz none 0 0 [] w := ⟨by simp, Nat.le_refl _, .inl ⟨rfl, rfl⟩⟩
section
variable {P : Program} {Q : Exit -> Act -> World -> Prop} {S0 : Nat -> Prop} {w0 : World} {n : Nat} {ls : List (Nat × Value)} {es : List En} {c : Code}
theorem lg0W {te : TypeId} {sz : Nat} (k : CW P n S0 w0 c Q ls (.lg te sz none 0 0 [] :: es)) : CW P n S0 w0 c Q ls es := fun a w ha hw => k a w ha (hw.pure (e := .lg te sz none 0 0 []) (LgF.nil te sz w) (fun b ⟨o, e⟩ => nomatch e))
end
theorem app_runG {w : World} {t te ty : TypeId} {sz bytes : Nat} {z : Value} (ht : Tryz.prog.underlying t = some (.slice te)) (hinfo : (Tryz.prog.info? te).map (fun i => (i.zero, i.size, i.bytes)) = some (some z, sz, bytes)) (hzc : z.cells.size = sz) (hzn : ∀ n, NoW (Builtin.zeroCells z.cells n).toList)
 {ao : Option Addr} {k cap m : Nat} {cs news : List Value} {x : Value} (h : LgF te sz ao k cap cs w) (hb : (k + m) * bytes <= 140737488355328) (hb2 : k + m <= 100000000) (hs : Src Tryz.prog sz t x m news w) :
 ∃ ao' cap' w', (Builtin.append_ #[t, t] ty #[.slice ao k cap, x]).run Tryz.prog w = .ok (.slice ao' (k + m) cap') w' /\ LgF te sz ao' (k + m) cap' (cs ++ news) w' /\ Chg (fun g => ∃ o, ao = some ⟨g, o, none⟩) w w' /\ ∀ g, (∃ o, ao' = some ⟨g, o, none⟩) -> (∃ o, ao = some ⟨g, o, none⟩) ∨ w.heap.size <= g := by
 obtain ⟨i, hi, hz, hsz, hby⟩ := info_parts hinfo;subst hsz hby;obtain ⟨hk, hkc, hrow⟩ := h;have hnl := hs.newsLen;by_cases h0 : m = 0
 · subst h0;have hn : news = [] := List.eq_nil_of_length_eq_zero (by simpa using hnl);subst hn;exact ⟨ao, cap, w, run_append_nothing w t t ty te i ht hi ao k cap hkc _ hs, by simpa using ⟨hk, hkc, hrow⟩, Chg.refl _ _, fun g hg => .inl hg⟩
 · by_cases hroom : k + m <= cap
   · obtain ⟨_, h⟩ | ⟨b, tl, rfl, htl, hr, hl⟩ := hrow
     · omega
     have hmul : (k + m) * i.size <= cap * i.size := Nat.mul_le_mul_right _ hroom;rw [Nat.add_mul] at hmul;have hle : news.length <= tl.length := by rw [List.length_append] at hl; omega
     have hex : ∀ j, j < cap * i.size -> (w.cell? ⟨b, j, none⟩).isSome = true := fun j hj => by rw [hr.cell, List.getElem?_eq_getElem (by omega)]; rfl
     have hset : setL (cs ++ tl) (k * i.size) news = cs ++ news ++ tl.drop news.length := by rw [<- hk]; exact setL_over news cs tl hle
     have hsc : w.setCells b (0 + k * i.size) news = stA w b (k * i.size) news := by rw [Nat.zero_add, setCells_stA]
     refine ⟨_, _, _, run_append_room_src w t t ty te i ht hi b 0 k cap _ m _ hs hroom (fun j hj => hex _ (by omega)) (fun j _ => hr.free _), ?_, ?_, fun g hg => .inl hg⟩
     · rw [hsc];have h2 := hr.stA news (k * i.size);rw [hset] at h2;refine ⟨by rw [List.length_append, hk, hnl, Nat.add_mul], hroom, .inr ⟨b, tl.drop news.length, rfl, fun v hv => htl v (List.mem_of_mem_drop hv), h2, ?_⟩⟩;rw [<- hset, setL_length]; exact hl
     · rw [hsc];exact (Chg.stA news (k * i.size) (Chg.refl (· = b) w)).mono (fun g _ e => by obtain rfl : g = b := e; exact ⟨0, rfl⟩)
   · have hold : (Builtin.firstCells i.size k (.slice ao k cap)).run Tryz.prog w.drew = .ok cs.toArray w.drew := by
      obtain ⟨rfl, h⟩ | ⟨b, tl, rfl, htl, hr, hl⟩ := hrow
      · have : k = 0 := by omega
        subst this;have hc : cs = [] := List.eq_nil_of_length_eq_zero (by simpa using hk);subst hc;exact run_firstCells_none w.drew i.size 0 0 cap
      · refine run_firstCells_some w.drew i.size k _ k cap cs hk fun j v hj => ?_;have e : w.drew.cell? ((⟨b, 0, none⟩ : Addr).add j) = w.cell? ⟨b, j, none⟩ := by simp only [Addr.add]; by_cases hj0 : j = 0 <;> simp [hj0]
        rw [e, hr.cell, List.getElem?_append_left (List.getElem?_eq_some_iff.1 hj).1]; exact hj
     have hge := grownCap_ge w (k + m) cap te;refine ⟨_, _, _, run_append_grow_src w t t ty te i z ht hi hz ao k cap cs hold _ m _ hs (by omega) (by omega) (growslice_fits (by omega) hb), ⟨by rw [List.length_append, hk, hnl, Nat.add_mul], hge, .inr ⟨_, (Builtin.zeroCells z.cells (grownCap w (k + m) cap te - (k + m))).toList, rfl, hzn _, ?_, ?_⟩⟩, Chg.alloc' _ w _, fun g ⟨o, e⟩ => by cases e; exact .inr (Nat.le_refl _)⟩
     · have hnew := RowAt.new w.drew ((cs ++ news).toArray ++ Builtin.zeroCells z.cells (grownCap w (k + m) cap te - (k + m))) te;simpa using hnew
     · have hz2 : (Builtin.zeroCells z.cells (grownCap w (k + m) cap te - (k + m))).toList.length = (grownCap w (k + m) cap te - (k + m)) * i.size := by rw [Array.length_toList, size_zeroCells, hzc]
       rw [List.length_append, List.length_append, hk, hnl, hz2, <- Nat.add_mul, <- Nat.add_mul, show k + m + (grownCap w (k + m) cap te - (k + m)) = grownCap w (k + m) cap te by omega]
section
variable {ops : Array Oper} {Q : Exit -> Act -> World -> Prop} {S0 : Nat -> Prop} {w0 : World} {E0 : List En} {hd : List (List Nat)} {n j s : Nat} {l : List Nat} {G E : List En} {ls : List (Nat × Value)} {ty : TypeId} {pos : String} {af : Array Edge}
theorem appG {i k cap g c bytes : Nat} {t te : TypeId} {z v : Value} {ao : Option Addr} {cs : List Value} {sa xa : Operand} {E' : Option Addr × Nat -> List En} (ht : Tryz.prog.underlying t = some (.slice te)) (hinfo : (Tryz.prog.info? te).map (fun i => (i.zero, i.size, i.bytes)) = some (some z, 1, bytes)) (hzc : z.cells.size = 1) (hzn : ∀ n, NoW (Builtin.zeroCells z.cells n).toList)
 (hb : (k + 1) * bytes <= 140737488355328) (hb2 : k + 1 <= 100000000) (hone : v.oneCell' = true) (hnw : NoW cs /\ te ≠ 41) (hm : En.row g te [v] ∈ G ++ E)
 (k' : ∀ q, RWs ⟨Tryz.prog, ops, Q, S0, w0, E0, hd⟩ n l G (E' q) ((s, .slice q.1 (k + 1) q.2) :: ls))
 (ho : ops[j]? = some ⟨some s, .call { callee := Callee.builtin Builtin.append, args := #[sa, xa], argTypes := #[t, t] }, ty, pos, af, none⟩ := by rfl) (hk : (chkO ls (.call { callee := Callee.builtin Builtin.append, args := #[sa, xa], argTypes := #[t, t] }) && Nat.blt s n) = true := by kernel_rfl)
 (ha : evl ls sa = .slice ao k cap := by (simp only [evlN, Nat.reduceEqDiff, ↓reduceIte]) <;> rfl)
 (hv : evl ls xa = .slice (some ⟨g, 0, none⟩) 1 c := by (simp only [evlN, Nat.reduceEqDiff, ↓reduceIte, av]) <;> rfl)
 (hE : ∀ q, Up (.lg te 1 ao k cap cs) (.lg te 1 q.1 (k + 1) q.2 (cs ++ [v])) i E (E' q) := by intro q; repeat first | exact .z | apply Up.s)
 (hst : okSt ops hd j [i] = true := by kernel_rfl) : RWs ⟨Tryz.prog, ops, Q, S0, w0, E0, hd⟩ n (j :: l) G E ls := fun a hA => by
 simp only [Bool.and_eq_true] at hk;refine ⟨_, ho, .inr (.inr ⟨rfl, rfl, Option Addr × Nat, fun q => .slice q.1 (k + 1) q.2, fun _ => G, E', [i], ⟨(none, 0)⟩, fun X w hX hw => ?_, hst, fun q r hr => (hE q).other (by simpa using hr), fun q => k' q _ (hA.put (Nat.le_of_ble_eq_true hk.2) _)⟩)⟩;have hrow : RowAt w g te [v] := hw.all _ (List.mem_append_right _ hm);have hl : LgF te 1 ao k cap cs w := by
  obtain ⟨m, h1, h2⟩ := (hE (none, 0)).right' X G;exact (hw.perm h1).all _ (List.mem_cons_self ..)
 have hsrc : Src Tryz.prog 1 t (.slice (some ⟨g, 0, none⟩) 1 c) 1 [v] w := Src.ofSlice w ht _ 1 c [v] rfl (fun j u hj => by
  match j, hj with
  | 0, hj => cases hj; exact hrow.cell 0) (fun u hu => by rw [List.mem_singleton.1 hu]; exact hone)
 obtain ⟨ao', cap', w', hrun, h1', hc, hS⟩ := app_runG (ty := ty) ht hinfo hzc hzn hl hb hb2 hsrc;obtain ⟨m, h1, h2⟩ := (hE (ao', cap')).right' X G;refine ifw rfl ?_;show wpR _ _ ((execOp a.eval _).run _ w);rw [hA.exec (o := ⟨some s, .call { callee := Callee.builtin Builtin.append, args := #[sa, xa], argTypes := #[t, t] }, ty, pos, af, none⟩) hk.1];have e : (execOp (evl ls) ⟨some s, .call { callee := Callee.builtin Builtin.append, args := #[sa, xa], argTypes := #[t, t] }, ty, pos, af, none⟩).run Tryz.prog w = .ok (.value (.slice ao' (k + 1) cap')) w' := by
  simp [execOp, resolve, invoke, builtin, ha, hv, hrun, Result.andThen]
 rw [e];refine ⟨(ao', cap'), rfl, Fr.perm ((hw.perm h1).upd (e := .lg te 1 ao k cap cs) (e' := .lg te 1 ao' (k + 1) cap' (cs ++ [v])) rfl hc (fun x hx _ => ?_) (fun _ h => h) h1' hS) h2.symm⟩;rintro b ⟨o, rfl⟩;obtain ⟨_, _, ⟨h, _⟩ | ⟨b', tl, h, ht, hr, _⟩⟩ := hl
 · cases h
 · cases h; exact ⟨_, _, hr, hnw.1.append ht, hnw.2⟩
end
section
variable {P : Program} {ops : Array Oper} {Q : Exit -> Act -> World -> Prop} {S0 : Nat -> Prop} {w0 : World} {E0 : List En} {hd : List (List Nat)} {n j s : Nat} {l : List Nat} {G E : List En} {ls : List (Nat × Value)} {op : Op} {ty : TypeId} {pos : String} {af : Array Edge} {f : FuncId} {args : Array Value}
end
theorem LgF.rl {te : TypeId} {ao : Option Addr} {k cap : Nat} {cs : List Value} {w : World} (h : LgF te 1 ao k cap cs w) : RlF ao cs w := fun hl => by
 obtain ⟨h1, h2, ⟨_, h3⟩ | ⟨b, tl, e, _, hr, _⟩⟩ := h
 · omega
 · exact ⟨b, e, hr.lt, fun i v hv => by rw [hr.cell, List.getElem?_append_left (List.getElem?_eq_some_iff.1 hv).1]; exact hv⟩
def rcs (c : Nat) (hs : List (Option Addr × Nat)) : List Value := hs.map fun h => .slice h.1 c h.2
theorem rcs_get {c : Nat} {hs : List (Option Addr × Nat)} {t : Nat} (tl : List Value) (h : t < hs.length) : (rcs c hs ++ tl)[t]? = some (.slice (hs.getD t (none, 0)).1 c (hs.getD t (none, 0)).2) := by
 rw [List.getElem?_append_left (by simpa [rcs] using h)];simp [rcs, h]
theorem ils_get {p : List Nat} {t : Nat} (tl : List Value) (h : t < p.length) : (p.map (fun x : Nat => Value.int .i64 (x : Int)) ++ tl)[t]? = some (.int .i64 ((p.getD t 0 : Nat) : Int)) := by
 rw [List.getElem?_append_left (by simpa using h)];simp [h]
section
variable {P : Program} {Q : Exit -> Act -> World -> Prop} {S0 : Nat -> Prop} {w0 : World} {n : Nat} {ls : List (Nat × Value)} {es : List En} {c : Code}
theorem lrsW {L : Nat} {hs : List (Option Addr × Nat)} {R : List (List Int)} (t : Nat) (hm : En.lrs L hs R ∈ es) (ht : t < R.length) (k : CW P n S0 w0 c Q ls (.ls L (hs.getD t (none, 0)).1 (R.getD t []) :: es)) : CW P n S0 w0 c Q ls es := fun a w ha hw => by
 have hA : ∀ t, t < R.length -> LsAt w L (hs.getD t (none, 0)).1 (R.getD t []) := hw.all _ hm;refine k a w ha (hw.cons (e := .ls L (hs.getD t (none, 0)).1 (R.getD t [])) (hA t ht) (fun e' he' => ⟨(fun q => nomatch q), fun q g hg ⟨hl, o, e⟩ => ?_⟩) (fun q => nomatch q));exact hw.apart he' hm q rfl hg ⟨t, ht, hl, o, e⟩
theorem rlW {ao : Option Addr} {cs : List Value} {v : Value} (i : Nat) (hm : En.rl ao cs ∈ es) (hi : cs[i]? = some v) (k : ∀ b, ao = some ⟨b, 0, none⟩ -> CW P n S0 w0 c Q ls (.cell ⟨b, i, none⟩ v :: es)) : CW P n S0 w0 c Q ls es := fun a w ha hw => by
 have hl : 0 < cs.length := by have := (List.getElem?_eq_some_iff.1 hi).1; omega
 obtain ⟨b, e, hb, hc⟩ := (hw.all _ hm : RlF ao cs w) hl;exact k b e a w ha (hw.cellOf hm rfl ⟨hl, 0, e⟩ (hc i v hi))
theorem posLW {L : Nat} {ao : Option Addr} {xs : List Int} (hm : En.ls L ao xs ∈ es) (hl : 0 < xs.length) (k : ∀ b o, ao = some ⟨b, o, none⟩ -> CW P n S0 w0 c Q ls es) : CW P n S0 w0 c Q ls es := fun a w ha hw => by
 obtain ⟨b, o, e, _⟩ := (hw.all _ hm : LsAt w L ao xs) hl;exact k b o e a w ha hw
end
set_option maxRecDepth 100000 in
set_option maxHeartbeats 1000000 in
theorem RSub_c (v u : Value) (x y : Int) (L : Nat) (w : World) (h1 : IntAt w L v x) (h2 : IntAt w L u y) (hL : L <= 1099511627776) :
 Calls Tryz.prog 61 #[v, u] w fun e w' => (∃ v', e = .returned v' /\ OwnI w' w.heap.size v' (x - y)) /\ Below w.heap.size w w' := by
 obtain ⟨p, rfl⟩ := h1.parts;obtain ⟨n2, ao2, len2, cap2, ws2, rfl, hW2, hl2, hL2, hc2, hx2⟩ := h2;have h3 : IntAt w L (.agg #[.bool (!n2), .slice ao2 len2 cap2]) (-y) := ⟨!n2, ao2, len2, cap2, ws2, rfl, hW2, hl2, hL2, hc2, by rw [zi_not, hx2]⟩;clear hW2 hl2 hL2 hc2 hx2;refine funW (S0 := fun _ => False) Tryz.func61 (((Fr.nil _ w).i h3).i h1) ?_;refine goW ?_;refine rW [] ?_;refine aW fun g2 => ?_;refine aW fun g3 => ?_;refine aW fun g4 => ?_;refine eW ?_;refine goW ?_;refine rW [] ?_;refine dW ?_;refine dW ?_;refine dW ?_;refine dW ?_;refine dW ?_;refine dW ?_;refine dW ?_;refine cN (x := x - y) (fun w' H => by have := RAdd_c _ _ x (-y) L w' H.m3 H.m4 hL; rw [<- Int.sub_eq_add_neg] at this; exact this) fun q => ?_;refine sW ?_;refine eW ?_;refine goW ?_;refine fin1 fun w' H => ?_;exact ⟨_, rvI H.m1, ⟨_, rfl, H.m0⟩, H.below⟩
structure G13X where
 i : Nat
 g : Nat
 gp : P4
structure G13I (L n : Nat) (ns : List Nat) (z : G13X) : Prop where
 hi : z.i <= n
 eq : z.g = (ns.take z.i).foldl Nat.gcd 0
 le : wlen z.g <= L
set_option maxRecDepth 100000 in
set_option maxHeartbeats 1000000 in
theorem RGcdAll_c (la : Option Addr) (cap L : Nat) (xs : List Int) (w : World) (hA : LsAt w L la xs) (hL : L <= 8796093022208) (hn : xs.length <= 8796093022208) :
 Calls Tryz.prog 62 #[.slice la xs.length cap] w fun e w' => (∃ v', e = .returned v' /\ OwnI w' w.heap.size v' ((gcdL xs : Nat) : Int)) /\ Below w.heap.size w w' := by
 unfold gcdL;obtain ⟨ns, hns⟩ : ∃ ns, xs.map Int.natAbs = ns := ⟨_, rfl⟩;obtain ⟨n, hnn⟩ : ∃ n, xs.length = n := ⟨_, rfl⟩;have HN : Hid (xs.length = n /\ ns.length = n /\ ∀ i, i < n -> ns.getD i 0 = (gi xs i).natAbs) := Lib.hid ⟨hnn, by rw [<- hns, <- hnn]; simp, fun i hi => by rw [<- hns, gi_eq (by omega)]; simp [hnn, hi]⟩;rw [hns, hnn];rw [hnn] at hn;clear hns hnn;refine funW (S0 := fun _ => False) Tryz.func62 ((Fr.nil _ w).l hA (by simp)) ?_;refine goW ?_;refine addW (e := .own w.heap.size (av p0) ((0 : Nat) : Int)) (fun w' _ => OwnI.zero w' _) ?_;refine rW [] ?_;refine aW fun g2 => ?_;refine eW ?_;refine goW ?_;refine rW [] ?_;refine dW ?_;refine aW fun g3 => ?_;refine sG ?_;refine eW ?_;refine goW ?_;refine rW [] ?_;refine dW ?_;refine eW ?_;refine goW ?_;refine loopW (X := G13X) (G13I L n ns) (fun z => n - z.i) (fun z => [(4, .int .i64 (z.i : Int)), (0, .slice la n cap), (3, .pointer (some ⟨g3, 0, none⟩)), (2, .pointer (some ⟨g2, 0, none⟩))])
  (fun z => [.row g3 37 [.bool z.gp.1, .slice z.gp.2.1 z.gp.2.2.1 z.gp.2.2.2], .row g2 37 [.bool false, .slice none 0 0], .own w.heap.size (av z.gp) ((z.g : Nat) : Int), .ls L la xs]) ⟨0, 0, p0⟩ ⟨Nat.zero_le _, rfl, by rw [wlen_zero]; exact Nat.zero_le _⟩ fun z hz => ?_
 obtain ⟨i, g, gp_⟩ := z;obtain ⟨hi, hg, hl⟩ := hz
 replace hi : i <= n := hi
 replace hg : g = (ns.take i).foldl Nat.gcd 0 := hg
 replace hl : wlen g <= L := hl
 by_cases h : i < n
 · have h01 : (i : Int) < (n : Int) := by omega
   obtain ⟨bx, ox, rfl⟩ := hA.pos (i := i) (by rw [HN.out.1]; exact h);have hg2 : Nat.gcd g (gi xs i).natAbs = (ns.take (i + 1)).foldl Nat.gcd 0 := by
    rw [List.take_add_one, List.getElem?_eq_getElem (by rw [HN.out.2.1]; exact h), List.foldl_append, <- hg, <- HN.out.2.2 i h];simp [HN.out.2.1, h]
   have HG := Lib.hid hg2;clear hg hg2;refine goW ?_;refine rW [] ?_;refine dW ?_;refine dW ?_;refine dW ?_;refine dB true ?_;refine eW ?_;refine goW ?_;refine numW (L := L) (xs := xs) (b := bx) (o := ox) i (by simp) (by rw [HN.out.1]; exact h) fun p => ?_;refine ctW ?_;refine goW ?_;refine rW [] ?_;refine dW ?_;refine dW ?_;refine dW ?_;refine dW ?_;refine dW ?_;refine cN (x := ((Nat.gcd g (gi xs i).natAbs : Nat) : Int)) (fun w' H => RGcd_c (av gp_) (av p) g (gi xs i) w' (OwnI.int (H.all (.own w.heap.size (av gp_) (g : Int)) (by simp)) (Nat.le_trans hl hL)) ((H.all (.at L (av p) (gi xs i)) (by simp) : IntAt ..).mono hL)) fun q => ?_;refine sW ?_;refine eW ?_;refine goW ?_;refine rW [] ?_;refine dW ?_;refine dE (incB (a := i) (by omega)) ?_;refine dW ?_;refine eW ?_;refine goW ?_;exact backW (⟨i + 1, Nat.gcd g (gi xs i).natAbs, q⟩ : G13X) ⟨⟨h, HG.out, by
    show wlen (Nat.gcd g (gi xs i).natAbs) <= L;rcases Nat.eq_zero_or_pos g with h0 | h0
    · rw [h0, Nat.gcd_zero_left];obtain ⟨b', o', _, _, hc⟩ := hA (by rw [HN.out.1]; omega);obtain ⟨q', _, _, hI⟩ := hc i (by rw [HN.out.1]; exact h);rw [gi_eq (by rw [HN.out.1]; exact h)]; exact hI.wlen
    · exact Nat.le_trans (wlen_mono (Nat.gcd_le_left _ h0)) hl⟩, by show n - (i + 1) < n - i; omega⟩
 · obtain rfl : i = n := by omega
   have hg2 : g = ns.foldl Nat.gcd 0 := by rw [hg, List.take_of_length_le (by rw [HN.out.2.1]; omega)]
   subst hg2;clear hg;refine goW ?_;refine rW [] ?_;refine dW ?_;refine dW ?_;refine dW ?_;refine dB false ?_;refine eW ?_;refine goW ?_;refine cfW ?_;refine goW ?_;refine rW [] ?_;refine dW ?_;refine sW ?_;refine eW ?_;refine goW ?_;refine fin1 fun w' H => ?_;exact ⟨_, rvI H.m1, ⟨_, rfl, H.m2⟩, H.below⟩
set_option maxRecDepth 100000 in
set_option maxHeartbeats 1000000 in
theorem One13_c (w : World) :
 Calls Tryz.prog 22 #[] w fun e w' => (∃ v', e = .returned v' /\ OwnI w' w.heap.size v' ((1 : Nat) : Int)) /\ Below w.heap.size w w' := by
 have h : 1 < W := by unfold W; omega
 refine funW (S0 := fun _ => False) Tryz.func22 (Fr.nil _ w) ?_;refine goW ?_;refine rW [] ?_;refine aW fun g0 => ?_;refine eW ?_;refine goW ?_;refine rW [] ?_;refine bW (m := 1) fun g1 => ?_;refine dW ?_;refine sW ?_;refine eW ?_;refine goW ?_;refine fin1 fun w' H => ?_;have hown := RowAt.own (ws := [1]) (B := w.heap.size) (n := 1) (cap := 1) H.m0 (Ok.one h) ((H.own _ (List.mem_cons_self ..) rfl _ rfl).elim (fun h => h.elim) id) (by simp) rfl (by unfold maxLen; omega);have h1 := OwnI.mk (m := 1) false (by rw [wlenOne (by omega) h, digOne (by omega) h]; exact hown);rw [wlenOne (by omega) h] at h1;exact ⟨_, rvI H.m1, ⟨_, rfl, h1⟩, H.below⟩
theorem fst0_eq {l : List Int} {i : Nat} (h : ∀ j < i, gi l j = 0) (hi : i < l.length) (hn : gi l i ≠ 0) : fst0 l = i := by
 rcases Nat.lt_trichotomy (fst0 l) i with q | q | q
 · exact absurd (h _ q) (fst0_ne (by omega))
 · exact q
 · exact absurd (fst0_zero q) hn
theorem fst0_end {l : List Int} (h : ∀ j < l.length, gi l j = 0) : fst0 l = l.length := by
 refine Nat.le_antisymm (fst0_le l) (Nat.le_of_not_lt fun q => fst0_ne q (h _ q))
set_option maxRecDepth 100000 in
set_option maxHeartbeats 1000000 in
theorem First13_c (la : Option Addr) (cap L : Nat) (xs : List Int) (w : World) (hA : LsAt w L la xs) (hL : L <= 8796093022208) (hn : xs.length <= 8796093022208) :
 Calls Tryz.prog 25 #[.slice la xs.length cap] w fun e w' => e = .returned (.int .i64 ((fst0 xs : Nat) : Int)) /\ Below w.heap.size w w' := by
 obtain ⟨F, hF⟩ : ∃ F, fst0 xs = F := ⟨_, rfl⟩;obtain ⟨n, hnn⟩ : ∃ n, xs.length = n := ⟨_, rfl⟩;have HF := Lib.hid hF;have HN := Lib.hid hnn;rw [hnn] at hn ⊢;rw [hF];clear hF hnn;refine funW (S0 := fun _ => False) Tryz.func25 ((Fr.nil _ w).l hA (by simp)) ?_;refine goW ?_;refine rW [] ?_;refine dW ?_;refine eW ?_;refine goW ?_;refine rW [] ?_;refine dW ?_;refine eW ?_;refine goW ?_;refine loopW (X := Nat) (fun i => i <= n /\ ∀ j < i, gi xs j = 0) (fun i => n - i) (fun i => [(3, .int .i64 (i : Int)), (0, .slice la n cap)]) (fun _ => [.ls L la xs]) 0 ⟨Nat.zero_le _, fun j h => absurd h (Nat.not_lt_zero j)⟩ fun i hz => ?_;obtain ⟨hi, hall⟩ := hz;by_cases h : i < n
 · have h01 : (i : Int) < (n : Int) := by omega
   obtain ⟨bx, ox, rfl⟩ := hA.pos (i := i) (by rw [HN.out]; exact h);refine goW ?_;refine rW [] ?_;refine dW ?_;refine dW ?_;refine dW ?_;refine dB true ?_;refine eW ?_;refine goW ?_;refine numW (L := L) (xs := xs) (b := bx) (o := ox) i (by simp) (by rw [HN.out]; exact h) fun p => ?_;refine ctW ?_;refine goW ?_;refine rW [] ?_;refine dW ?_;refine dW ?_;refine dW ?_;refine dW ?_;refine cV (v := .int .i64 (zsign (gi xs i))) (fun w' H => RSign_c _ _ L w' H.m2 hL) ?_;by_cases h0 : gi xs i = 0
   · have hz : zsign (gi xs i) = 0 := zsign_zero.2 h0;rw [hz];have H0 := Lib.hid h0;clear h0 hz;refine dB false ?_;refine eW ?_;refine goW ?_;refine cfW ?_;refine goW ?_;refine rW [] ?_;refine dW ?_;refine dE (incB (a := i) (by omega)) ?_;refine dW ?_;refine eW ?_;refine goW ?_;exact backW (i + 1) ⟨⟨h, fun j hj => by
      by_cases e : j = i
      · subst e; exact H0.out
      · exact hall j (by omega)⟩, by show n - (i + 1) < n - i; omega⟩
   · have hz : ¬ zsign (gi xs i) = 0 := fun e => h0 (zsign_zero.1 e);have HE : Hid (i = F) := Lib.hid (by rw [<- HF.out]; exact (fst0_eq hall (by rw [HN.out]; exact h) h0).symm);refine dB true ?_;refine eW ?_;refine goW ?_;refine ctW ?_;refine goW ?_;refine rW [] ?_;refine dW ?_;refine dW ?_;refine eW ?_;refine goW ?_;refine fin1 fun w' H => ?_;exact ⟨_, rvT, by rw [<- HE.out], H.below⟩
 · obtain rfl : i = n := by omega
   have HE : Hid (i = F) := Lib.hid (by rw [<- HF.out, fst0_end (fun j hj => hall j (by rw [<- HN.out]; exact hj)), HN.out]);refine goW ?_;refine rW [] ?_;refine dW ?_;refine dW ?_;refine dW ?_;refine dB false ?_;refine eW ?_;refine goW ?_;refine cfW ?_;refine goW ?_;refine rW [] ?_;refine dW ?_;refine dW ?_;refine dW ?_;refine eW ?_;refine goW ?_;refine fin1 fun w' H => ?_;exact ⟨_, rvT, by rw [<- HE.out], H.below⟩
structure C13X where
 i : Nat
 ps : List P4
 ys : List Int
structure C13I (n : Nat) (R : List Int) (z : C13X) : Prop where
 hi : z.i <= n
 hp : z.ps.length = n
 hy : z.ys.length = n
 hv : ∀ t < z.i, gi z.ys t = gi R t
theorem set_agree {ys R : List Int} {i n : Nat} {x : Int} (hi : i < n) (hy : ys.length = n) (hx : x = gi R i) (h : ∀ t < i, gi ys t = gi R t) : ∀ t < i + 1, gi (ys.set i x) t = gi R t := fun t ht => by
 rw [gi_set (by omega)];by_cases e : t = i
 · rw [if_pos e, e, hx]
 · rw [if_neg e]; exact h t (by omega)
theorem agree_eq {ys R : List Int} {n : Nat} (hy : ys.length = n) (hR : R.length = n) (h : ∀ t < n, gi ys t = gi R t) : ys = R :=
 List.ext_getElem (hy.trans hR.symm) fun i h1 h2 => by
  have := h i (by omega)
  rwa [gi_eq h1, gi_eq h2] at this
set_option maxRecDepth 100000 in
set_option maxHeartbeats 2000000 in
theorem Clear13_c (la lb : Option Addr) (ca cb L j : Nat) (xs ys : List Int) (w : World) (hA : LsAt w L la xs) (hB : LsAt w L lb ys) (hL : L <= 137438953472) (hxy : ys.length = xs.length) (hn : xs.length <= 64) (hj : j < xs.length) :
 Calls Tryz.prog 41 #[.slice la xs.length ca, .slice lb ys.length cb, .int .i64 (j : Int)] w fun e w' => (∃ b, e = .returned (.slice (some ⟨b, 0, none⟩) xs.length xs.length) /\ w.heap.size <= b /\ RowN w' b (clr xs ys j)) /\ Below w.heap.size w w' := by
 obtain ⟨R, hR⟩ : ∃ R, clr xs ys j = R := ⟨_, rfl⟩;obtain ⟨n, hnn⟩ : ∃ n, xs.length = n := ⟨_, rfl⟩;have hxw : ∀ i < n, wlen (gi xs i).natAbs <= L := fun i hi => by
  obtain ⟨b', o', _, _, hc⟩ := hA (by omega);obtain ⟨q', _, _, hI⟩ := hc i (by omega);rw [gi_eq (by omega)]; exact hI.wlen
 have hyw : ∀ i < n, wlen (gi ys i).natAbs <= L := fun i hi => by
  obtain ⟨b', o', _, _, hc⟩ := hB (by omega);obtain ⟨q', _, _, hI⟩ := hc i (by omega);rw [gi_eq (by omega)]; exact hI.wlen
 have hmw : ∀ a b : Int, wlen a.natAbs <= L -> wlen b.natAbs <= L -> wlen (a * b).natAbs <= L + L := fun a b h1 h2 => by
  rw [Int.natAbs_mul]; exact Nat.le_trans (wlen_mul _ _) (by omega)
 have HW := Lib.hid (And.intro hxw (And.intro hyw hmw));have HR : Hid (R.length = n /\ xs.length = n /\ ys.length = n /\ ∀ i, gi R i = gi xs i * gi ys j - gi xs j * gi ys i) := Lib.hid ⟨by rw [<- hR, clr_length, hnn], hnn, hxy.trans hnn, fun i => by rw [<- hR]; exact clr_gi hxy j i⟩;rw [hR];rw [hxy, hnn];rw [hnn] at hn hj;clear hR hnn hxy hxw hyw hmw;obtain ⟨bx, ox, rfl⟩ := hA.pos (i := j) (by rw [HR.out.2.1]; exact hj);obtain ⟨by_, oy, rfl⟩ := hB.pos (i := j) (by rw [HR.out.2.2.1]; exact hj);have hjn : (j : Int) < (n : Int) := by omega
 refine funW (S0 := fun _ => False) Tryz.func41 (((Fr.nil _ w).l hB (by simp)).l hA (by simp [En.wr])) ?_;refine goW ?_;refine rW [] ?_;refine dW ?_;refine eW ?_;refine goW ?_;refine rW [] ?_;refine dW ?_;refine dW ?_;refine mN n n rfl rfl (Nat.le_refl _) (by omega) fun b => ?_;refine dW ?_;refine eW ?_;refine goW ?_;refine addW (e := .ns (List.replicate n p0) (List.replicate n 0)) (fun w' _ => NsAt.zeros w' n) ?_;refine rW [] ?_;refine dW ?_;refine eW ?_;refine goW ?_;refine loopW (X := C13X) (C13I n R) (fun z => n - z.i) (fun z => [(8, .int .i64 (z.i : Int)), (0, .slice (some ⟨bx, ox, none⟩) n ca), (1, .slice (some ⟨by_, oy, none⟩) n cb), (2, .int .i64 (j : Int)), (7, .slice (some ⟨b, 0, none⟩) n n)]) (fun z => [.row b 37 (rn z.ps []), .ns z.ps z.ys, .ls L (some ⟨bx, ox, none⟩) xs, .ls L (some ⟨by_, oy, none⟩) ys]) ⟨0, List.replicate n p0, List.replicate n 0⟩ ⟨Nat.zero_le _, by simp, by simp, fun t h => absurd h (Nat.not_lt_zero t)⟩ fun z hz => ?_;obtain ⟨i, ps, zs⟩ := z;obtain ⟨hi, hp, hz, hv⟩ := hz
 replace hi : i <= n := hi
 replace hp : ps.length = n := hp
 replace hz : zs.length = n := hz
 replace hv : ∀ t < i, gi zs t = gi R t := hv
 have HZ := Lib.hid (And.intro hp (And.intro hz hv));clear hp hz hv;by_cases h : i < n
 · have h01 : (i : Int) < (n : Int) := by omega
   refine goW ?_;refine rW [] ?_;refine dW ?_;refine dW ?_;refine dW ?_;refine dB true ?_;refine eW ?_;refine goW ?_;refine numW (L := L) (xs := xs) (b := bx) (o := ox) i (by simp) (by rw [HR.out.2.1]; exact h) fun pi => ?_;refine numW (L := L) (xs := xs) (b := bx) (o := ox) j (by simp) (by rw [HR.out.2.1]; exact hj) fun pj => ?_;refine numW (L := L) (xs := ys) (b := by_) (o := oy) i (by simp) (by rw [HR.out.2.2.1]; exact h) fun qi => ?_;refine numW (L := L) (xs := ys) (b := by_) (o := oy) j (by simp) (by rw [HR.out.2.2.1]; exact hj) fun qj => ?_;refine ctW ?_;refine goW ?_;refine rW [] ?_;refine dW ?_;refine dW ?_;refine dW ?_;refine dW ?_;refine dW ?_;refine dW ?_;refine dW ?_;refine dW ?_;refine cN (x := gi xs i * gi ys j) (fun w' H => RMul_c (av pi) (av qj) (gi xs i) (gi ys j) L w' (H.all (.at L (av pi) (gi xs i)) (by simp)) (H.all (.at L (av qj) (gi ys j)) (by simp)) (by omega)) fun u => ?_;refine aW fun g9 => ?_;refine sG ?_;refine eW ?_;refine goW ?_;refine rW [] ?_;refine dW ?_;refine dW ?_;refine dW ?_;refine dW ?_;refine dW ?_;refine dW ?_;refine dW ?_;refine dW ?_;refine cN (x := gi xs j * gi ys i) (fun w' H => RMul_c (av pj) (av qi) (gi xs j) (gi ys i) L w' (H.all (.at L (av pj) (gi xs j)) (by simp)) (H.all (.at L (av qi) (gi ys i)) (by simp)) (by omega)) fun v => ?_;refine aW fun g10 => ?_;refine sG ?_;refine eW ?_;refine goW ?_;refine rW [] ?_;refine dW ?_;refine dW ?_;refine dW ?_;refine dW ?_;refine cN (x := gi R i) (fun w' H => by have := RSub_c (av u) (av v) (gi xs i * gi ys j) (gi xs j * gi ys i) (L + L) w' (OwnI.int (H.all (.own w.heap.size (av u) (gi xs i * gi ys j)) (by simp)) (HW.out.2.2 _ _ (HW.out.1 i h) (HW.out.2.1 j hj))) (OwnI.int (H.all (.own w.heap.size (av v) (gi xs j * gi ys i)) (by simp)) (HW.out.2.2 _ _ (HW.out.1 j hj) (HW.out.2.1 i h))) (by omega); rw [<- HR.out.2.2.2 i] at this; exact this) fun q => ?_;refine dW ?_;refine sN (ps := ps) i q (by rw [HZ.out.1]; exact h) NoW.nil rfl ?_;refine eW ?_;refine goW ?_;refine addW (e := .ns (ps.set i q) (zs.set i (gi R i))) (fun w' H => NsAt.set (H.all (.ns ps zs) (by simp)) i (H.all (.own w.heap.size (av q) (gi R i)) (by simp) : OwnI ..).num) ?_;refine rW [] ?_;refine dW ?_;refine dE (incB (a := i) (by omega)) ?_;refine dW ?_;refine eW ?_;refine goW ?_;exact backW (⟨i + 1, ps.set i q, zs.set i (gi R i)⟩ : C13X) ⟨⟨h, by show (ps.set i q).length = n; rw [List.length_set]; exact HZ.out.1, by show (zs.set i (gi R i)).length = n; rw [List.length_set]; exact HZ.out.2.1, set_agree h HZ.out.2.1 rfl HZ.out.2.2⟩, by show n - (i + 1) < n - i; omega⟩
 · obtain rfl : i = n := by omega
   have HE : Hid (zs = R) := Lib.hid (agree_eq HZ.out.2.1 HR.out.1 HZ.out.2.2);refine goW ?_;refine rW [] ?_;refine dW ?_;refine dW ?_;refine dW ?_;refine dB false ?_;refine eW ?_;refine goW ?_;refine cfW ?_;refine goW ?_;refine rW [] ?_;refine dW ?_;refine dW ?_;refine eW ?_;refine goW ?_;refine fin1 fun w' H => ?_;exact ⟨_, rvT, ⟨b, rfl, (H.own (.row b 37 (rn ps [])) (by simp) rfl b rfl).elim (fun h => h.elim) id, by rw [<- HE.out]; exact RowN.mk' H.m0 NoW.nil H.m1⟩, H.below⟩
theorem Fr.ro {S0 : Nat -> Prop} {w0 w : World} {es : List En} (h : Fr S0 w0 w es) {e : En} (he : e.F w) (hwr : e.wr = false) (hS : ∀ e ∈ es, e.wr = false) : Fr S0 w0 w (e :: es) :=
 h.cons he (fun e' he' => ⟨(fun q => by rw [hwr] at q; cases q), fun q => by rw [hS e' he'] at q; cases q⟩) (fun q => by rw [hwr] at q; cases q)
theorem stp_wlen {B : Nat} {l : List Int} (h : ∀ x ∈ l, wlen x.natAbs <= B) : ∀ x ∈ stp l, wlen x.natAbs <= B := fun x hx => by
 obtain ⟨i, hi, rfl⟩ := List.getElem_of_mem hx;rw [stp_length] at hi;have h1 := stp_gi l i;rw [gi_eq (xs := stp l) (by rw [stp_length]; exact hi), gi_eq hi] at h1;have h2 : ((stp l)[i]).natAbs <= (l[i]).natAbs := by
  rw [<- h1, Int.natAbs_mul];exact Nat.le_mul_of_pos_left _ (Int.natAbs_pos.2 (stg_ne l))
 exact Nat.le_trans (wlen_mono h2) (h _ (List.getElem_mem hi))
theorem stg_wlen {B : Nat} {l : List Int} (hB : 1 <= B) (h : ∀ x ∈ l, wlen x.natAbs <= B) : wlen (stg l).natAbs <= B := by
 unfold stg;split
 · exact Nat.le_trans (Nat.le_of_eq (wlenOne (by omega) (by unfold W; omega))) hB
 · rename_i h0;obtain ⟨x, hx, hne⟩ : ∃ x ∈ l, x ≠ 0 := Classical.byContradiction fun hc => h0 (by
    have : ∀ y ∈ l.map Int.natAbs, (0 : Nat) ∣ y := fun y hy => by
     obtain ⟨x, hx, rfl⟩ := List.mem_map.1 hy;have : x = 0 := Classical.byContradiction fun q => hc ⟨x, hx, q⟩;rw [this]; exact Nat.dvd_refl _
    exact Nat.eq_zero_of_zero_dvd (dvd_fold (l.map Int.natAbs) 0 (Nat.dvd_refl _) this))
   have hd : gcdL l ∣ x.natAbs := (fold_dvd (l.map Int.natAbs) 0).2 _ (List.mem_map.2 ⟨x, hx, rfl⟩);have := Nat.le_of_dvd (Int.natAbs_pos.2 hne) hd;exact Nat.le_trans (wlen_mono (by rw [Int.natAbs_natCast]; exact this)) (h x hx)
theorem clr_wlen {B j : Nat} {x y : List Int} (hl : y.length = x.length) (hx : ∀ i, wlen (gi x i).natAbs <= B) (hy : ∀ i, wlen (gi y i).natAbs <= B) : ∀ z ∈ clr x y j, wlen z.natAbs <= 2 * B + 1 := fun z hz => by
 obtain ⟨i, hi, rfl⟩ := List.getElem_of_mem hz;rw [<- gi_eq hi, clr_gi hl];have h1 : wlen (gi x i * gi y j).natAbs <= 2 * B := by rw [Int.natAbs_mul]; exact Nat.le_trans (wlen_mul _ _) (by have := hx i; have := hy j; omega)
 have h2 : wlen (gi x j * gi y i).natAbs <= 2 * B := by rw [Int.natAbs_mul]; exact Nat.le_trans (wlen_mul _ _) (by have := hx j; have := hy i; omega)
 refine Nat.le_trans (wlen_mono (show (gi x i * gi y j - gi x j * gi y i).natAbs <= (gi x i * gi y j).natAbs + (gi x j * gi y i).natAbs by omega)) (Nat.le_trans (wlen_add _ _) (by omega))
theorem r13_words {R : List (List Int)} {p : List Nat} {l : List Int} {k B : Nat} (hR : ∀ t, t < k -> (R.getD t []).length = l.length) (hRb : ∀ t < k, ∀ j, wlen (Rts R t j).natAbs <= B) (hb : ∀ i ≤ k, ∀ j, wlen (gi (r13 R p l i).l j).natAbs <= B) : ∀ i, i <= k -> wlen (r13 R p l i).up.natAbs <= i * B + 1 /\ wlen (r13 R p l i).dn.natAbs <= i * (2 * B + 1) + 1
 | 0, _ => by
  have : wlen (1 : Int).natAbs <= 1 := Nat.le_of_eq (wlenOne (by omega) (by unfold W; omega));exact ⟨by show wlen (1 : Int).natAbs <= _; omega, by show wlen (1 : Int).natAbs <= _; omega⟩
 | i + 1, hi => by
  obtain ⟨h1, h2⟩ := r13_words hR hRb hb i (by omega);rw [r13]; split
  · rw [Nat.succ_mul, Nat.succ_mul]; omega
  · constructor
    · show wlen ((r13 R p l i).up * Rts R i (pts p i)).natAbs <= _;rw [Int.natAbs_mul];have := wlen_mul (r13 R p l i).up.natAbs (Rts R i (pts p i)).natAbs;have := hRb i (by omega) (pts p i);rw [Nat.succ_mul]; omega
    · show wlen ((r13 R p l i).dn * stg (clr (r13 R p l i).l (R.getD i []) (pts p i))).natAbs <= _;rw [Int.natAbs_mul];have := wlen_mul (r13 R p l i).dn.natAbs (stg (clr (r13 R p l i).l (R.getD i []) (pts p i))).natAbs;have := stg_wlen (B := 2 * B + 1) (by omega) (clr_wlen (j := pts p i) (by rw [hR i (by omega), r13_length]) (fun j => hb i (by omega) j) (fun j => hRb i (by omega) j));rw [Nat.succ_mul]; omega
set_option maxRecDepth 100000 in
set_option maxHeartbeats 2000000 in
theorem Strip13_c (la : Option Addr) (ca L : Nat) (xs : List Int) (w : World) (hA : LsN w la xs) (hxw : ∀ x ∈ xs, wlen x.natAbs <= L) (hL1 : 1 <= L) (hL : L <= 8796093022207) (hn : xs.length <= 64) :
 Calls Tryz.prog 42 #[.slice la xs.length ca] w fun e w' => (∃ (q : (Option Addr × Nat) × P4), e = .returned (.tuple #[.slice q.1.1 xs.length q.1.2, av q.2]) /\ LsN w' q.1.1 (stp xs) /\ OwnI w' w.heap.size (av q.2) (stg xs) /\ (q.1.1 = la ∨ ∀ b o, q.1.1 = some ⟨b, o, none⟩ -> w.heap.size <= b)) /\ Below w.heap.size w w' := by
 obtain ⟨n, hnn⟩ : ∃ n, xs.length = n := ⟨_, rfl⟩;obtain ⟨R, hR⟩ : ∃ R, stp xs = R := ⟨_, rfl⟩;obtain ⟨G, hG⟩ : ∃ G, stg xs = G := ⟨_, rfl⟩;obtain ⟨g, hg⟩ : ∃ g, gcdL xs = g := ⟨_, rfl⟩;have hRw : ∀ x ∈ R, wlen x.natAbs <= L := by rw [<- hR]; exact stp_wlen hxw
 have hGw : wlen G.natAbs <= L := by rw [<- hG]; exact stg_wlen hL1 hxw
 have hRl : R.length = n := by rw [<- hR, stp_length, hnn]
 have hz : g = 0 -> R = xs /\ G = 1 := fun e => by
  rw [<- hR, <- hG]; unfold stp stg; rw [hg, if_pos e, if_pos e]; exact ⟨rfl, rfl⟩
 have hnz : g ≠ 0 -> G = (g : Int) /\ ∀ i < n, gi R i = gi xs i / (g : Int) /\ (g : Int) ∣ gi xs i := fun e => by
  refine ⟨by rw [<- hG]; unfold stg; rw [hg, if_neg e], fun i hi => ⟨?_, by rw [<- hg]; exact gcdL_dvd i⟩⟩;rw [<- hR, gi_eq (by rw [stp_length]; omega), gi_eq (by omega)];unfold stp;simp [hg, e]
 have HG := fun w' (h : LsN w' la xs) => RGcdAll_c la ca L xs w' (h.lsAt hxw) (by omega) (by omega);rw [hg, hnn] at HG;have HGc := Lib.hid HG;have HXW := Lib.hid hxw;have HN := Lib.hid (And.intro hnn (And.intro hRl (And.intro hRw (And.intro hGw (And.intro hz hnz)))));rw [hnn, hR, hG];rw [hnn] at hn;clear hnn hR hG hg hxw hRw hGw hRl hz hnz HG;refine funW (S0 := fun _ => False) Tryz.func42 ((Fr.nil _ w).ln hA (by simp)) ?_;refine goW ?_;refine rW [] ?_;refine dW ?_;refine aW fun g3 => ?_;refine eW ?_;refine goW ?_;refine rW [] ?_;refine dW ?_;refine cN (x := ((g : Nat) : Int)) (fun w' H => HGc.out w' (H.all (.lsn la xs) (by simp))) fun pg => ?_;have hgw : g = 0 ∨ wlen ((g : Nat) : Int).natAbs <= L := by
  by_cases e : g = 0
  · exact .inl e
  · right; rw [<- (HN.out.2.2.2.2.2 e).1]; exact HN.out.2.2.2.1
 have HGW : Hid (wlen ((g : Nat) : Int).natAbs <= L) := Lib.hid (hgw.elim (fun e => by rw [e]; simp [wlen_zero]) id);clear hgw;refine aW fun g4 => ?_;refine sG ?_;refine eW ?_;refine goW ?_;refine rW [] ?_;refine dW ?_;refine cV (v := .int .i64 (zsign ((g : Nat) : Int))) (fun w' H => RSign_c _ _ L w' (OwnI.int (H.all (.own w.heap.size (av pg) ((g : Nat) : Int)) (by simp)) HGW.out) (by omega)) ?_;by_cases h0 : g = 0
 · have hz : zsign ((g : Nat) : Int) = 0 := by rw [h0]; rfl
   have HE := Lib.hid (HN.out.2.2.2.2.1 h0);rw [hz];clear h0 hz;refine dB true ?_;refine eW ?_;refine goW ?_;refine ctW ?_;refine goW ?_;refine rW [] ?_;refine dW ?_;refine cN (x := ((1 : Nat) : Int)) (fun w' H => One13_c w') fun pe => ?_;refine dW ?_;refine sW ?_;refine eW ?_;refine goW ?_;refine fin2 fun w' H => ?_;exact ⟨_, _, rvT, rvI (H.all (.row g3 37 [.bool pe.1, .slice pe.2.1 pe.2.2.1 pe.2.2.2]) (by simp)), ⟨((la, ca), pe), rfl, by rw [HE.out.1]; exact H.all (.lsn la xs) (by simp), by rw [HE.out.2]; exact H.all (.own w.heap.size (av pe) ((1 : Nat) : Int)) (by simp), .inl rfl⟩, H.below⟩
 · have hz : ¬ zsign ((g : Nat) : Int) = 0 := fun e => h0 (by have := zsign_zero.1 e; omega);have HE := Lib.hid (HN.out.2.2.2.2.2 h0);have hg0 : ((g : Nat) : Int) ≠ 0 := by omega
   have HG0 := Lib.hid hg0;clear h0 hg0;refine dB false ?_;refine eW ?_;refine goW ?_;refine cfW ?_;refine goW ?_;refine rW [] ?_;refine dW ?_;refine dW ?_;refine mN n n rfl rfl (Nat.le_refl _) (by omega) fun b => ?_;refine dW ?_;refine eW ?_;refine goW ?_;refine addW (e := .ns (List.replicate n p0) (List.replicate n 0)) (fun w' _ => NsAt.zeros w' n) ?_;refine rW [] ?_;refine dW ?_;refine eW ?_;refine goW ?_;refine loopW (X := C13X) (C13I n R) (fun z => n - z.i) (fun z => [(6, .int .i64 (z.i : Int)), (0, .slice la n ca), (4, .pointer (some ⟨g4, 0, none⟩)), (3, .pointer (some ⟨g3, 0, none⟩)), (5, .slice (some ⟨b, 0, none⟩) n n)]) (fun z => [.row b 37 (rn z.ps []), .row g4 37 [.bool pg.1, .slice pg.2.1 pg.2.2.1 pg.2.2.2], .row g3 37 [.bool false, .slice none 0 0], .ns z.ps z.ys, .own w.heap.size (av pg) ((g : Nat) : Int), .lsn la xs]) ⟨0, List.replicate n p0, List.replicate n 0⟩ ⟨Nat.zero_le _, by simp, by simp, fun t h => absurd h (Nat.not_lt_zero t)⟩ fun z hz => ?_;obtain ⟨i, ps, zs⟩ := z;obtain ⟨hi, hp, hz, hv⟩ := hz
   replace hi : i <= n := hi
   replace hp : ps.length = n := hp
   replace hz : zs.length = n := hz
   replace hv : ∀ t < i, gi zs t = gi R t := hv
   have HZ := Lib.hid (And.intro hp (And.intro hz hv));clear hp hz hv;by_cases h : i < n
   · have h01 : (i : Int) < (n : Int) := by omega
     obtain ⟨bx, ox, rfl⟩ := hA.pos (i := i) (by rw [HN.out.1]; exact h);have HX := Lib.hid (HE.out.2 i h);refine goW ?_;refine rW [] ?_;refine dW ?_;refine dW ?_;refine dW ?_;refine dB true ?_;refine eW ?_;refine goW ?_;refine numNW (xs := xs) (b := bx) (o := ox) i (by simp) (by rw [HN.out.1]; exact h) fun pi => ?_;refine ctW ?_;refine goW ?_;refine rW [] ?_;refine dW ?_;refine dW ?_;refine dW ?_;refine dW ?_;refine dW ?_;refine dW ?_;refine dW ?_;refine cN1 (x := gi R i) (z := .int .i64 0) (fun w' H => by have := RExact_c (av pi) (av pg) (gi xs i) ((g : Nat) : Int) w' (NumAt.int (H.all (.num (av pi) (gi xs i)) (by simp)) (Nat.le_trans (HXW.out _ (gi_mem (by rw [HN.out.1]; exact h))) (by omega))) (OwnI.int (H.all (.own w.heap.size (av pg) ((g : Nat) : Int)) (by simp)) (Nat.le_trans HGW.out (by omega))) HG0.out HX.out.2; rw [<- HX.out.1] at this; exact this.mono fun e w'' ⟨⟨v, he, hv⟩, hb⟩ => ⟨⟨v, he, hv⟩, hb⟩) fun q => ?_;refine dW ?_;refine dW ?_;refine dW ?_;refine dW ?_;refine sN (ps := ps) i q (by rw [HZ.out.1]; exact h) NoW.nil rfl ?_;refine eW ?_;refine goW ?_;refine addW (e := .ns (ps.set i q) (zs.set i (gi R i))) (fun w' H => NsAt.set (H.all (.ns ps zs) (by simp)) i (H.all (.own w.heap.size (av q) (gi R i)) (by simp) : OwnI ..).num) ?_;refine rW [] ?_;refine dW ?_;refine dE (incB (a := i) (by omega)) ?_;refine dW ?_;refine eW ?_;refine goW ?_;exact backW (⟨i + 1, ps.set i q, zs.set i (gi R i)⟩ : C13X) ⟨⟨h, by show (ps.set i q).length = n; rw [List.length_set]; exact HZ.out.1, by show (zs.set i (gi R i)).length = n; rw [List.length_set]; exact HZ.out.2.1, set_agree h HZ.out.2.1 rfl HZ.out.2.2⟩, by show n - (i + 1) < n - i; omega⟩
   · obtain rfl : i = n := by omega
     have HE2 : Hid (zs = R) := Lib.hid (agree_eq HZ.out.2.1 HN.out.2.1 HZ.out.2.2);refine goW ?_;refine rW [] ?_;refine dW ?_;refine dW ?_;refine dW ?_;refine dB false ?_;refine eW ?_;refine goW ?_;refine cfW ?_;refine goW ?_;refine rW [] ?_;refine dW ?_;refine dW ?_;refine dW ?_;refine sW ?_;refine eW ?_;refine goW ?_;refine fin2 fun w' H => ?_;refine ⟨_, _, rvT, rvI (H.all (.row g3 37 [.bool pg.1, .slice pg.2.1 pg.2.2.1 pg.2.2.2]) (by simp)), ⟨((some ⟨b, 0, none⟩, i), pg), rfl, ?_, by rw [HE.out.1]; exact H.all (.own w.heap.size (av pg) ((g : Nat) : Int)) (by simp), .inr fun b' o e => by cases e; exact (H.own (.row b 37 (rn ps [])) (by simp) rfl b rfl).elim (fun h => h.elim) id⟩, H.below⟩;have h1 := (RowN.mk' (H.all (.row b 37 (rn ps [])) (by simp)) NoW.nil (H.all (.ns ps zs) (by simp))).lsN;rw [HE2.out] at h1;exact h1
section
variable {P : Program} {Q : Exit -> Act -> World -> Prop} {S0 : Nat -> Prop} {w0 : World} {n : Nat} {ls : List (Nat × Value)} {es : List En} {c : Code}
theorem lrsW' {L : Nat} {hs : List (Option Addr × Nat)} {R : List (List Int)} {q : Option Addr} (t : Nat) (hm : En.lrs L hs R ∈ es) (ht : t < R.length) (hq : (hs.getD t (none, 0)).1 = q) (k : CW P n S0 w0 c Q ls (.ls L q (R.getD t []) :: es)) : CW P n S0 w0 c Q ls es := lrsW t hm ht (by rw [hq]; exact k)
end
structure RsX where
 i : Nat
 ao : Option Addr
 cap : Nat
 pu : P4
 pd : P4
structure RsJ (ao0 : Option Addr) (B k : Nat) (z : RsX) : Prop where
 hi : z.i <= k
 ha : z.ao = ao0 ∨ ∀ b o, z.ao = some ⟨b, o, none⟩ -> B <= b
structure RsA (k c B : Nat) (hs : List (Option Addr × Nat)) (R : List (List Int)) (p : List Nat) (l : List Int) : Prop where
 Rl : R.length = k
 hl : hs.length = k
 pl : p.length = k
 ll : l.length = c
 cl : ∀ t, t < k -> (R.getD t []).length = c
 kb : k <= 64
 cb : c <= 64
 pc : ∀ t, t < k -> p.getD t 0 < c
 Rb : ∀ t < k, ∀ j, wlen (Rts R t j).natAbs <= B
 lb : ∀ i ≤ k, ∀ j, wlen (gi (r13 R p l i).l j).natAbs <= B
 B1 : 1 <= B
 BB : B <= 134217728
set_option maxRecDepth 100000 in
set_option maxHeartbeats 4000000 in
theorem Rest13_c (gs k c B rc lc cap : Nat) (ra la ao : Option Addr) (hs : List (Option Addr × Nat)) (R : List (List Int)) (p : List Nat) (l : List Int) (w : World) (hA : RsA k c B hs R p l)
 (h0 : w.cell? ⟨gs, 0, none⟩ = some (.slice ra k rc)) (h1 : w.cell? ⟨gs, 1, none⟩ = some (.slice la k lc)) (h2 : RlF ra (rcs c hs) w) (h3 : RlF la (p.map fun x : Nat => Value.int .i64 (x : Int)) w) (h4 : ∀ t, t < R.length -> LsAt w B (hs.getD t (none, 0)).1 (R.getD t [])) (h5 : LsAt w B ao l) :
 Calls Tryz.prog 23 #[.pointer (some ⟨gs, 0, none⟩), .slice ao c cap] w fun e w' => (∃ (q : (Option Addr × Nat) × P4 × P4), e = .returned (.tuple #[.slice q.1.1 c q.1.2, av q.2.1, av q.2.2]) /\ LsAt w' B q.1.1 (r13 R p l k).l /\ OwnI w' w.heap.size (av q.2.1) (r13 R p l k).up /\ OwnI w' w.heap.size (av q.2.2) (r13 R p l k).dn /\ (q.1.1 = ao ∨ ∀ b o, q.1.1 = some ⟨b, o, none⟩ -> w.heap.size <= b)) /\ Below w.heap.size w w' := by
 have hwd := r13_words (fun t ht => by rw [hA.cl t ht, hA.ll]) hA.Rb hA.lb;have hm : ∀ i ≤ k, i * B + 1 <= 17179869184 /\ i * (2 * B + 1) + 1 <= 34359738368 := fun i hi => by
  have h1 := Nat.mul_le_mul (Nat.le_trans hi hA.kb) hA.BB;have h2 := Nat.mul_le_mul (Nat.le_trans hi hA.kb) (show 2 * B + 1 <= 268435457 by have := hA.BB; omega);exact ⟨by omega, by omega⟩
 have hup : ∀ i ≤ k, wlen (r13 R p l i).up.natAbs <= 17179869184 /\ wlen (r13 R p l i).dn.natAbs <= 34359738368 := fun i hi => ⟨Nat.le_trans (hwd i hi).1 (hm i hi).1, Nat.le_trans (hwd i hi).2 (hm i hi).2⟩;have hcw : ∀ i < k, ∀ z ∈ clr (r13 R p l i).l (R.getD i []) (pts p i), wlen z.natAbs <= 2 * B + 1 := fun i hi => clr_wlen (by rw [hA.cl i hi, r13_length, hA.ll]) (fun j => hA.lb i (by omega) j) (fun j => hA.Rb i hi j);have hr0 : ∀ i, gi (r13 R p l i).l (pts p i) = 0 -> r13 R p l (i + 1) = r13 R p l i := fun i e => by rw [r13, if_pos e]
 have hr1 : ∀ i, gi (r13 R p l i).l (pts p i) ≠ 0 -> r13 R p l (i + 1) = ⟨stp (clr (r13 R p l i).l (R.getD i []) (pts p i)), (r13 R p l i).up * Rts R i (pts p i), (r13 R p l i).dn * stg (clr (r13 R p l i).l (R.getD i []) (pts p i))⟩ := fun i e => by rw [r13, if_neg e]
 obtain ⟨F, hF⟩ : ∃ F : Nat -> Ro, (fun i => r13 R p l i) = F := ⟨_, rfl⟩;have eF : ∀ i, r13 R p l i = F i := fun i => by rw [<- hF]
 have hlen : ∀ i, (F i).l.length = c := fun i => by rw [<- eF, r13_length, hA.ll]
 have hlb : ∀ i ≤ k, ∀ x ∈ (F i).l, wlen x.natAbs <= B := fun i hi x hx => by
  obtain ⟨j, hj, rfl⟩ := List.getElem_of_mem hx;have := hA.lb i hi j;rw [eF, gi_eq hj] at this; exact this
 have hF0 : F 0 = ⟨l, 1, 1⟩ := by rw [<- eF]; rfl
 simp only [eF] at hup hcw hr0 hr1 ⊢;have hlenC : ∀ i, (clr (F i).l (R.getD i []) (pts p i)).length = c := fun i => by rw [clr_length, hlen]
 have HA := Lib.hid hA;have HU := Lib.hid (And.intro hup (And.intro hcw (And.intro hr0 (And.intro hr1 (And.intro hlen (And.intro hlb (And.intro hF0 hlenC)))))));have hbb : B <= 134217728 := hA.BB;have hc64 : c <= 64 := hA.cb;have hk64 : k <= 64 := hA.kb;clear hwd hm hup hcw hr0 hr1 hF eF hlen hlb hF0 hlenC hA;have H6 : Fr (fun _ => False) w w [.ls B ao l, .cell ⟨gs, 0, none⟩ (.slice ra k rc), .cell ⟨gs, 1, none⟩ (.slice la k lc), .rl ra (rcs c hs), .rl la (p.map fun x : Nat => Value.int .i64 (x : Int)), .lrs B hs R] := by
  refine Fr.ro (Fr.ro (Fr.ro (Fr.ro (Fr.ro (Fr.ro (Fr.nil _ w) (e := .lrs B hs R) h4 rfl ?_) (e := .rl la _) h3 rfl ?_) (e := .rl ra _) h2 rfl ?_) (e := .cell ⟨gs, 1, none⟩ _) h1 rfl ?_) (e := .cell ⟨gs, 0, none⟩ _) h0 rfl ?_) (e := .ls B ao l) h5 rfl ?_ <;> simp [En.wr]
 clear h0 h1 h2 h3 h4 h5;refine funW (S0 := fun _ => False) Tryz.func23 H6 ?_;refine goW ?_;refine rW [] ?_;refine dW ?_;refine aW fun g5 => ?_;refine aW fun g6 => ?_;refine eW ?_;refine goW ?_;refine rW [] ?_;refine cN (x := ((1 : Nat) : Int)) (fun w' H => One13_c w') fun pu => ?_;refine sW ?_;refine eW ?_;refine goW ?_;refine rW [] ?_;refine cN (x := ((1 : Nat) : Int)) (fun w' H => One13_c w') fun pd => ?_;refine sW ?_;refine eW ?_;refine goW ?_;refine rW [] ?_;refine dW ?_;refine eW ?_;refine goW ?_;refine loopW (X := RsX) (RsJ ao w.heap.size k) (fun z => k - z.i) (fun z => [(7, .int .i64 (z.i : Int)), (0, .pointer (some ⟨gs, 0, none⟩)), (1, .slice z.ao c z.cap), (5, .pointer (some ⟨g5, 0, none⟩)), (6, .pointer (some ⟨g6, 0, none⟩))])
  (fun z => [.row g5 37 [.bool z.pu.1, .slice z.pu.2.1 z.pu.2.2.1 z.pu.2.2.2], .row g6 37 [.bool z.pd.1, .slice z.pd.2.1 z.pd.2.2.1 z.pd.2.2.2], .own w.heap.size (av z.pu) (F z.i).up, .own w.heap.size (av z.pd) (F z.i).dn, .ls B z.ao (F z.i).l, .cell ⟨gs, 0, none⟩ (.slice ra k rc), .cell ⟨gs, 1, none⟩ (.slice la k lc), .rl ra (rcs c hs), .rl la (p.map fun x : Nat => Value.int .i64 (x : Int)), .lrs B hs R]) ⟨0, ao, cap, pu, pd⟩ ⟨Nat.zero_le _, .inl rfl⟩ (he := by
   intro w' h;show Fr _ _ w' [.row g5 _ _, .row g6 _ _, .own w.heap.size (av pu) (F 0).up, .own w.heap.size (av pd) (F 0).dn, .ls B ao (F 0).l, _, _, _, _, _];rw [HU.out.2.2.2.2.2.2.1];exact h.pick (by repeat (first | exact Pk.n | refine Pk.c (by repeat (first | exact Rm.z | apply Rm.s)) ?_))) fun z hz => ?_
 obtain ⟨i, ao1, cap1, pu1, pd1⟩ := z;obtain ⟨hi, ha⟩ := hz
 replace hi : i <= k := hi
 replace ha : ao1 = ao ∨ ∀ b o, ao1 = some ⟨b, o, none⟩ -> w.heap.size <= b := ha
 have HB := Lib.hid ha;clear ha;by_cases h : i < k
 · have h01 : (i : Int) < (k : Int) := by omega
   obtain ⟨j, hj⟩ : ∃ j, p.getD i 0 = j := ⟨_, rfl⟩;have hjc : j < c := by rw [<- hj]; exact HA.out.pc i h
   have hjc' : (j : Int) < (c : Int) := by omega
   have hpj : pts p i = j := hj;have hil : (p.map (fun x : Nat => Value.int .i64 (x : Int)))[i]? = some (.int .i64 (j : Int)) := by
    have := ils_get (p := p) [] (t := i) (by rw [HA.out.pl]; exact h);rw [List.append_nil, hj] at this; exact this
   have HJ := Lib.hid (And.intro hpj hil);clear hj hpj hil;refine goW ?_;refine rW [] ?_;refine dW ?_;refine dW ?_;refine dW ?_;refine dW ?_;refine dW ?_;refine dW ?_;refine dB true ?_;refine eW ?_;refine goW ?_;refine rlW (ao := la) i (by simp) HJ.out.2 fun lb e => ?_;subst e;refine posLW (L := B) (ao := ao1) (xs := (F i).l) (by simp) (by rw [HU.out.2.2.2.2.1 i]; omega) fun bx ox e => ?_;subst e;refine numW (L := B) (xs := (F i).l) (b := bx) (o := ox) j (by simp) (by rw [HU.out.2.2.2.2.1 i]; exact hjc) fun pl => ?_;refine ctW ?_;refine goW ?_;refine rW [] ?_;refine dW ?_;refine dW ?_;refine dW ?_;refine dW ?_;refine dW ?_;refine dW ?_;refine dW ?_;refine dW ?_;refine eW ?_;refine goW ?_;refine rW [] ?_;refine dW ?_;refine dW ?_;refine dW ?_;refine dW ?_;refine cV (v := .int .i64 (zsign (gi (F i).l j))) (fun w' H => RSign_c _ _ B w' (H.all (.at B (av pl) (gi (F i).l j)) (by simp)) (by omega)) ?_;by_cases h0 : gi (F i).l j = 0
   · have hz : zsign (gi (F i).l j) = 0 := zsign_zero.2 h0;have HE := Lib.hid (HU.out.2.2.1 i (by rw [HJ.out.1]; exact h0));rw [hz];clear h0 hz;refine dB false ?_;refine eW ?_;refine goW ?_;refine cfW ?_;refine goW ?_;refine rW [] ?_;refine dW ?_;refine dE (incB (a := i) (by omega)) ?_;refine dW ?_;refine eW ?_;refine goW ?_;exact backW (⟨i + 1, some ⟨bx, ox, none⟩, cap1, pu1, pd1⟩ : RsX) ⟨⟨h, HB.out⟩, by show k - (i + 1) < k - i; omega⟩ (he := by
      intro w' h;show Fr _ _ w' [.row g5 _ _, .row g6 _ _, .own w.heap.size (av pu1) (F (i + 1)).up, .own w.heap.size (av pd1) (F (i + 1)).dn, .ls B (some ⟨bx, ox, none⟩) (F (i + 1)).l, _, _, _, _, _];rw [HE.out];exact h.pick (by repeat (first | exact Pk.n | refine Pk.c (by repeat (first | exact Rm.z | apply Rm.s)) ?_)))
   · have hz : ¬ zsign (gi (F i).l j) = 0 := fun e => h0 (zsign_zero.1 e);have hF1 := HU.out.2.2.2.1 i (by rw [HJ.out.1]; exact h0);have hcw := HU.out.2.1 i h;have hlc := HU.out.2.2.2.2.2.2.2 i;rw [HJ.out.1] at hF1 hcw hlc;have HE := Lib.hid (And.intro hF1 (And.intro hcw hlc));clear h0 hF1 hcw hlc;refine dB true ?_;refine eW ?_;refine goW ?_;obtain ⟨q1, hq1⟩ : ∃ q, (hs.getD i (none, 0)).1 = q := ⟨_, rfl⟩;obtain ⟨q2, hq2⟩ : ∃ q, (hs.getD i (none, 0)).2 = q := ⟨_, rfl⟩;have hcell : (rcs c hs)[i]? = some (.slice q1 c q2) := by
      have := rcs_get (c := c) (hs := hs) [] (t := i) (by rw [HA.out.hl]; exact h);rw [List.append_nil, hq1, hq2] at this; exact this
     refine rlW (ao := ra) i (by simp) hcell fun rb e => ?_;subst e;refine lrsW' (L := B) (hs := hs) (R := R) i (by simp) (by rw [HA.out.Rl]; exact h) hq1 ?_;refine posLW (L := B) (ao := q1) (xs := R.getD i []) (by simp) (by rw [HA.out.cl i h]; omega) fun by_ oy e => ?_;subst e;refine numW (L := B) (xs := R.getD i []) (b := by_) (o := oy) j (by simp) (by rw [HA.out.cl i h]; exact hjc) fun pr => ?_;obtain ⟨Ri, hRi⟩ : ∃ r, R.getD i [] = r := ⟨_, rfl⟩;have hRl : Ri.length = c := by rw [<- hRi]; exact HA.out.cl i h
     have hRj : Rts R i j = gi Ri j := by unfold Rts; rw [hRi]
     have HR := Lib.hid (And.intro hRl hRj);rw [hRi] at HE ⊢;clear hcell hq1 hq2 hRi hRl hRj;refine ctW ?_;refine goW ?_;refine rW [] ?_;refine dW ?_;refine dW ?_;refine dW ?_;refine dW ?_;refine dW ?_;refine dW ?_;refine dW ?_;refine dW ?_;refine dW ?_;refine dW ?_;refine dW ?_;refine cN (x := (F i).up * gi Ri j) (fun w' H => RMul_c (av pu1) (av pr) (F i).up (gi Ri j) 17179869184 w' (OwnI.int (H.all (.own w.heap.size (av pu1) (F i).up) (by simp)) (HU.out.1 i (by omega)).1) ((H.all (.at B (av pr) (gi Ri j)) (by simp) : IntAt ..).mono (by omega)) (by omega)) fun pu2 => ?_;refine sW ?_;refine eW ?_;refine goW ?_;obtain ⟨C, hC⟩ : ∃ C, clr (F i).l Ri j = C := ⟨_, rfl⟩;have hcl := fun w' (h1 : LsAt w' B (some ⟨bx, ox, none⟩) (F i).l) (h2 : LsAt w' B (some ⟨by_, oy, none⟩) Ri) => Clear13_c (some ⟨bx, ox, none⟩) (some ⟨by_, oy, none⟩) cap1 q2 B j (F i).l Ri w' h1 h2 (by omega) (by rw [HR.out.1, HU.out.2.2.2.2.1 i]) (by rw [HU.out.2.2.2.2.1 i]; omega) (by rw [HU.out.2.2.2.2.1 i]; exact hjc);rw [HR.out.1, HU.out.2.2.2.2.1 i, hC] at hcl;have HCL := Lib.hid hcl;rw [hC] at HE;clear hcl hC;refine rW [] ?_;refine dW ?_;refine dW ?_;refine dW ?_;refine dW ?_;refine dW ?_;refine dW ?_;refine dW ?_;refine dW ?_;refine dW ?_;refine cLn (α := Nat) (mk := fun q => .slice (some ⟨q, 0, none⟩) c c) (ao := fun q => some ⟨q, 0, none⟩) (xs := fun _ => C) (A := fun _ => True) (fun w' H => (HCL.out w' (H.all (.ls B (some ⟨bx, ox, none⟩) (F i).l) (by simp)) (H.all (.ls B (some ⟨by_, oy, none⟩) Ri) (by simp))).mono fun e w'' ⟨⟨q, he, hq, hR⟩, hb⟩ => ⟨⟨q, he, hR.lsN, trivial, fun b' o e => by cases e; exact hq⟩, hb⟩) fun bc => ?_;refine dW ?_;refine eW ?_;refine goW ?_;refine rW [] ?_;refine cN (x := ((1 : Nat) : Int)) (fun w' H => One13_c w') fun po => ?_;refine aW fun g9 => ?_;refine sG ?_;refine eW ?_;refine goW ?_;have hst := fun w' (h1 : LsN w' (some ⟨bc, 0, none⟩) C) => Strip13_c (some ⟨bc, 0, none⟩) c (2 * B + 1) C w' h1 HE.out.2.1 (by omega) (by omega) (by rw [HE.out.2.2]; omega);rw [HE.out.2.2] at hst;have hlb2 := HU.out.2.2.2.2.2.1 (i + 1) h;rw [HE.out.1] at hlb2;have hlb2 : ∀ x ∈ stp C, wlen x.natAbs <= B := hlb2;have HST := Lib.hid (And.intro hst hlb2);clear hst hlb2;refine rW [] ?_;refine dW ?_;refine cR (α := (Option Addr × Nat) × P4) (mk := fun q => .tuple #[.slice q.1.1 c q.1.2, av q.2]) (ens := fun q => [.ls B q.1.1 (stp C), .own w.heap.size (av q.2) (stg C), .pr (∀ b o, q.1.1 = some ⟨b, o, none⟩ -> w.heap.size <= b)]) (fun w' H => by
      have hN : LsN w' (some ⟨bc, 0, none⟩) C := H.all (.lsn (some ⟨bc, 0, none⟩) C) (by simp);have hP : True /\ ∀ b o, (some ⟨bc, 0, none⟩ : Option Addr) = some ⟨b, o, none⟩ -> w.heap.size <= b := H.all (.pr (True /\ ∀ b o, (some ⟨bc, 0, none⟩ : Option Addr) = some ⟨b, o, none⟩ -> w.heap.size <= b)) (by simp);refine (HST.out.1 w' hN).mono fun e w'' ⟨⟨q, he, hq1, hq2, hq3⟩, hb⟩ => ⟨q, he, hb, fun e he => ?_⟩;rcases List.mem_cons.1 he with rfl | he
      · refine ⟨?_, rfl, fun b ⟨hl, o, e⟩ => ?_⟩
        · exact hq1.lsAt HST.out.2
        · rcases hq3 with q | q
          · refine .inr ⟨.lsn (some ⟨bc, 0, none⟩) C, by simp, rfl, ?_, o, q ▸ e⟩;rw [stp_length] at hl; exact hl
          · exact .inl (q b o e)
      · rcases List.mem_cons.1 he with rfl | he
        · exact ⟨OwnI.mono hq2 H.size, rfl, fun _ h => h.elim⟩
        · rcases List.mem_singleton.1 he with rfl;refine ⟨fun b o e => ?_, rfl, fun _ h => h.elim⟩;rcases hq3 with q | q
          · exact hP.2 b o (q ▸ e)
          · exact Nat.le_trans H.size (q b o e)) fun q => ?_
     simp only [av];refine dW ?_;refine dW ?_;refine dW ?_;refine dW ?_;refine sW ?_;refine eW ?_;refine goW ?_;refine rW [] ?_;refine dW ?_;refine dW ?_;refine cN (x := (F i).dn * stg C) (fun w' H => RMul_c (av pd1) (av q.2) (F i).dn (stg C) 34359738368 w' (OwnI.int (H.all (.own w.heap.size (av pd1) (F i).dn) (by simp [av])) (HU.out.1 i (by omega)).2) (OwnI.int (H.all (.own w.heap.size (av q.2) (stg C)) (by simp [av])) (Nat.le_trans (stg_wlen (by omega) HE.out.2.1) (by omega))) (by omega)) fun pd2 => ?_;refine sW ?_;refine eW ?_;refine goW ?_;refine prW (A := ∀ b o, q.1.1 = some ⟨b, o, none⟩ -> w.heap.size <= b) (by simp) fun hq => ?_;have HQ := Lib.hid hq;clear hq;refine rW [] ?_;refine dW ?_;refine dE (incB (a := i) (by omega)) ?_;refine dW ?_;refine eW ?_;refine goW ?_;exact backW (⟨i + 1, q.1.1, q.1.2, pu2, pd2⟩ : RsX) ⟨⟨h, .inr HQ.out⟩, by show k - (i + 1) < k - i; omega⟩ (he := by
      intro w' h;show Fr _ _ w' [.row g5 _ _, .row g6 _ _, .own w.heap.size (av pu2) (F (i + 1)).up, .own w.heap.size (av pd2) (F (i + 1)).dn, .ls B q.1.1 (F (i + 1)).l, _, _, _, _, _];rw [HE.out.1];show Fr _ _ w' [.row g5 _ _, .row g6 _ _, .own w.heap.size (av pu2) ((F i).up * Rts R i j), .own w.heap.size (av pd2) ((F i).dn * stg C), .ls B q.1.1 (stp C), _, _, _, _, _];rw [HR.out.2];exact h.pick (by repeat (first | exact Pk.n | refine Pk.c (by repeat (first | exact Rm.z | apply Rm.s)) ?_)))
 · obtain rfl : i = k := by omega
   refine goW ?_;refine rW [] ?_;refine dW ?_;refine dW ?_;refine dW ?_;refine dW ?_;refine dW ?_;refine dW ?_;refine dB false ?_;refine eW ?_;refine goW ?_;refine cfW ?_;refine goW ?_;refine rW [[], [], [0]] ?_;refine dH ?_;refine dH ?_;refine dH ?_;refine dH ?_;refine sW ?_;refine sW ?_;refine eW ?_;refine goW ?_;refine fin3 fun w' H => ?_;exact ⟨_, _, _, rvT, rvI (H.all (.row g5 37 [.bool pu1.1, .slice pu1.2.1 pu1.2.2.1 pu1.2.2.2]) (by simp)), rvI (H.all (.row g6 37 [.bool pd1.1, .slice pd1.2.1 pd1.2.2.1 pd1.2.2.2]) (by simp)), ⟨((ao1, cap1), pu1, pd1), rfl, H.all (.ls B ao1 (F i).l) (by simp), H.all (.own w.heap.size (av pu1) (F i).up) (by simp), H.all (.own w.heap.size (av pd1) (F i).dn) (by simp), HB.out⟩, H.below⟩
section
variable {ops : Array Oper} {Q : Exit -> Act -> World -> Prop} {S0 : Nat -> Prop} {w0 : World} {E0 : List En} {n j s : Nat} {l : List Nat} {G E : List En} {ls : List (Nat × Value)} {ty : TypeId} {pos : String} {af : Array Edge}
set_option maxRecDepth 100000 in
theorem slW {sx sl sh : Operand} (a : Option Addr) (len cap x y : Nat) (v : Value) (hxy : x <= y) (hy : y <= cap) (hv : sliced a x y cap 2 = v) (k : RWs ⟨Tryz.prog, ops, Q, S0, w0, E0, []⟩ n l G E ((s, v) :: ls))
 (ho : ops[j]? = some ⟨some s, .slice 22 sx (some sl) (some sh) none, ty, pos, af, none⟩ := by rfl) (hk : (isDet (.slice 22 sx (some sl) (some sh) none) && chkO ls (.slice 22 sx (some sl) (some sh) none) && Nat.blt s n) = true := by kernel_rfl)
 (h1 : evl ls sx = .slice a len cap := by (simp only [evlN, Nat.reduceEqDiff, ↓reduceIte]) <;> rfl) (h2 : evl ls sl = .int .i64 (x : Int) := by (simp only [evlN, Nat.reduceEqDiff, ↓reduceIte]) <;> rfl) (h3 : evl ls sh = .int .i64 (y : Int) := by (simp only [evlN, Nat.reduceEqDiff, ↓reduceIte]) <;> rfl) : RWs ⟨Tryz.prog, ops, Q, S0, w0, E0, []⟩ n (j :: l) G E ls := by
 refine dW k ho hk fun w _ => ?_;subst hv;obtain ⟨i, hi, hz, hs, hbt⟩ := info_parts info_Int;have e := run_slice_lh (P := Tryz.prog) w 22 a len cap Tryz.underlying22 .i64 .i64 (x : Int) (y : Int) (by omega) (by omega) (by omega);have e2 := run_sliceAt_slice (P := Tryz.prog) w 22 (.slice a len cap) (some (.int .i64 (x : Int))) (some (.int .i64 (y : Int))) none Tryz.underlying22;have e3 : (sizeOf (Tryz.prog.elem 22)).run Tryz.prog w = .ok 2 w := by go_simp <;> rfl
 rw [e3] at e;simp only [Int.toNat_natCast, Result.andThen] at e;simp [execOp, h1, h2, h3, e2, e, Result.andThen]
end
theorem sliced_row {b o c i cap : Nat} (hc : 0 < c) (h : (i + 1) * c <= cap) : sliced (some ⟨b, o, none⟩) (i * c) ((i + 1) * c) cap 2 = .slice (some ⟨b, o + i * c * 2, none⟩) c (cap - i * c) := by
 have e : (i + 1) * c = i * c + c := Nat.succ_mul i c;unfold sliced;rw [if_neg (by omega), Option.map_some, Go.WideShapes.add_plain, e, Nat.add_sub_cancel_left]
theorem rowOf_gi {xs : List Int} {r c i j : Nat} (hs : xs.length = r * c) (hi : i < r) (hj : j < c) : (rowOf xs c i).length = c /\ gi (rowOf xs c i) j = gi xs (i * c + j) := by
 have hl := rowOf_length hs hi;refine ⟨hl, ?_⟩;unfold gi; exact getD_rowOf xs c i j hj
theorem row_at {w : World} {L b o r c i : Nat} {xs : List Int} (h : LsAt w L (some ⟨b, o, none⟩) xs) (hs : xs.length = r * c) (hi : i < r) : LsAt w L (some ⟨b, o + i * c * 2, none⟩) (rowOf xs c i) := fun hp => by
 have hl := rowOf_length hs hi;have hlt : ∀ j, j < c -> i * c + j < xs.length := fun j hj => by rw [hs]; exact idx_lt hi hj
 obtain ⟨b', o', e, hb, hc⟩ := h (by have := hlt 0 (by omega); omega);cases e;refine ⟨b, o + i * c * 2, rfl, hb, fun j hj => ?_⟩;rw [hl] at hj;obtain ⟨p, h0, h1, hI⟩ := hc (i * c + j) (hlt j hj);refine ⟨p, ?_, ?_, ?_⟩
 · rw [show o + i * c * 2 + j * 2 = o + (i * c + j) * 2 by rw [Nat.add_mul, Nat.add_assoc]]; exact h0
 · rw [show o + i * c * 2 + j * 2 + 1 = o + (i * c + j) * 2 + 1 by rw [Nat.add_mul, Nat.add_assoc o]]; exact h1
 · have := (rowOf_gi hs hi hj).2;rw [gi_eq (by omega), gi_eq (hlt j hj)] at this;rw [this]; exact hI
set_option maxRecDepth 100000 in
set_option maxHeartbeats 1000000 in
theorem Row13_c (r c i L cap : Nat) (ao : Option Addr) (xs : List Int) (w : World) (hr : r <= 64) (hc : c <= 64) (hA : LsAt w L ao xs) (hs : xs.length = r * c) (hcap : r * c <= cap) (hi : i < r) :
 Calls Tryz.prog 24 #[.agg #[.int .i64 (r : Int), .int .i64 (c : Int), .slice ao (r * c) cap], .int .i64 (i : Int)] w fun e w' => (∃ q : Option Addr × Nat, e = .returned (.slice q.1 c q.2) /\ LsAt w' L q.1 (rowOf xs c i) /\ (0 < c -> ∀ b o, q.1 = some ⟨b, o, none⟩ -> ∃ o', ao = some ⟨b, o', none⟩)) /\ Below w.heap.size w w' := by
 have hic : i * c <= 4096 := Nat.mul_le_mul (show i <= 64 by omega) hc;have hic1 : (i + 1) * c <= r * c := Nat.mul_le_mul_right c hi;have hrc : r * c <= 4096 := Nat.mul_le_mul hr hc;have e1 : (i + 1) * c = i * c + c := Nat.succ_mul i c;have HM := Lib.hid (And.intro hic (And.intro hic1 (And.intro hrc (And.intro e1 (And.intro hcap hs)))));have HR := Lib.hid (fun w' b o h => row_at (w := w') (L := L) (b := b) (o := o) h hs hi);have HL := Lib.hid (rowOf_length hs hi);obtain ⟨m, hm⟩ : ∃ m, r * c = m := ⟨_, rfl⟩;rw [hm] at HM ⊢;clear hic hic1 hrc e1 hcap hs hm;refine funW (S0 := fun _ => False) Tryz.func24 ((Fr.nil _ w).l hA (by simp)) ?_;refine goW ?_;refine rW [] ?_;refine aW fun g2 => ?_;refine dW ?_;refine eW ?_;refine goW ?_;refine rW [] ?_;refine dW ?_;refine dW ?_;refine dW ?_;refine dW ?_;refine dW ?_;refine dE (mulI (a := i) (b := c) (by have := HM.out.1; omega)) ?_;refine dW ?_;refine dE (incB (a := i) (by omega)) ?_;refine dW ?_;refine dW ?_;refine dE (mulI (a := i + 1) (b := c) (by have := HM.out.2.1; have := HM.out.2.2.1; omega)) ?_;by_cases h0 : c = 0
 · subst h0;have hm0 : (i + 1) * 0 = 0 := Nat.mul_zero _;obtain ⟨ax, hax⟩ : ∃ ax, sliced ao (i * 0) ((i + 1) * 0) cap 2 = .slice ax 0 cap := ⟨(if cap = 0 then ao else ao.map (·.add 0)), by unfold sliced; simp⟩;refine slW ao m cap (i * 0) ((i + 1) * 0) (.slice ax 0 cap) (by omega) (by omega) hax ?_;refine dW ?_;refine eW ?_;refine goW ?_;refine fin1 fun w' H => ?_;exact ⟨_, rvT, ⟨(ax, cap), rfl, fun h => by rw [HL.out] at h; omega, fun h => by omega⟩, H.below⟩
 · have hpos : 0 < xs.length := by rw [HM.out.2.2.2.2.2]; have := HM.out.2.1; have := HM.out.2.2.2.1; omega
   obtain ⟨bx, ox, rfl⟩ := hA.pos (i := 0) hpos;refine slW (some ⟨bx, ox, none⟩) m cap (i * c) ((i + 1) * c) (.slice (some ⟨bx, ox + i * c * 2, none⟩) c (cap - i * c)) (by have := HM.out.2.2.2.1; omega) (by have := HM.out.2.1; have := HM.out.2.2.2.2.1; omega) (sliced_row (by omega) (by have := HM.out.2.1; have := HM.out.2.2.2.2.1; omega)) ?_;refine dW ?_;refine eW ?_;refine goW ?_;refine fin1 fun w' H => ?_;exact ⟨_, rvT, ⟨(some ⟨bx, ox + i * c * 2, none⟩, cap - i * c), rfl, HR.out w' bx ox (H.all (.ls L (some ⟨bx, ox, none⟩) xs) (by simp)), fun _ b o e => by cases e; exact ⟨ox, rfl⟩⟩, H.below⟩
structure Sta where
 ra : Option Addr
 rc : Nat
 la : Option Addr
 lc : Nat
 hs : List (Option Addr × Nat)
 R : List (List Int)
 p : List Nat
def StaF (gs c : Nat) (z : Sta) (w : World) : Prop := RowAt w gs 56 [.slice z.ra z.R.length z.rc, .slice z.la z.R.length z.lc] /\ LgF 22 1 z.ra z.R.length z.rc (rcs c z.hs) w /\ LgF 3 1 z.la z.R.length z.lc (z.p.map fun x : Nat => Value.int .i64 (x : Int)) w /\
 (∀ b o, z.ra = some ⟨b, o, none⟩ -> b ≠ gs) /\ (∀ b o, z.la = some ⟨b, o, none⟩ -> b ≠ gs) /\ (∀ b o b' o', z.ra = some ⟨b, o, none⟩ -> z.la = some ⟨b', o', none⟩ -> b ≠ b')
def StaS (gs : Nat) (z : Sta) (g : Nat) : Prop := g = gs ∨ (∃ o, z.ra = some ⟨g, o, none⟩) ∨ ∃ o, z.la = some ⟨g, o, none⟩
theorem StaF.lt {gs c : Nat} {z : Sta} {w : World} (h : StaF gs c z w) : ∀ b, StaS gs z b -> b < w.heap.size := fun b hb => by
 obtain ⟨h1, h2, h3, _⟩ := h;rcases hb with rfl | ⟨o, e⟩ | ⟨o, e⟩
 · exact h1.lt
 · obtain ⟨_, _, ⟨q, _⟩ | ⟨b', tl, q, _, hr, _⟩⟩ := h2
   · rw [e] at q; cases q
   · rw [e] at q; cases q; exact hr.lt
 · obtain ⟨_, _, ⟨q, _⟩ | ⟨b', tl, q, _, hr, _⟩⟩ := h3
   · rw [e] at q; cases q
   · rw [e] at q; cases q; exact hr.lt
theorem LgF.chg {te : TypeId} {sz : Nat} {ao : Option Addr} {k cap : Nat} {cs : List Value} {w w' : World} {T : Nat -> Prop} (h : LgF te sz ao k cap cs w) (hc : Chg T w w') (hs : ∀ b o, ao = some ⟨b, o, none⟩ -> ¬ T b) : LgF te sz ao k cap cs w' := by
 obtain ⟨h1, h2, h⟩ := h;exact ⟨h1, h2, h.imp id fun ⟨b, tl, e, hn, hr, hl⟩ => ⟨b, tl, e, hn, hc.row hr (hs b 0 e), hl⟩⟩
theorem StaF.keep {gs c : Nat} {z : Sta} {w w' : World} {T : Nat -> Prop} (h : StaF gs c z w) (hc : Chg T w w') (hs : ∀ b, StaS gs z b -> ¬ T b) : StaF gs c z w' :=
 ⟨hc.row h.1 (hs gs (.inl rfl)), h.2.1.chg hc fun b o e => hs b (.inr (.inl ⟨o, e⟩)), h.2.2.1.chg hc fun b o e => hs b (.inr (.inr ⟨o, e⟩)), h.2.2.2⟩
abbrev En.sta (gs c : Nat) (z : Sta) : En := .fact false true (StaS gs z) (StaF gs c z) (fun h => h.lt) (fun h hc _ hs => h.keep hc hs)
theorem rcs_now (c : Nat) (hs : List (Option Addr × Nat)) : NoW (rcs c hs) := fun v hv n h => by
 unfold rcs at hv;obtain ⟨x, _, rfl⟩ := List.mem_map.1 hv;cases h
theorem ils_now (p : List Nat) : NoW (p.map fun x : Nat => Value.int .i64 (x : Int)) := fun v hv n h => by
 obtain ⟨x, _, rfl⟩ := List.mem_map.1 hv;cases h
theorem StaF.wl {gs c : Nat} {z : Sta} {w : World} (h : StaF gs c z w) : Wl (StaS gs z) w := fun g hg => by
 obtain ⟨h1, h2, h3, _⟩ := h;rcases hg with rfl | ⟨o, e⟩ | ⟨o, e⟩
 · exact ⟨_, _, h1, NoW.slice (NoW.slice NoW.nil), by decide⟩
 · obtain ⟨_, _, ⟨q, _⟩ | ⟨b', tl, q, hn, hr, _⟩⟩ := h2
   · rw [e] at q; cases q
   · rw [e] at q; cases q; exact ⟨_, _, hr, (rcs_now c z.hs).append hn, by decide⟩
 · obtain ⟨_, _, ⟨q, _⟩ | ⟨b', tl, q, hn, hr, _⟩⟩ := h3
   · rw [e] at q; cases q
   · rw [e] at q; cases q; exact ⟨_, _, hr, (ils_now z.p).append hn, by decide⟩
section
variable {P : Program} {ops : Array Oper} {Q : Exit -> Act -> World -> Prop} {S0 : Nat -> Prop} {w0 : World} {E0 : List En} {hd : List (List Nat)} {n j s : Nat} {l : List Nat} {G E : List En} {ls : List (Nat × Value)} {op : Op} {ty : TypeId} {pos : String} {af : Array Edge} {f : FuncId} {args : Array Value}
theorem cUR {α : Type} {mk : α -> Value} {e : En} {e' : α -> En} {ens : α -> List En} {i : Nat} {E' : α -> List En}
 (c : ∀ w, Fr S0 w0 w (G ++ E) -> Calls P f args w fun r w' => ∃ p, r = .returned (mk p) /\ Chg e.S w w' /\ (e' p).F w' /\ (∀ b, (e' p).S b -> e.S b ∨ w.heap.size <= b) /\ ∀ x ∈ ens p, x.F w' /\ x.wr = false /\ ∀ b, x.S b -> (w.heap.size <= b ∨ ∃ e1 ∈ G ++ E, e1.wr = false /\ e1.S b) /\ ¬ (e' p).S b)
 (hwl : ∀ w, e.F w -> Wl e.S w)
 (k : ∀ p, RWs ⟨P, ops, Q, S0, w0, E0, hd⟩ n l (ens p ++ G) (E' p) ((s, mk p) :: ls))
 (hwr : e.wr = true := by rfl) (hne : Nonempty α := by infer_instance)
 (ho : ops[j]? = some ⟨some s, op, ty, pos, af, none⟩ := by rfl) (hk : (!isDet op && !isNew op && chkO ls op && Nat.blt s n) = true := by kernel_rfl)
 (hr : ∀ w, (execOp (evl ls) ⟨some s, op, ty, pos, af, none⟩).run P w = .ok (.enter f args) w := by intro w; (try simp only [av]); go_simp <;> with_reducible rfl)
 (hE : ∀ p, Up e (e' p) i E (E' p) := by intro p; repeat first | exact .z | apply Up.s)
 (hst : okSt ops hd j [i] = true := by kernel_rfl) : RWs ⟨P, ops, Q, S0, w0, E0, hd⟩ n (j :: l) G E ls := fun a ha => by
 simp only [Bool.and_eq_true, Bool.not_eq_true'] at hk;refine ⟨_, ho, .inr (.inr ⟨hk.1.1.1, hk.1.1.2, α, mk, fun p => ens p ++ G, E', [i], hne, fun X w hX hw => ?_, hst, fun p r hr => (hE p).other (by simpa using hr), fun p => k p _ (ha.put (Nat.le_of_ble_eq_true hk.2) _)⟩)⟩;refine ifw rfl ?_;show wpR P _ ((execOp a.eval _).run P w);rw [ha.exec hk.1.2, hr w];refine (c w (hw.sub (List.sublist_append_right ..))).mono ?_;rintro r w' ⟨p, rfl, hc, hF, hS, hens⟩;obtain ⟨m, h1, h2⟩ := (hE p).right' X G;have h0 := hw.perm h1;have h3 : Fr S0 w0 w' (e' p :: m) := h0.upd hwr (e' := e' p) hc (fun x hx hl => hwl w h0.m0) (fun _ h => h) hF hS;have h4 : ∀ Y : List En, (∀ x ∈ Y, x ∈ ens p) -> Fr S0 w0 w' (Y ++ (e' p :: m)) := by
  intro Y;induction Y with
  | nil => intro _; exact h3
  | cons x Y ih =>
   intro hY;have h5 := ih fun y hy => hY y (List.mem_cons_of_mem _ hy);obtain ⟨q1, q2, q3⟩ := hens x (hY x (List.mem_cons_self ..));refine h5.cons q1 (fun e0 he0 => ⟨(fun q => by rw [q2] at q; cases q), fun hw0 b hb hb' => ?_⟩) (fun q => by rw [q2] at q; cases q);rcases List.mem_append.1 he0 with he0 | he0
   · rw [(hens e0 (hY e0 (List.mem_cons_of_mem _ he0))).2.1] at hw0; cases hw0
   · rcases List.mem_cons.1 he0 with rfl | he0
     · exact (q3 b hb').2 hb
     · have hold := h1.mem_iff.2 (List.mem_cons_of_mem e he0);rcases (q3 b hb').1 with q | ⟨e1, q, q', q''⟩
       · have := En.lt (hw.all e0 hold) b hb; omega
       · exact hw.apart hold (List.mem_append_right _ q) hw0 q' hb q''
 refine ⟨_, rfl, p, rfl, ?_⟩;have h5 := Fr.perm (h4 (ens p) fun _ h => h) ((List.Perm.refl (ens p)).append h2.symm);refine h5.perm ?_;rw [List.append_assoc];exact (List.perm_append_comm_assoc (ens p) X (G ++ E' p))
end
theorem info_S : (Tryz.prog.info? 22).map (fun i => (i.zero, i.size, i.bytes)) = some (some (.slice none 0 0), 1, 24) := by kernel_rfl
theorem info_I : (Tryz.prog.info? 3).map (fun i => (i.zero, i.size, i.bytes)) = some (some (.int .i64 0), 1, 8) := by kernel_rfl
theorem zc_one (z : Value) (hz : z.cells = #[z]) (hn : ∀ n, z ≠ .int .u64 n) (n : Nat) : NoW (Builtin.zeroCells z.cells n).toList := by
 rw [hz];intro v hv k;unfold Builtin.zeroCells at hv;simp only [Array.toList_map, List.mem_map, Array.mem_toList_iff, Array.mem_range] at hv;obtain ⟨i, _, rfl⟩ := hv;have h2 : i % 1 = 0 := Nat.mod_one i;simp [h2];exact hn k
set_option maxRecDepth 100000 in
set_option maxHeartbeats 4000000 in
theorem reduced_c (o cap B c k : Nat) (R R' : List Hd) (w : World) (h : MatN w o R) (hB : B <= 4000000000000) (hP : RedT B c 0 R.length R k R') (hR : R.length <= 100000) (hc : c <= 1000000) :
 Calls Tryz.prog 15 #[.slice (some ⟨o, 0, none⟩) R.length cap] w fun e w' => e = .returned (.tuple #[.slice (some ⟨o, 0, none⟩) R'.length cap, .int .i64 (k : Int)]) /\ MatN w' o R' /\ Chg (fun q => q = o ∨ ∃ r ∈ R, r.blk = q) w w' := by
 have HM := Lib.hid h; clear h;have HP := Lib.hid hP; clear hP;go_enter Tryz.func15, Tryz.ntmps15;go_wp2_with fail
 refine (New_c o cap R _ HM.out).mono ?_;rintro e w2 ⟨⟨lb, sb, g, rfl, hL, h1, h2, h3⟩, hb2⟩;have HL := Lib.hid hL; clear hL;have HB2 := Lib.hid hb2; clear hb2;go_wp2_with fail
 refine (Reduce_c ⟨lb, o, sb, g, cap, R, none⟩ B c k R' _ HL.out hB HP.out hR hc (fun t h => by cases h)).mono ?_;rintro e w3 ⟨rfl, hL3, hC3⟩;have L3 := Lib.hid hL3;have C3 : Hid (Chg (fun q => q = o ∨ ∃ r ∈ R, r.blk = q) w w3) := Lib.hid ((Chg.of_below HB2.out).trans (hC3.mono (fun q _ e => by rcases e with e | ⟨t, ht, _⟩; exact e; cases ht)));have cb : w3.cell? ⟨lb, 0, none⟩ = some (.slice (some ⟨o, 0, none⟩) R'.length cap) := L3.out.lad.cell 0;clear hL3 hC3;go_wp2;refine bodyPost_ret (results_tmp2 (t := 2) (u := 3) (by kernel_rfl) _ _ _) rfl ?_;exact ⟨rfl, L3.out.mat, C3.out⟩
theorem results_mat {fn : Func} {p : Tmp} (h : fn.results = #[.cell p 24]) (tmps : Array Value) (w : World) (g : Nat) (a b c : Value) (hp : tmps.getD p undef = .pointer (some ⟨g, 0, none⟩)) (hr : RowAt w g 24 [a, b, c]) :
 (results fn tmps).run Tryz.prog w = .ok (.agg #[a, b, c]) w :=
 results_cell_row h tmps w g 24 #[a, b, c] (0, 0) _ hp hr Tryz.underlying24 rfl (by kernel_rfl)
structure RowsAt (w : World) (L o : Nat) (xss : List (List Int)) : Prop where
 lt : o < w.heap.size
 row : ∀ i (h : i < xss.length), ∃ ao cap, w.cell? ⟨o, i, none⟩ = some (.slice ao xss[i].length cap) /\ LsAt w L ao xss[i]
structure MatI (w : World) (b m n c N : Nat) (cu : List Int) (W : World) : Prop where
 box : RowAt W m 24 [.int .i64 (n : Int), .int .i64 (c : Int), .slice (some ⟨b, 0, none⟩) cu.length N]
 row : RowN W b (cu ++ List.replicate (N - cu.length) 0)
 res : RowAt W w.heap.size 24 [.int .i64 0, .int .i64 0, .slice none 0 0]
 bel : Below w.heap.size w W
theorem MatI.app {w : World} {b m n c N k : Nat} {cu : List Int} {W : World} (h : MatI w b m n c N cu W) (hb : w.heap.size < b /\ b < m) (hk : cu.length = k) (hkN : k + 1 <= N) {p : P4} {x : Int} (hx : NumAt W (av p) x) (W2 : World)
 (e : (W.alloc (.cells #[.bool p.1, .slice p.2.1 p.2.2.1 p.2.2.2] 37)).setCells b (k * 2) [.bool p.1, .slice p.2.1 p.2.2.1 p.2.2.2] = W2) :
 RowAt W2 m 24 [.int .i64 (n : Int), .int .i64 (c : Int), .slice (some ⟨b, 0, none⟩) k N] /\ MatI w b m n c N (cu ++ [x]) (W2.setCell ⟨m, 2, none⟩ (.slice (some ⟨b, 0, none⟩) (k + 1) N)) := by
 have hb1 : Below W.heap.size W (W.alloc (.cells #[.bool p.1, .slice p.2.1 p.2.2.1 p.2.2.2] 37)) := (Below.refl _ _).alloc (Nat.le_refl _) _;generalize W.alloc (.cells #[.bool p.1, .slice p.2.1 p.2.2.1 p.2.2.2] 37) = W1 at *;subst hk;have hx1 := hx.below hb1;have hr1 := h.row.below hb1;have hm1 := h.box.below hb1 h.box.lt;have hs1 := h.res.below hb1 h.res.lt;have hB1 := h.bel.trans (hb1.mono h.bel.size);have e2 : (W1.setCell ⟨b, cu.length * 2, none⟩ (.bool p.1)).setCell ⟨b, cu.length * 2 + 1, none⟩ (.slice p.2.1 p.2.2.1 p.2.2.2) = W2 := by rw [<- e]; rfl
 have hr2 : RowN W2 b ((cu ++ List.replicate (N - cu.length) 0).set cu.length x) := by rw [<- e2]; exact hr1.set cu.length hx1
 have hne : m ≠ b := by omega
 have hm2 : RowAt W2 m 24 [.int .i64 (n : Int), .int .i64 (c : Int), .slice (some ⟨b, 0, none⟩) cu.length N] := by
  rw [<- e2]; exact (hm1.other (p := ⟨b, cu.length * 2, none⟩) hne _).other (p := ⟨b, cu.length * 2 + 1, none⟩) hne _
 have hs2 : RowAt W2 w.heap.size 24 [.int .i64 0, .int .i64 0, .slice none 0 0] := by
  rw [<- e2]; exact (hs1.other (p := ⟨b, cu.length * 2, none⟩) (by show w.heap.size ≠ b; omega) _).other (p := ⟨b, cu.length * 2 + 1, none⟩) (by show w.heap.size ≠ b; omega) _
 have hB2 : Below w.heap.size w W2 := by
  rw [<- e2]; exact (hB1.setCell (p := ⟨b, cu.length * 2, none⟩) (Nat.le_of_lt hb.1) _).setCell (p := ⟨b, cu.length * 2 + 1, none⟩) (Nat.le_of_lt hb.1) _
 refine ⟨hm2, ?_, ?_, ?_, ?_⟩
 · have := hm2.set 2 (.slice (some ⟨b, 0, none⟩) (cu.length + 1) N);simpa using this
 · have e3 : (cu ++ List.replicate (N - cu.length) 0).set cu.length x = (cu ++ [x]) ++ List.replicate (N - (cu ++ [x]).length) 0 := by
    obtain ⟨q, hq⟩ : ∃ q, N - cu.length = q + 1 := ⟨N - cu.length - 1, by omega⟩;have hq2 : N - (cu ++ [x]).length = q := by simp; omega
    rw [hq, hq2, List.replicate_succ, List.set_append_right _ _ (Nat.le_refl _)];simp
   rw [<- e3];exact hr2.setFar hm2 (by decide) (NoW.mat (n : Int) (c : Int) _ _ _) 2 _
 · exact hs2.other (p := ⟨m, 2, none⟩) (by show w.heap.size ≠ m; omega) _
 · exact hB2.setCell (p := ⟨m, 2, none⟩) (by show w.heap.size <= m; omega) _
theorem two_cells (w : World) (x y : Value) (t : TypeId) : ∀ j u, [x, y][j]? = some u -> (w.alloc (.cells #[x, y] t)).cell? ((⟨w.heap.size, 0, none⟩ : Addr).add j) = some u := by
 intro j u hj;have := (RowAt.new w #[x, y] t).cell j;have e : ((⟨w.heap.size, 0, none⟩ : Addr).add j) = ⟨w.heap.size, j, none⟩ := by unfold Addr.add; simp; omega
 rw [e, this]; exact hj
theorem MatI.spare {w : World} {b m n c N k : Nat} {cu : List Int} {W : World} (h : MatI w b m n c N cu W) (hk : cu.length = k) (hkN : k + 1 <= N) (X : Obj) (j : Nat) (hj : j < 2) : ((W.alloc X).cell? ⟨b, 0 + k * 2 + j, none⟩).isSome = true /\ (W.alloc X).frozen? ⟨b, 0 + k * 2 + j, none⟩ = false := by
 have hb1 : Below W.heap.size W (W.alloc X) := (Below.refl _ _).alloc (Nat.le_refl _) _;have hr1 := h.row.below hb1;refine ⟨?_, hr1.free _⟩;obtain ⟨q, h0, h1, _⟩ := hr1.get (i := k) (by simp [hk]; omega);have hj2 : j = 0 ∨ j = 1 := by omega
 rcases hj2 with rfl | rfl
 · rw [Nat.zero_add, Nat.add_zero, h0]; rfl
 · rw [Nat.zero_add, h1]; rfl
theorem flatten_len {xss : List (List Int)} {c : Nat} (hc : ∀ x ∈ xss, x.length = c) : xss.flatten.length = xss.length * c := by
 induction xss with
 | nil => simp
 | cons x xs ih =>
  rw [List.flatten_cons, List.length_append, ih (fun y hy => hc y (List.mem_cons_of_mem _ hy)), hc x (List.mem_cons_self ..), List.length_cons, Nat.succ_mul]; omega
theorem flatten_take_len {xss : List (List Int)} {c i : Nat} (hc : ∀ x ∈ xss, x.length = c) (hi : i <= xss.length) : (xss.take i).flatten.length = i * c := by
 rw [flatten_len (fun x hx => hc x (List.mem_of_mem_take hx)), List.length_take, Nat.min_eq_left hi]
theorem flatten_take_succ {xss : List (List Int)} {i : Nat} (hi : i < xss.length) : (xss.take (i + 1)).flatten = (xss.take i).flatten ++ xss[i] := by
 rw [List.take_succ_eq_append_getElem hi, List.flatten_append]; simp
set_option maxRecDepth 100000 in
set_option maxHeartbeats 4000000 in
theorem matrix_c (o cap n c : Nat) (xss : List (List Int)) (w : World) (h : RowsAt w 17592186044415 o xss) (hn : xss.length = n) (hc : ∀ x ∈ xss, x.length = c) (hn1 : n <= 10000) (hc1 : c <= 10000) :
 Calls Tryz.prog 17 #[.slice (some ⟨o, 0, none⟩) n cap, .int .i64 (c : Int)] w fun e w' => (∃ b, e = .returned (.agg #[.int .i64 (n : Int), .int .i64 (c : Int), .slice (some ⟨b, 0, none⟩) (n * c) (n * c)]) /\ w.heap.size <= b /\ RowN w' b xss.flatten) /\ Below w.heap.size w w' := by
 have hnc : n * c <= 100000000 := Nat.mul_le_mul hn1 hc1;have hw1 : wrap64 ((n : Int) * (c : Int)) = ((n * c : Nat) : Int) := by
  rw [<- Int.natCast_mul]; unfold wrap64; omega
 obtain ⟨N, hN⟩ : ∃ N, n * c = N := ⟨_, rfl⟩;rw [hN] at hw1 hnc ⊢;have HN := Lib.hid hN; clear hN;have HX := Lib.hid h; clear h;go_enter Tryz.func17, Tryz.ntmps17;go_wp2_with (at_make; refine mk_nums rfl _ _ rfl 0 N rfl rfl rfl (by omega) (Nat.zero_le _) (by omega) ?_; intro b w1 hm1)
 have hI : MatI w b w1.heap.size n c N [] (w1.alloc (.cells #[.int .i64 (n : Int), .int .i64 (c : Int), .slice (some ⟨b, 0, none⟩) 0 N] 24)) := by
  have h0 := RowAt.new w #[.int .i64 0, .int .i64 0, .slice none 0 0] 24;have hb0 : Below w.heap.size w (w.alloc (.cells #[.int .i64 0, .int .i64 0, .slice none 0 0] 24)) := (Below.refl _ _).alloc (Nat.le_refl _) _;have hb1 : Below w1.heap.size w1 (w1.alloc (.cells #[.int .i64 (n : Int), .int .i64 (c : Int), .slice (some ⟨b, 0, none⟩) 0 N] 24)) := (Below.refl _ _).alloc (Nat.le_refl _) _;refine ⟨RowAt.new _ _ _, ?_, ?_, ?_⟩
  · simpa using (RowN.zeros hm1.row).below hb1
  · exact (h0.below hm1.below h0.lt).alloc _
  · exact (hb0.trans (hm1.below.mono hb0.size)).trans (hb1.mono (Nat.le_trans hb0.size hm1.below.size))
 have hbl : w.heap.size < b /\ b < w1.heap.size := by
  have h1 := hm1.at_; have h2 := hm1.size; rw [World.size_alloc] at h1 h2; omega
 have HI := Lib.hid hI; clear hI;clear hm1;generalize w1.alloc (.cells #[.int .i64 (n : Int), .int .i64 (c : Int), .slice (some ⟨b, 0, none⟩) 0 N] 24) = w2 at *;obtain ⟨m, hm⟩ : ∃ m, w1.heap.size = m := ⟨_, rfl⟩;rw [hm] at hbl HI ⊢;clear hm;have HC := Lib.hid hc; clear hc;go_loopw [21] (fun i_ wr => ∃ (i : Nat), i <= n /\ i_ = .int .i64 (i : Int) /\ Hid (MatI w b m n c N (xss.take i).flatten wr)) (fun i_ _ => n - (intOf i_).toNat)
 case atStart => exact ⟨0, Nat.zero_le _, rfl, Lib.hid (by simpa using HI.out)⟩
 case round =>
  obtain ⟨i, hi, rfl, hIr⟩ := hrel;by_cases hin : i < n
  · have hix : i < xss.length := by omega
    have hin1 : (i : Int) < (n : Int) := by omega
    obtain ⟨ra, rc, hroww, hls⟩ := HX.out.row i hix;have hrow0 := (hIr.out.bel.cell (p := ⟨o, i, none⟩) HX.out.lt).trans hroww;clear hroww;have hxl : xss[i].length = c := HC.out _ (List.getElem_mem hix);rw [hxl] at hrow0;have HXL := Lib.hid hxl; clear hxl;have HLS := Lib.hid hls; clear hls;have hmul : (i + 1) * c <= N := by rw [<- HN.out]; exact Nat.mul_le_mul_right _ hin
    have hmul2 : (i + 1) * c = i * c + c := Nat.succ_mul i c;have hfl : (xss.take i).flatten.length = i * c := flatten_take_len HC.out (by omega);have HFL := Lib.hid hfl; clear hfl;have HM := Lib.hid (And.intro hmul hmul2); clear hmul hmul2;go_wp2;go_loopw [27] (fun j_ wq => ∃ (j : Nat), j <= c /\ j_ = .int .i64 (j : Int) /\ Hid (MatI w b m n c N ((xss.take i).flatten ++ xss[i].take j) wq)) (fun j_ _ => c - (intOf j_).toNat)
    case atStart => exact ⟨0, Nat.zero_le _, rfl, Lib.hid (by simpa using hIr.out)⟩
    case round =>
     obtain ⟨j, hj, rfl, hIq⟩ := hrel;by_cases hjc : j < c
     · have hjc1 : (j : Int) < (c : Int) := by omega
       have hjx : j < xss[i].length := by rw [HXL.out]; exact hjc
       obtain ⟨k, hk⟩ : ∃ k, i * c + j = k := ⟨_, rfl⟩;have hkN : k + 1 <= N := by have := HM.out; omega
       obtain ⟨cu, hcu⟩ : ∃ cu, (xss.take i).flatten ++ xss[i].take j = cu := ⟨_, rfl⟩;rw [hcu] at hIq;have hcl : cu.length = k := by rw [<- hcu, List.length_append, HFL.out, List.length_take, Nat.min_eq_left (by omega)]; exact hk
       have hcu2 : (xss.take i).flatten ++ xss[i].take (j + 1) = cu ++ [xss[i][j]] := by
        rw [List.take_succ_eq_append_getElem hjx, <- List.append_assoc, hcu]
       obtain ⟨x, hx⟩ : ∃ x, xss[i][j] = x := ⟨_, rfl⟩;obtain ⟨ab, aoff, hra, hab, hcells⟩ := (HLS.out.below hIq.out.bel) (by omega);subst hra;obtain ⟨px, cx0, cx1, hnx⟩ := hcells j hjx;rw [hx] at hnx hcu2;have HCU := Lib.hid hcu2; clear hcu2 hcu hcells hx;have HK := Lib.hid hk; clear hk;have hb1 : Below wr.heap.size wr (wr.alloc (.cells #[.bool px.1, .slice px.2.1 px.2.2.1 px.2.2.2] 37)) := (Below.refl _ _).alloc (Nat.le_refl _) _;have Hnx := Lib.hid (hnx.below hb1); clear hnx;have hIa : MatI w b m n c N cu (wr.alloc (.cells #[.bool px.1, .slice px.2.1 px.2.2.1 px.2.2.2] 37)) :=
        ⟨hIq.out.box.below hb1 hIq.out.box.lt, hIq.out.row.below hb1, hIq.out.res.below hb1 hIq.out.res.lt, hIq.out.bel.trans (hb1.mono hIq.out.bel.size)⟩
       have HIa := Lib.hid hIa; clear hIa;have hxr := RowAt.new wr #[.bool px.1, .slice px.2.1 px.2.2.1 px.2.2.2] 37;have HXR := Lib.hid hxr; clear hxr;have hsm : m < wr.heap.size := hIq.out.box.lt;clear hIq hb1;go_wp2;generalize wr.alloc (.cells #[.bool px.1, .slice px.2.1 px.2.2.1 px.2.2.2] 37) = w5 at *;obtain ⟨xb, hxb⟩ : ∃ xb, wr.heap.size = xb := ⟨_, rfl⟩;rw [hxb] at HXR hsm ⊢;have q0 : w5.cell? ⟨xb, 0, none⟩ = some (.bool px.1) := HXR.out.cell 0;have q1 : w5.cell? ⟨xb, 1, none⟩ = some (.slice px.2.1 px.2.2.1 px.2.2.2) := HXR.out.cell 1;have c2 : w5.cell? ⟨m, 2, none⟩ = some (.slice (some ⟨b, 0, none⟩) k N) := by have := HIa.out.box.cell 2; rw [hcl] at this; exact this
       clear cx0 cx1 hrow0;obtain ⟨i0, hi0, hz0, hsz0, hby0⟩ := info_parts info_Int;have hrl : (cu ++ List.replicate (N - cu.length) 0).length = N := by rw [List.length_append, List.length_replicate, hcl]; omega
       go_region_law (first
        | (refine step_append_room rfl (.tmp 32) (.tmp 35) 22 rfl 37 i0 2 Tryz.underlying22 hi0 hsz0 b 0 k N rfl ⟨w6.heap.size, 0, none⟩ 1 1 [.bool pz.1, .slice pz.2.1 pz.2.2.1 pz.2.2.2] rfl rfl (two_cells w6 _ _ _) (by simp [Value.oneCell']) (by omega) (fun j hj => HI6.out.spare hcl hkN _ j hj) ?_; obtain ⟨w7, hw7⟩ : ∃ w7, (w6.alloc (.cells #[.bool pz.1, .slice pz.2.1 pz.2.2.1 pz.2.2.2] 37)).setCells b (k * 2) [.bool pz.1, .slice pz.2.1 pz.2.2.1 pz.2.2.2] = w7 := ⟨_, rfl⟩; have hI7 := HI6.out.app hbl hcl hkN HZ6.out w7 hw7; simp only [Nat.zero_add]; rw [hw7]; have g2 := hI7.1.cell 2; have gf2 := hI7.1.free 2; simp only [List.getElem?_cons_zero, List.getElem?_cons_succ] at g2; have HI7 := Lib.hid hI7; clear hI7 hw7)
        | (go_simp; go_at_call 36; refine (ILeast_c (av px) x _ (IntAt.below (w := w5) Hnx.out (Below.refl _ _).drew)).mono ?_; rintro e w6 ⟨⟨vz, rfl, hvz⟩, hb6⟩; obtain ⟨pz, rfl⟩ := NumAt.parts hvz.num; have HZ6 := Lib.hid hvz.num; unfold av at *; have hI6 : MatI w b m n c N cu w6 := ⟨RowAt.below (w := w5.drew) HIa.out.box hb6 HIa.out.box.lt, RowN.below (w := w5.drew) HIa.out.row hb6, RowAt.below (w := w5.drew) HIa.out.res hb6 HIa.out.res.lt, HIa.out.bel.drew.trans (hb6.mono HIa.out.bel.size)⟩; have HI6 := Lib.hid hI6; clear hI6; have k2 := HI6.out.box.cell 2; rw [hcl] at k2; have k3 := (HI6.out.box.alloc (.cells #[.bool pz.1, .slice pz.2.1 pz.2.2.1 pz.2.2.2] 37)).cell 2; rw [hcl] at k3; simp only [List.getElem?_cons_zero, List.getElem?_cons_succ] at k2 k3; clear hb6 hvz))
       all_goals go_wp2
       all_goals refine ⟨⟨j + 1, by omega, by go_num, Lib.hid ?_⟩, ?_⟩
       all_goals first
        | (rw [HCU.out]; exact HI7.out.2)
        | (simp [intOf]; omega)
     · obtain rfl : j = c := by omega
       go_wp2;go_roundw
       case rel =>
        refine ⟨i + 1, by omega, by go_num, Lib.hid ?_⟩;rw [flatten_take_succ hix];have h9 := hIq.out;rw [List.take_of_length_le (l := xss[i]) (by rw [HXL.out]; exact Nat.le_refl _)] at h9;exact h9
       case measure => simp [intOf]; omega
  · obtain rfl : i = n := by omega
    have hce : (xss.take i).flatten = xss.flatten := by rw [List.take_of_length_le (by omega)]
    have HCE := Lib.hid hce; clear hce;have hcl : (xss.take i).flatten.length = N := by rw [HCE.out, flatten_len HC.out, hn]; exact HN.out
    have c0 := hIr.out.box.cell 0;have c1 := hIr.out.box.cell 1;have c2 := hIr.out.box.cell 2;have d0 := hIr.out.res.cell 0;have d1 := hIr.out.res.cell 1;have d2 := hIr.out.res.cell 2;have f0 := hIr.out.res.free 0;have f1 := hIr.out.res.free 1;have f2 := hIr.out.res.free 2;rw [hcl] at c2;simp only [List.getElem?_cons_zero, List.getElem?_cons_succ] at c0 c1 c2 d0 d1 d2;clear hcl;go_wp2;have hrm := hIr.out.row;rw [HCE.out, flatten_len HC.out, hn, HN.out, Nat.sub_self] at hrm;simp only [List.replicate_zero, List.append_nil] at hrm;refine bodyPost_ret (results_mat (p := 4) (by kernel_rfl) _ _ w.heap.size _ _ _ rfl (hIr.out.res.set3 (.int .i64 (i : Int)) (.int .i64 (c : Int)) (.slice (some ⟨b, 0, none⟩) N N))) rfl ?_;exact ⟨⟨b, rfl, by omega, hrm.setMat hIr.out.res (i : Int) (c : Int) _ _ _⟩, ((hIr.out.bel.setCell (p := ⟨w.heap.size, 0, none⟩) (Nat.le_refl _) _).setCell (p := ⟨w.heap.size, 1, none⟩) (Nat.le_refl _) _).setCell (p := ⟨w.heap.size, 2, none⟩) (Nat.le_refl _) _⟩
theorem results_mat_err {fn : Func} {p q : Tmp} (h : fn.results = #[.cell p 24, .tmp q]) (tmps : Array Value) (w : World) (g : Nat) (a b c : Value) (hp : tmps.getD p undef = .pointer (some ⟨g, 0, none⟩)) (hr : RowAt w g 24 [a, b, c]) :
 (results fn tmps).run Tryz.prog w = .ok (.tuple #[.agg #[a, b, c], tmps.getD q undef]) w := results_mat_tmp h tmps w g a b c hp hr
theorem RowN.lsAt {w : World} {b : Nat} {xs : List Int} (h : RowN w b xs) {L : Nat} (hL : ∀ x ∈ xs, wlen x.natAbs <= L) : LsAt w L (some ⟨b, 0, none⟩) xs := by
 intro _;refine ⟨b, 0, rfl, h.lt, fun i hi => ?_⟩;obtain ⟨p, h0, h1, hn⟩ := h.get hi;exact ⟨p, by simpa using h0, by simpa using h1, hn.int (hL _ (List.getElem_mem hi))⟩
theorem MatN.rowsAt {w : World} {o : Nat} {R : List Hd} (h : MatN w o R) {L : Nat} (hL : ∀ r ∈ R, ∀ x ∈ r.xs, wlen x.natAbs <= L) (k : Nat) (hk : k <= R.length) : RowsAt w L o ((R.take k).map Hd.xs) := by
 refine ⟨h.lt, fun i hi => ?_⟩;have hi' : i < R.length := by simp at hi; omega
 have hm : R[i] ∈ R := List.getElem_mem hi';refine ⟨some ⟨R[i].blk, 0, none⟩, R[i].cap, ?_, ?_⟩
 · rw [h.hdr hi'];simp [Hd.hdr]
 · have := (h.row _ hm).lsAt (hL _ hm);simpa using this
theorem ent_words {R : List Hd} {D : Nat} (h : ∀ i b, (ent R i b).natAbs < W ^ D) : ∀ r ∈ R, ∀ x ∈ r.xs, wlen x.natAbs <= D := by
 intro r hr x hx;obtain ⟨i, hi, rfl⟩ := List.getElem_of_mem hr;obtain ⟨j, hj, rfl⟩ := List.getElem_of_mem hx;have := h i j;rw [ent_get hi, gd_lt _ _ hj] at this;exact wlen_le_of_lt this
abbrev hW (m : Nat) : Nat := hermW 66 m
set_option maxRecDepth 100000 in
set_option maxHeartbeats 4000000 in
theorem Form_c (r c m : Nat) (ao : Option Addr) (len cap : Nat) (xs : List Int) (w : World) (hr : r <= 64) (hc : c <= 64) (h : LsAt w 17592186044415 ao xs) (hm : ∀ x ∈ xs, x.natAbs < W ^ m) (hm1 : m <= 140000000) (hl : len = xs.length) (hs : xs.length = r * c) :
 Calls Tryz.prog 6 #[.agg #[.int .i64 (r : Int), .int .i64 (c : Int), .slice ao len cap]] w fun e w' => (∃ b hs k l, e = .returned (.tuple #[.agg #[.int .i64 (r : Int), .int .i64 (c : Int), .slice (some ⟨b, 0, none⟩) (r * c) (r * c)], .int .i64 0]) /\ w.heap.size <= b /\ RowN w' b hs /\ IsHnf r c xs hs k l /\ ∀ x ∈ hs, x.natAbs < W ^ hW m) /\ Below w.heap.size w w' := by
 subst hl;have hlad : ladW 66 m <= 4000000000000 := by unfold ladW hermW; omega
 have hhw : hW m <= 17592186044415 := by unfold hW hermW; omega
 have hwl : ∀ x ∈ xs, wlen x.natAbs <= 17592186044415 := fun x hx => Nat.le_trans (wlen_le_of_lt (hm x hx)) (by omega);have HXS := Lib.hid h; clear h;have HLad := Lib.hid (And.intro hlad (And.intro hhw hwl)); clear hlad hhw hwl;have HMM := Lib.hid hm; clear hm;have hsnd : soundM (r : Int) (c : Int) xs.length = true := by
  unfold soundM sideOk;rw [hs]; simp; omega
 have HS := Lib.hid hs; clear hs;have HCK := Lib.hid (chkM_ok hsnd); clear hsnd;go_enter Tryz.func6, Tryz.ntmps6;go_wp2_with fail
 obtain ⟨r1, r2, hb⟩ := two_new w #[.int .i64 (r : Int), .int .i64 (c : Int), .slice ao xs.length cap] #[.int .i64 0, .int .i64 0, .slice none 0 0] 24 24;generalize (w.alloc (.cells #[.int .i64 (r : Int), .int .i64 (c : Int), .slice ao xs.length cap] 24)).alloc (.cells #[.int .i64 0, .int .i64 0, .slice none 0 0] 24) = w2 at *;refine (Check_c (r : Int) (c : Int) ao xs.length cap _ (by omega) (by omega)).mono ?_;rintro e w3 ⟨rfl, hb3⟩;rw [HCK.out];have R1 := Lib.hid (r1.below hb3 r1.lt);have R2 := Lib.hid (r2.below hb3 r2.lt);have L3 := Lib.hid ((HXS.out.below hb).below hb3);have B3 := Lib.hid (hb.trans (hb3.mono hb.size));have hs2 : w.heap.size + 1 < w3.heap.size := R2.out.lt;have e0 : w3.cell? ⟨w.heap.size, 0, none⟩ = some (.int .i64 (r : Int)) := R1.out.cell 0;have e1 : w3.cell? ⟨w.heap.size, 1, none⟩ = some (.int .i64 (c : Int)) := R1.out.cell 1;have e2 : w3.cell? ⟨w.heap.size, 2, none⟩ = some (.slice ao xs.length cap) := R1.out.cell 2;clear r1 r2 hb hb3;go_wp2_with fail
 refine (callsIn_wide.1 (lines_c r c ao xs.length cap xs w3 hr hc L3.out HLad.out.2.2 rfl HS.out)).mono ?_;rintro e w4 ⟨⟨o, R, rfl, hM, hRl, hRx, hob, hRb⟩, hb4⟩;obtain ⟨hSh, hE⟩ := ent_rows hRl HS.out hRx;obtain ⟨k, R', hRed, hOk⟩ := reduce_ok (N := 66) (B := 4000000000000) (m := m) hSh (fun i b => by rw [hE]; exact matE_bound (pw_pos m) HMM.out i b) (by omega) (by omega) HLad.out.1;have hlR' : R'.length = r := hOk.len.trans hRl;obtain ⟨l, hH, hHb⟩ := hnf_of hRl hE hOk;have hred := reduced_c o r 4000000000000 c k R R' w4 hM (Nat.le_refl _) hRed (by omega) (by omega);rw [hRl] at hred;have HRed := Lib.hid hred; clear hred;have HOk := Lib.hid hOk; clear hOk;have HH := Lib.hid (And.intro hH hHb); clear hH hHb;have R14 := Lib.hid (R1.out.below hb4 R1.out.lt);have R24 := Lib.hid (R2.out.below hb4 R2.out.lt);have B4 := Lib.hid (B3.out.trans (hb4.mono B3.out.size));have HRb := Lib.hid (And.intro hob hRb);clear hRed hM hb4 e0 e1 e2 hSh hE hRx hob hRb R1 R2 L3 B3;rw [hRl];go_wp2_with fail
 refine HRed.out.mono ?_;rintro e w5 ⟨rfl, hM5, hC5⟩;rw [hlR'];have hown : ∀ q, (q = o ∨ ∃ x ∈ R, x.blk = q) -> w3.heap.size <= q := by
  rintro q (rfl | ⟨x, hx, rfl⟩)
  · exact HRb.out.1
  · exact HRb.out.2 x hx
 have hns : ∀ q, q < w3.heap.size -> ¬ (q = o ∨ ∃ x ∈ R, x.blk = q) := fun q hq h => by have := hown q h; omega
 have R15 := Lib.hid (hC5.row R14.out (hns _ (by omega)));have R25 := Lib.hid (hC5.row R24.out (hns _ hs2));have B5 : Hid (Below w.heap.size w w5) := Lib.hid (B4.out.trans (hC5.to_below (B := w.heap.size) (fun q hq => by have := hown q hq; omega) B4.out.size));have hrows := hM5.rowsAt (L := 17592186044415) (fun x hx y hy => Nat.le_trans (ent_words HOk.out.bd x hx y hy) HLad.out.2.1) r (by omega);rw [List.take_of_length_le (by omega)] at hrows;have HRows := Lib.hid hrows; clear hrows;have c1 : w5.cell? ⟨w.heap.size, 1, none⟩ = some (.int .i64 (c : Int)) := R15.out.cell 1;have hsh5 : ∀ x ∈ R'.map Hd.xs, x.length = c := fun x hx => by
  obtain ⟨q, hq, rfl⟩ := List.mem_map.1 hx; exact HOk.out.sh q hq
 clear hM5 hC5 R14 R24 B4 HRed hown hns;go_wp2_with fail
 refine (matrix_c o r r c (R'.map Hd.xs) w5 HRows.out (by rw [List.length_map, hlR']) hsh5 (by omega) (by omega)).mono ?_;rintro e w6 ⟨⟨b, rfl, hbb, hRb6⟩, hb6⟩;have R26 := Lib.hid (R25.out.below hb6 R25.out.lt);have B6 := Lib.hid (B5.out.trans (hb6.mono B5.out.size));have HR6 := Lib.hid hRb6;have hs5 : w.heap.size <= w5.heap.size := B5.out.size;clear hRb6 hb6 c1;have z0 := R26.out.cell 0;have z1 := R26.out.cell 1;have z2 := R26.out.cell 2;have y0 := R26.out.free 0;have y1 := R26.out.free 1;have y2 := R26.out.free 2;go_wp2;refine bodyPost_ret (results_mat_err (p := 2) (q := 3) (by kernel_rfl) _ _ (w.heap.size + 1) _ _ _ rfl (R26.out.set3 (.int .i64 (r : Int)) (.int .i64 (c : Int)) (.slice (some ⟨b, 0, none⟩) (r * c) (r * c)))) rfl ?_;exact ⟨⟨b, _, k, l, rfl, by omega, HR6.out.setMat R26.out (r : Int) (c : Int) _ _ _, HH.out.1, HH.out.2⟩, ((B6.out.setCell (p := ⟨w.heap.size + 1, 0, none⟩) (Nat.le_succ _) _).setCell (p := ⟨w.heap.size + 1, 1, none⟩) (Nat.le_succ _) _).setCell (p := ⟨w.heap.size + 1, 2, none⟩) (Nat.le_succ _) _⟩
end Go.Proofs.YtdgfhcaokigieaaGreat
