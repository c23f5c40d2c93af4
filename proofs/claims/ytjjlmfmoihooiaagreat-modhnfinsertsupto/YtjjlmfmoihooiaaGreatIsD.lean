/- Part 4 of 9 of the proof that the law ModhnfInserts returns true for every input of bulk at most 1048576 and leaves its arguments as they were: here the contracts of the functions that it calls, and plain lemmas. -/
import Derived.Test.YtjjlmfmoihooiaaGreatIsC
set_option linter.all false
set_option maxRecDepth 100000
set_option maxHeartbeats 1000000
namespace Go.Proofs.YtjjlmfmoihooiaaGreat
open Go.RowKit
section
variable {ops : Array Oper} {Q : Exit -> Act -> World -> Prop} {ds : List Deferred} {S0 : Nat -> Prop} {w0 : World} {E0 : List En} {n j s : Nat} {l : List Nat} {G E : List En} {ls : List (Nat × Value)} {ty : TypeId} {pos : String} {af : Array Edge}
theorem slL {sx sl : Operand} (a : Option Addr) (len cap x : Nat) (v : Value) (hx : x <= len) (hv : sliced a x len cap 1 = v) (k : dy ds ⟨Tryz.prog, ops, Q, S0, w0, E0, []⟩ n l G E ((s, v) :: ls))
 (ho : ops[j]? = some ⟨some s, .slice 70 sx (some sl) none none, ty, pos, af, none⟩ := by rfl) (hk : (bF (.slice 70 sx (some sl) none none) && dK ls (.slice 70 sx (some sl) none none) && Nat.blt s n) = true := by kernel_rfl)
 (h1 : cT ls sx = .slice a len cap := by (simp only [bX, Nat.reduceEqDiff, ↓reduceIte]) <;> rfl) (h2 : cT ls sl = .int .i64 (x : Int) := by (simp only [bX, Nat.reduceEqDiff, ↓reduceIte]) <;> rfl) : dy ds ⟨Tryz.prog, ops, Q, S0, w0, E0, []⟩ n (j :: l) G E ls := by
 refine dW k ho hk fun w _ => ?_;subst hv;have e := run_slice_l (P := Tryz.prog) w 70 a len cap Tryz.underlying70 .i64 (x : Int) (by omega) (by omega);have e2 := run_sliceAt_slice (P := Tryz.prog) w 70 (.slice a len cap) (some (.int .i64 (x : Int))) none none Tryz.underlying70;have e3 : (sizeOf (Tryz.prog.elem 70)).run Tryz.prog w = .ok 1 w := by go_simp <;> rfl
 rw [e3] at e;simp only [Int.toNat_natCast, Result.andThen] at e;simp [execOp, h1, h2, e2, e, Result.andThen]
end
theorem cO {α : Type} {l : List α} {i t : Nat} {x d : α} (hi : i < l.length) : (l.set i x).getD t d = if t = i then x else l.getD t d := by
 by_cases h : t = i
 · subst h; simp [hi]
 · rw [if_neg h]; simp [List.getElem?_set_ne (fun e => h e.symm)]
theorem kJ {α : Type} {l : List α} {k p t : Nat} {d : α} (hk : k < l.length) (hp : p < l.length) : (ph l k p d).getD t d = l.getD (jC k p t) d := by
 unfold ph jC;rw [cO (by simpa using hk), cO hp];by_cases h1 : t = k
 · rw [if_pos h1, if_pos h1]
 · rw [if_neg h1, if_neg h1];by_cases h2 : t = p
   · rw [if_pos h2, if_pos h2]
   · rw [if_neg h2, if_neg h2]
theorem u3 {α β : Type} (f : α -> β) {l : List α} {k p : Nat} {d : α} (hk : k < l.length) (hp : p < l.length) (tl : List β) : (((l.map f ++ tl).set p (f (l.getD k d))).set k (f (l.getD p d))) = (ph l k p d).map f ++ tl := by
 rw [List.set_append_left _ _ (by simpa using hp), List.set_append_left _ _ (by simpa using hk)];congr 1;unfold ph;rw [List.map_set, List.map_set]
theorem gZ {α : Type} {l : List α} {t : Nat} {d : α} (h : t < l.length) : l.set t (l.getD t d) = l := by
 rw [show l.getD t d = l[t] by simp [h]]; exact List.set_getElem_self h
def bE (E : List (List Int)) (i j : Nat) : Int := gi (E.getD i []) j
structure nG (n m mw : Nat) (A : Mx) (c k : Nat) (nu cs : Nat -> Nat) (z : jm) : Prop where
 El : z.E.length = n
 rl : ∀ t < n, (z.E.getD t []).length = m
 nl : z.nu.length = n
 tk : z.tk = k
 br : jG n m A c k nu cs (bE z.E) z.ls
 Ab : ∀ i j, (A i j).natAbs <= W ^ mw
 eb : ∀ t < n, ∀ j, ag (bE z.E t j).natAbs <= 64 * (mw + 1)
 lb : ag z.ls.natAbs <= 64 * (mw + 1)
def wM (n m mw : Nat) (A : Mx) (c k : Nat) (nu cs : Nat -> Nat) (z : jm) (b : Bool) (z' : jm) : Prop :=
 (b = false /\ z' = z /\ nG n m mw A (c + 1) k nu cs z' /\ ∀ i, k <= i -> i < n -> bE z.E i c = 0) ∨
 (b = true /\ k < n /\ ∃ nu', nG n m mw A (c + 1) (k + 1) nu' (lJ cs k c) z' /\ ((z'.tn = z.tn /\ nu' = nu) ∨ (z'.tn = !z.tn /\ ∃ p, k < p /\ p < n /\ nu' = fun i => nu (jC k p i))))
theorem nG.skip {n m mw c k : Nat} {A : Mx} {nu cs : Nat -> Nat} {z : jm} (h : nG n m mw A c k nu cs z) (hc : c < m) (h0 : ∀ i, k <= i -> i < n -> bE z.E i c = 0) : nG n m mw A (c + 1) k nu cs z :=
 ⟨h.El, h.rl, h.nl, h.tk, h.br.skip hc h0, h.Ab, h.eb, h.lb⟩
theorem Fr.fldS {gF m : Nat} {z : jm} {w : World} (h : fA gF m z w) : Fr (fq gF z) w w [.qu gF m z] :=
 ⟨aN.refl _ _, fun e he => by rcases List.mem_singleton.1 he with rfl; exact h, List.pairwise_singleton .., fun e he _ b hb => by rcases List.mem_singleton.1 he with rfl; exact .inl hb⟩
theorem zs0 {x : Int} (h : x = 0) : aO x = 0 := by subst h; rfl
theorem zs1 {x : Int} (h : x ≠ 0) : ¬ aO x = 0 := fun e => h (by unfold aO at e; (repeat' split at e) <;> omega)
theorem yh (gF m c k mw : Nat) (z : jm) (A : Mx) (nu cs : Nat -> Nat) (w : World) (hc : c < m) (hI : nG 0 m mw A c k nu cs z) (h : fA gF m z w) :
 Calls Tryz.prog 60 #[.pointer (some ⟨gF, 0, none⟩), .int .i64 (c : Int)] w fun e w' => ∃ (b : Bool) (z' : jm), e = .returned (.bool b) /\ aN (fq gF z) w w' /\ fA gF m z' w' /\ (∀ g, fq gF z' g -> fq gF z g ∨ w.heap.size <= g) /\ wM 0 m mw A c k nu cs z b z' := by
 have HR : Hid (wM 0 m mw A c k nu cs z false z) := hi_ (.inl ⟨rfl, rfl, hI.skip hc fun i _ h => absurd h (Nat.not_lt_zero _), fun i _ h => absurd h (Nat.not_lt_zero _)⟩);have hk : k = 0 := by have := hI.br.kn; omega
 have El := hI.El;have tk := hI.tk;have HF := hi_ h;obtain ⟨ro, rc, no, nc, gs, E, nul, tn, lp, ls, tk'⟩ := z
 replace El : E.length = 0 := El
 replace tk : tk' = k := tk
 subst hk tk;have hcl : ∀ i v, (xB ⟨ro, rc, no, nc, gs, E, nul, tn, lp, ls, 0⟩)[i]? = some v -> w.cell? ⟨gF, i, none⟩ = some v := fun i v hv => by rw [h.1.1.cell]; exact hv
 have c0 : w.cell? ⟨gF, 0, none⟩ = some (.slice ro 0 rc) := hcl 0 _ (by show some (Value.slice ro E.length rc) = _; rw [El]);have c5 : w.cell? ⟨gF, 5, none⟩ = some (.int .i64 0) := hcl 5 _ rfl;clear hI h hcl;have HA : Fr (fun _ => False) w w [.cell ⟨gF, 0, none⟩ (.slice ro 0 rc), .cell ⟨gF, 5, none⟩ (.int .i64 0)] := Fr.cl (Fr.cl (Fr.nil _ w) c5 (by simp [En.wr])) c0 (by simp [En.wr]);have fin : ∀ w', Below w.heap.size w w' -> ∃ (z' : jm), aN (fq gF ⟨ro, rc, no, nc, gs, E, nul, tn, lp, ls, 0⟩) w w' /\ fA gF m z' w' /\ (∀ g, fq gF z' g -> fq gF ⟨ro, rc, no, nc, gs, E, nul, tn, lp, ls, 0⟩ g ∨ w.heap.size <= g) /\ wM 0 m mw A c 0 nu cs ⟨ro, rc, no, nc, gs, E, nul, tn, lp, ls, 0⟩ false z' := fun w' hb =>
  ⟨_, aN.aU hb, En.gR (e := .qu gF m ⟨ro, rc, no, nc, gs, E, nul, tn, lp, ls, 0⟩) HF.out (aN.aU (S := fun _ => False) hb) (fun _ => Wl.none _) (fun _ _ h => h), fun g h => .inl h, HR.out⟩
 have HN := hi_ fin;clear fin c0 c5;refine bS (S0 := fun _ => False) Tryz.func60 HA ?_;clear HA;refine ah ?_;refine rW [] ?_;refine dW ?_;refine eW ?_;refine ah ?_;refine rW [] ?_;(iterate 5 refine dW ?_);refine eW ?_;refine ah ?_;refine rW [] ?_;refine dW ?_;refine dW ?_;refine eW ?_;refine ah ?_;refine cI (X := Unit) (fun _ => True) (fun _ => 0) (fun _ => [(6, .int .i64 0), (5, .int .i64 0), (1, .int .i64 (c : Int)), (0, .pointer (some ⟨gF, 0, none⟩)), (4, .bool false)]) (fun _ => [.cell ⟨gF, 0, none⟩ (.slice ro 0 rc), .cell ⟨gF, 5, none⟩ (.int .i64 0)]) () trivial fun _ _ => ?_;refine ah ?_;refine rW [] ?_;(iterate 6 refine dW ?_);refine dB false ?_;refine dW ?_;(iterate 10 refine uG ?_);refine uC ?_;refine uG ?_;refine dW ?_;refine eW ?_;refine ah ?_;refine dT ?_;refine ah ?_;refine rW [] ?_;(iterate 6 refine dW ?_);refine dB true ?_;refine eW ?_;refine ah ?_;refine fB ?_;refine ah ?_;refine rW [] ?_;refine dW ?_;refine eW ?_;refine ah ?_;refine ei fun w' H => ?_;obtain ⟨z', h1, h2, h3, h4⟩ := HN.out w' H.below;exact ⟨_, ee, false, z', rfl, h1, h2, h3, h4⟩
end Go.Proofs.YtjjlmfmoihooiaaGreat
