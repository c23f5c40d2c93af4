/- Part 7 of 9 of the proof that the law HnfVolume returns true for every input of bulk at most 1048576 and leaves its arguments as they were: here the contracts of the functions that it calls, and plain lemmas. -/
import Derived.Maps.AppendAt
import Derived.Deep.Onto
import Derived.Test.YtdgfhcaokigieaaGreatVlF
set_option linter.all false
namespace Go.Proofs.YtdgfhcaokigieaaGreat
open Go.RowKit
theorem rts_words {B k : Nat} {hs : List (Option Addr × Nat)} {R : List (List Int)} {w : World} (hk : R.length = k) (h : ∀ t, t < R.length -> LsAt w B (hs.getD t (none, 0)).1 (R.getD t [])) : ∀ t < k, ∀ j, wlen (Rts R t j).natAbs <= B := fun t ht j => by
 unfold Rts;by_cases hj : j < (R.getD t []).length
 · obtain ⟨_, _, _, _, hc⟩ := h t (by omega) (by omega);obtain ⟨_, _, _, hI⟩ := hc j hj;rw [gi_eq hj]; exact hI.wlen
 · rw [gi_out (by omega)]; simp [wlen_zero]
structure PtA (n c m : Nat) (i : Nat) (A : Mx) (z : Sta) (l : List Int) : Prop where
 st : StI n c i A z.R z.p
 hl : z.hs.length = z.R.length
 ll : l.length = c
 kb : z.R.length <= 64
 cb : c <= 64
 pc : ∀ t, t < z.R.length -> z.p.getD t 0 < c
 Ab : ∀ s < i, ∀ j, (A s j).natAbs <= W ^ m
 lb : ∀ j, (gi l j).natAbs <= W ^ m
 mb : m <= 1048576
theorem PtA.rs {n c m i : Nat} {A : Mx} {z : Sta} {l : List Int} {w : World} (h : PtA n c m i A z l) (hR : ∀ t, t < z.R.length -> LsAt w (bw m) (z.hs.getD t (none, 0)).1 (z.R.getD t [])) : RsA z.R.length c (bw m) z.hs z.R z.p l :=
 ⟨rfl, h.hl, h.st.pl, h.ll, h.st.cl, h.kb, h.cb, h.pc, rts_words rfl hR, fun t ht j => wlen_le_of_lt (h.st.bound h.kb h.ll h.Ab h.lb ht j), by unfold bw; omega, by unfold bw; have := h.mb; omega⟩
theorem Fr.sta {gs c B : Nat} {z : Sta} {ao : Option Addr} {l : List Int} {w : World} (h1 : StaF gs c z w) (h2 : ∀ t, t < z.R.length -> LsAt w B (z.hs.getD t (none, 0)).1 (z.R.getD t [])) (h3 : LsAt w B ao l) (hap : ∀ g, StaS gs z g -> (∀ t, t < z.R.length -> 0 < (z.R.getD t []).length -> ∀ o, (z.hs.getD t (none, 0)).1 ≠ some ⟨g, o, none⟩) /\ (0 < l.length -> ∀ o, ao ≠ some ⟨g, o, none⟩)) :
 Fr (StaS gs z) w w [.row gs 56 [.slice z.ra z.R.length z.rc, .slice z.la z.R.length z.lc], .lg 22 1 z.ra z.R.length z.rc (rcs c z.hs), .lg 3 1 z.la z.R.length z.lc (z.p.map fun x : Nat => Value.int .i64 (x : Int)), .ls B ao l, .lrs B z.hs z.R] := by
 obtain ⟨a1, a2, a3, a4, a5, a6⟩ := h1;have b1 : Fr (StaS gs z) w w [.ls B ao l, .lrs B z.hs z.R] := Fr.ro (Fr.ro (Fr.nil _ w) (e := .lrs B z.hs z.R) h2 rfl (by simp)) (e := .ls B ao l) h3 rfl (by simp [En.wr]);have rd : ∀ e ∈ [En.ls B ao l, En.lrs B z.hs z.R], ∀ b, StaS gs z b -> ¬ e.S b := fun e he b hb => by
  rcases List.mem_cons.1 he with rfl | he
  · exact fun ⟨hl, o, e⟩ => (hap b hb).2 hl o e
  · rcases List.mem_singleton.1 he with rfl;exact fun ⟨t, ht, hl, o, e⟩ => (hap b hb).1 t ht hl o e
 have rw' : ∀ e ∈ [En.ls B ao l, En.lrs B z.hs z.R], e.wr = false := fun e he => by
  rcases List.mem_cons.1 he with rfl | he
  · rfl
  · rcases List.mem_singleton.1 he with rfl; rfl
 have b2 := b1.cons (e := .lg 3 1 z.la z.R.length z.lc (z.p.map fun x : Nat => Value.int .i64 (x : Int))) a3 (fun e he => ⟨fun _ b ⟨o, e'⟩ => rd e he b (.inr (.inr ⟨o, e'⟩)), fun q => by rw [rw' e he] at q; cases q⟩) fun _ b ⟨o, e⟩ => .inl (.inr (.inr ⟨o, e⟩));have b3 := b2.cons (e := .lg 22 1 z.ra z.R.length z.rc (rcs c z.hs)) a2 (fun e he => by
  rcases List.mem_cons.1 he with rfl | he
  · exact ⟨fun _ b ⟨o, e⟩ ⟨o', e'⟩ => a6 b o b o' e e' rfl, fun _ b ⟨o', e'⟩ ⟨o, e⟩ => a6 b o b o' e e' rfl⟩
  · exact ⟨fun _ b ⟨o, e'⟩ => rd e he b (.inr (.inl ⟨o, e'⟩)), fun q => by rw [rw' e he] at q; cases q⟩) fun _ b ⟨o, e⟩ => .inl (.inr (.inl ⟨o, e⟩))
 refine b3.cons (e := .row gs 56 _) a1 (fun e he => ?_) fun _ b e => .inl (.inl e);rcases List.mem_cons.1 he with rfl | he
 · exact ⟨fun _ b hb ⟨o, e⟩ => a4 b o e hb, fun _ b ⟨o, e⟩ hb => a4 b o e hb⟩
 · rcases List.mem_cons.1 he with rfl | he
   · exact ⟨fun _ b hb ⟨o, e⟩ => a5 b o e hb, fun _ b ⟨o, e⟩ hb => a5 b o e hb⟩
   · exact ⟨fun _ b hb => rd e he b (.inl hb), fun q => by rw [rw' e he] at q; cases q⟩
section
variable {S0 : Nat -> Prop} {gs c k B rc lc : Nat} {ra la : Option Addr} {hs : List (Option Addr × Nat)} {R : List (List Int)} {p : List Nat} {w w' : World} {es : List En}
theorem put_three (H : Fr S0 w w' (.row gs 56 [.slice ra k rc, .slice la k lc] :: .lg 22 1 ra k rc (rcs c hs) :: .lg 3 1 la k lc (p.map fun x : Nat => Value.int .i64 (x : Int)) :: es)) :
 (∀ b o, ra = some ⟨b, o, none⟩ -> b ≠ gs) /\ (∀ b o, la = some ⟨b, o, none⟩ -> b ≠ gs) /\ (∀ b o b' o', ra = some ⟨b, o, none⟩ -> la = some ⟨b', o', none⟩ -> b ≠ b') /\ ∀ e ∈ es, ∀ b, StaS gs ⟨ra, rc, la, lc, hs, R, p⟩ b -> ¬ e.S b := by
 have p1 := List.pairwise_cons.1 H.sep;have p2 := List.pairwise_cons.1 p1.2;have p3 := List.pairwise_cons.1 p2.2;refine ⟨fun b o e q => (p1.1 _ (List.mem_cons_self ..)).1 rfl b q ⟨o, e⟩, fun b o e q => (p1.1 _ (List.mem_cons_of_mem _ (List.mem_cons_self ..))).1 rfl b q ⟨o, e⟩, fun b o b' o' e e' q => (p2.1 _ (List.mem_cons_self ..)).1 rfl b ⟨o, e⟩ ⟨o', q ▸ e'⟩, fun e he b hb => ?_⟩;rcases hb with hb | ⟨o, hb⟩ | ⟨o, hb⟩
 · exact (p1.1 e (List.mem_cons_of_mem _ (List.mem_cons_of_mem _ he))).1 rfl b hb
 · exact (p2.1 e (List.mem_cons_of_mem _ he)).1 rfl b ⟨o, hb⟩
 · exact (p3.1 e he).1 rfl b ⟨o, hb⟩
theorem put_sta (hk : R.length = k) (H : Fr S0 w w' (.row gs 56 [.slice ra k rc, .slice la k lc] :: .lg 22 1 ra k rc (rcs c hs) :: .lg 3 1 la k lc (p.map fun x : Nat => Value.int .i64 (x : Int)) :: es)) : StaF gs c ⟨ra, rc, la, lc, hs, R, p⟩ w' := by
 obtain ⟨q1, q2, q3, _⟩ := put_three (R := R) H;subst hk;exact ⟨H.m0, H.m1, H.m2, q1, q2, q3⟩
theorem put_sta2 {R' : List (List Int)} (hk : R'.length = k) (H : Fr S0 w w' (.row gs 56 [.slice ra k rc, .slice la k lc] :: .lg 22 1 ra k rc (rcs c hs) :: .lg 3 1 la k lc (p.map fun x : Nat => Value.int .i64 (x : Int)) :: es)) : StaF gs c ⟨ra, rc, la, lc, hs, R', p⟩ w' := put_sta hk H
theorem put_ap {t g o : Nat} (_ : R.length = k) (H : Fr S0 w w' (.row gs 56 [.slice ra k rc, .slice la k lc] :: .lg 22 1 ra k rc (rcs c hs) :: .lg 3 1 la k lc (p.map fun x : Nat => Value.int .i64 (x : Int)) :: .lrs B hs R :: es)) (ht : t < R.length) (hl : 0 < (R.getD t []).length) (e : (hs.getD t (none, 0)).1 = some ⟨g, o, none⟩) : ¬ StaS gs ⟨ra, rc, la, lc, hs, R, p⟩ g := fun hg =>
 (put_three (R := R) H).2.2.2 _ (List.mem_cons_self ..) g hg ⟨t, ht, hl, o, e⟩
theorem put_own {z : Sta} {hs' : List (Option Addr × Nat)} {R' : List (List Int)} (H : Fr (StaS gs z) w w' (.row gs 56 [.slice ra k rc, .slice la k lc] :: .lg 22 1 ra k rc (rcs c hs) :: .lg 3 1 la k lc (p.map fun x : Nat => Value.int .i64 (x : Int)) :: es)) (g : Nat) (hg : StaS gs ⟨ra, rc, la, lc, hs', R', p⟩ g) : StaS gs z g ∨ w.heap.size <= g := by
 rcases hg with hg | ⟨o, hg⟩ | ⟨o, hg⟩
 · exact .inl (.inl hg)
 · exact H.own _ (List.mem_cons_of_mem _ (List.mem_cons_self ..)) rfl g ⟨o, hg⟩
 · exact H.own _ (List.mem_cons_of_mem _ (List.mem_cons_of_mem _ (List.mem_cons_self ..))) rfl g ⟨o, hg⟩
theorem put_ap2 {t g o : Nat} {ao : Option Addr} {l r : List Int} {q : Option Addr × Nat} {hs' : List (Option Addr × Nat)} (hhl : hs.length = R.length) (hk : R.length = k) (hr : r.length = c) (hl : l.length = c) (hq : q.1 = ao ∨ ∀ b o, q.1 = some ⟨b, o, none⟩ -> w.heap.size <= b)
 (H : Fr S0 w w' (.row gs 56 [.slice ra (k + 1) rc, .slice la (k + 1) lc] :: .lg 22 1 ra (k + 1) rc (rcs c hs') :: .lg 3 1 la (k + 1) lc (p.map fun x : Nat => Value.int .i64 (x : Int)) :: .lrs B hs R :: .ls B q.1 r :: es)) (ht : t < (R ++ [r]).length) (hlen : 0 < ((R ++ [r]).getD t []).length) (e : ((hs ++ [q]).getD t (none, 0)).1 = some ⟨g, o, none⟩) :
 ¬ StaS gs ⟨ra, rc, la, lc, hs ++ [q], R ++ [r], p⟩ g /\ ((∃ s, s < R.length /\ 0 < (R.getD s []).length /\ ∃ o', (hs.getD s (none, 0)).1 = some ⟨g, o', none⟩) ∨ (0 < l.length /\ ∃ o', ao = some ⟨g, o', none⟩) ∨ w.heap.size <= g) := by
 rw [getD_app] at hlen e;rw [hhl] at e;have h4 : ∀ e ∈ En.lrs B hs R :: En.ls B q.1 r :: es, ∀ b, StaS gs ⟨ra, rc, la, lc, hs ++ [q], R ++ [r], p⟩ b -> ¬ e.S b := fun e he b hb => (put_three (R := R ++ [r]) H).2.2.2 e he b hb;by_cases h1 : t < R.length
 · rw [if_pos h1] at hlen e;exact ⟨fun hg => h4 _ (List.mem_cons_self ..) g hg ⟨t, h1, hlen, o, e⟩, .inl ⟨t, h1, hlen, o, e⟩⟩
 · have h2 : t = R.length := by simp at ht; omega
   rw [if_neg h1, if_pos h2] at hlen e;refine ⟨fun hg => h4 _ (List.mem_cons_of_mem _ (List.mem_cons_self ..)) g hg ⟨hlen, o, e⟩, .inr ?_⟩;rcases hq with hq | hq
   · exact .inl ⟨by rw [hl, <- hr]; exact hlen, o, hq ▸ e⟩
   · exact .inr (hq g o e)
end
set_option maxRecDepth 100000 in
set_option maxHeartbeats 4000000 in
theorem Put13_c (gs n c m i cap : Nat) (A : Mx) (z : Sta) (ao : Option Addr) (l : List Int) (w : World) (hA : PtA n c m i A z l) (h1 : StaF gs c z w) (h2 : ∀ t, t < z.R.length -> LsAt w (bw m) (z.hs.getD t (none, 0)).1 (z.R.getD t [])) (h3 : LsAt w (bw m) ao l) (hap : ∀ g, StaS gs z g -> (∀ t, t < z.R.length -> 0 < (z.R.getD t []).length -> ∀ o, (z.hs.getD t (none, 0)).1 ≠ some ⟨g, o, none⟩) /\ (0 < l.length -> ∀ o, ao ≠ some ⟨g, o, none⟩)) :
 Calls Tryz.prog 39 #[.pointer (some ⟨gs, 0, none⟩), .slice ao c cap, .int .i64 (c : Int)] w fun e w' => (∃ (b : Bool) (z' : Sta), e = .returned (.bool b) /\ Chg (StaS gs z) w w' /\ StaF gs c z' w' /\ (∀ g, StaS gs z' g -> StaS gs z g ∨ w.heap.size <= g) /\
  (∀ t, t < z'.R.length -> LsAt w' (bw m) (z'.hs.getD t (none, 0)).1 (z'.R.getD t [])) /\ (∀ t, t < z'.R.length -> 0 < (z'.R.getD t []).length -> ∀ g o, (z'.hs.getD t (none, 0)).1 = some ⟨g, o, none⟩ -> ¬ StaS gs z' g /\ ((∃ s, s < z.R.length /\ 0 < (z.R.getD s []).length /\ ∃ o', (z.hs.getD s (none, 0)).1 = some ⟨g, o', none⟩) ∨ (0 < l.length /\ ∃ o', ao = some ⟨g, o', none⟩) ∨ w.heap.size <= g)) /\
  ((b = false /\ fst0 (r13 z.R z.p l z.R.length).l = c /\ z'.R = z.R /\ z'.p = z.p /\ z'.hs = z.hs) ∨ (b = true /\ fst0 (r13 z.R z.p l z.R.length).l < c /\ z'.R = z.R ++ [(r13 z.R z.p l z.R.length).l] /\ z'.p = z.p ++ [fst0 (r13 z.R z.p l z.R.length).l] /\ z'.hs.length = z'.R.length))) := by
 obtain ⟨k, hk⟩ : ∃ k, z.R.length = k := ⟨_, rfl⟩;obtain ⟨o, ho⟩ : ∃ o, r13 z.R z.p l z.R.length = o := ⟨_, rfl⟩;have hol : o.l.length = c := by rw [<- ho, r13_length, hA.ll]
 have hob : ∀ x ∈ o.l, wlen x.natAbs <= bw m := fun x hx => by
  obtain ⟨j, hj, rfl⟩ := List.getElem_of_mem hx;have := wlen_le_of_lt (hA.st.bound hA.kb hA.ll hA.Ab hA.lb (Nat.le_refl _) j);rw [ho, gi_eq hj] at this; exact this
 have hbw : bw m <= 134217728 := by unfold bw; have := hA.mb; omega
 have hRest : ∀ w', w'.cell? ⟨gs, 0, none⟩ = some (.slice z.ra k z.rc) -> w'.cell? ⟨gs, 1, none⟩ = some (.slice z.la k z.lc) -> RlF z.ra (rcs c z.hs) w' -> RlF z.la (z.p.map fun x : Nat => Value.int .i64 (x : Int)) w' -> (∀ t, t < z.R.length -> LsAt w' (bw m) (z.hs.getD t (none, 0)).1 (z.R.getD t [])) -> LsAt w' (bw m) ao l -> Calls Tryz.prog 23 #[.pointer (some ⟨gs, 0, none⟩), .slice ao c cap] w' fun e w'' => (∃ (q : (Option Addr × Nat) × P4 × P4), e = .returned (.tuple #[.slice q.1.1 c q.1.2, av q.2.1, av q.2.2]) /\ LsAt w'' (bw m) q.1.1 o.l /\ OwnI w'' w'.heap.size (av q.2.1) o.up /\ OwnI w'' w'.heap.size (av q.2.2) o.dn /\ (q.1.1 = ao ∨ ∀ b o, q.1.1 = some ⟨b, o, none⟩ -> w'.heap.size <= b)) /\ Below w'.heap.size w' w'' := fun w' a1 a2 a3 a4 a5 a6 => by
  have := Rest13_c gs z.R.length c (bw m) z.rc z.lc cap z.ra z.la ao z.hs z.R z.p l w' (hA.rs a5) (by rw [hk]; exact a1) (by rw [hk]; exact a2) a3 a4 a5 a6;rw [ho] at this; exact this
 have HF := Fr.sta h1 h2 h3 hap;have hll := hA.ll;have hpl := hA.st.pl;have hhl := hA.hl;have hk64 : k <= 64 := by rw [<- hk]; exact hA.kb
 have hc64 := hA.cb;rw [hk] at HF;rw [ho];have HR := Lib.hid hRest;have HL := Lib.hid (And.intro hk (And.intro hol (And.intro hob (And.intro hll (And.intro hpl hhl)))));obtain ⟨f, hf⟩ : ∃ f, fst0 o.l = f := ⟨_, rfl⟩;have hfle : f <= c := by rw [<- hf, <- hol]; exact fst0_le _
 have HFs := Lib.hid hf;rw [hf];clear hA h1 h2 h3 hap hRest ho hol hob hll hpl hhl hf;obtain ⟨ra, rc, la, lc, hs, R, p⟩ := z;refine funW (S0 := StaS gs ⟨ra, rc, la, lc, hs, R, p⟩) Tryz.func39 HF ?_;refine goW ?_;refine rW [] ?_;refine dW ?_;refine eW ?_;refine goW ?_;refine rW [] ?_;refine dW ?_;refine dW ?_;refine cR (α := (Option Addr × Nat) × P4 × P4) (mk := fun q => .tuple #[.slice q.1.1 c q.1.2, av q.2.1, av q.2.2]) (ens := fun q => [.ls (bw m) q.1.1 o.l, .own w.heap.size (av q.2.1) o.up, .own w.heap.size (av q.2.2) o.dn, .pr (q.1.1 = ao ∨ ∀ b o, q.1.1 = some ⟨b, o, none⟩ -> w.heap.size <= b)]) (fun w' H => by
  have hr : RowAt w' gs _ [.slice ra k rc, .slice la k lc] := H.m0;refine (HR.out w' (hr.cell 0) (hr.cell 1) (LgF.rl (H.m1 : LgF _ 1 ra k rc (rcs c hs) w')) (LgF.rl (H.m2 : LgF _ 1 la k lc (p.map fun x : Nat => Value.int .i64 (x : Int)) w')) H.m4 H.m3).mono fun e w'' ⟨⟨q, he, q1, q2, q3, q4⟩, hb⟩ => ⟨q, he, hb, fun e he => ?_⟩;rcases List.mem_cons.1 he with rfl | he
  · refine ⟨q1, rfl, fun b ⟨hl, o', e⟩ => ?_⟩;rcases q4 with q4 | q4
    · exact .inr ⟨.ls (bw m) ao l, by simp, rfl, by rw [HL.out.2.2.2.1, <- HL.out.2.1]; exact hl, o', q4 ▸ e⟩
    · exact .inl (q4 b o' e)
  · rcases List.mem_cons.1 he with rfl | he
    · exact ⟨OwnI.mono q2 H.size, rfl, fun _ h => h.elim⟩
    · rcases List.mem_cons.1 he with rfl | he
      · exact ⟨OwnI.mono q3 H.size, rfl, fun _ h => h.elim⟩
      · rcases List.mem_singleton.1 he with rfl;exact ⟨q4.imp id fun q b o e => Nat.le_trans H.size (q b o e), rfl, fun _ h => h.elim⟩) fun q => ?_
 simp only [av];refine dW ?_;refine dW ?_;refine dW ?_;refine dW ?_;refine aW fun g8 => ?_;refine aW fun g9 => ?_;refine dW ?_;refine sG ?_;refine sG ?_;refine eW ?_;refine goW ?_;refine rW [] ?_;refine dW ?_;refine cV (v := .int .i64 (f : Int)) (fun w' H => by have := First13_c q.1.1 q.1.2 (bw m) o.l w' (H.all (.ls (bw m) q.1.1 o.l) (by simp)) (by omega) (by rw [HL.out.2.1]; omega); rw [HL.out.2.1, HFs.out] at this; exact this) ?_;refine dW ?_;refine eW ?_;refine goW ?_;refine prW (A := q.1.1 = ao ∨ ∀ b o, q.1.1 = some ⟨b, o, none⟩ -> w.heap.size <= b) (by simp) fun hq => ?_;have HQ := Lib.hid hq;clear hq;refine rW [] ?_;by_cases h : c <= f
 · have h01 : (c : Int) <= (f : Int) := by omega
   refine dW ?_;refine dW ?_;refine dB true ?_;refine eW ?_;refine goW ?_;refine ctW ?_;refine goW ?_;refine rW [] ?_;refine dW ?_;refine eW ?_;refine goW ?_;refine fin1 fun w' H => ?_;have H3 : Fr _ w w' [.row gs 56 [.slice ra k rc, .slice la k lc], .lg 22 1 ra k rc (rcs c hs), .lg 3 1 la k lc (p.map fun x : Nat => Value.int .i64 (x : Int)), .lrs (bw m) hs R] := H.pick (by repeat (first | exact Pk.n | refine Pk.c (by repeat (first | exact Rm.z | apply Rm.s)) ?_));refine ⟨_, rvT, false, ⟨ra, rc, la, lc, hs, R, p⟩, rfl, H.bs, put_sta HL.out.1 H3, fun g hg => .inl hg, H3.m3, fun t ht hl g o' e => ⟨put_ap HL.out.1 H3 ht hl e, .inl ⟨t, ht, hl, o', e⟩⟩, .inl ⟨rfl, by omega, rfl, rfl, rfl⟩⟩
 · have h01 : ¬ (c : Int) <= (f : Int) := by omega
   refine dW ?_;refine dW ?_;refine dB false ?_;refine eW ?_;refine goW ?_;refine cfW ?_;refine goW ?_;refine rW [] ?_;refine dW ?_;refine dW ?_;refine dW ?_;refine dW ?_;refine dW ?_;refine dW ?_;refine bW (m := 1) fun g29 => ?_;refine appG (k := k) (cap := rc) (g := g29) (c := 1) (ao := ra) (cs := rcs c hs) (v := .slice q.1.1 c q.1.2) Tryz.underlying46 info_S rfl (zc_one (.slice none 0 0) rfl (fun n h => nomatch h)) (by omega) (by omega) rfl ⟨rcs_now c hs, by decide⟩ (by simp) fun u => ?_;refine dW ?_;refine dW ?_;refine sW ?_;refine eW ?_;refine goW ?_;refine rW [] ?_;refine dW ?_;refine dW ?_;refine dW ?_;refine dW ?_;refine dW ?_;refine dW ?_;refine bW (m := 1) fun g39 => ?_;refine appG (k := k) (cap := lc) (g := g39) (c := 1) (ao := la) (cs := p.map fun x : Nat => Value.int .i64 (x : Int)) (v := .int .i64 (f : Int)) Tryz.underlying30 info_I rfl (zc_one (.int .i64 0) rfl (fun n h => nomatch h)) (by omega) (by omega) rfl ⟨ils_now p, by decide⟩ (by simp) fun v => ?_;refine dW ?_;refine dW ?_;refine sW ?_;refine eW ?_;refine goW ?_;refine rW [] ?_;refine dW ?_;refine eW ?_;refine goW ?_;refine fin1 fun w' H => ?_;have e1 : rcs c hs ++ [.slice q.1.1 c q.1.2] = rcs c (hs ++ [q.1]) := by simp [rcs]
   have e2 : (p.map fun x : Nat => Value.int .i64 (x : Int)) ++ [.int .i64 (f : Int)] = (p ++ [f]).map fun x : Nat => Value.int .i64 (x : Int) := by simp
   rw [e1, e2] at H;have hkl : (R ++ [o.l]).length = k + 1 := by rw [List.length_append, HL.out.1]; rfl
   have HLR : ∀ t, t < (R ++ [o.l]).length -> LsAt w' (bw m) ((hs ++ [q.1]).getD t (none, 0)).1 ((R ++ [o.l]).getD t []) := fun t ht => by
    have a1 : ∀ t, t < R.length -> LsAt w' (bw m) (hs.getD t (none, 0)).1 (R.getD t []) := H.all (.lrs (bw m) hs R) (by simp);have a2 : LsAt w' (bw m) q.1.1 o.l := H.all (.ls (bw m) q.1.1 o.l) (by simp);rw [getD_app, getD_app, show hs.length = R.length from HL.out.2.2.2.2.2];by_cases q1 : t < R.length
    · rw [if_pos q1, if_pos q1]; exact a1 t q1
    · rw [if_neg q1, if_neg q1, if_pos (by have := HL.out.1; simp at ht; omega), if_pos (by have := HL.out.1; simp at ht; omega)]; exact a2
   have H3 : Fr _ w w' [.row gs 56 [.slice u.1 (k + 1) u.2, .slice v.1 (k + 1) v.2], .lg 22 1 u.1 (k + 1) u.2 (rcs c (hs ++ [q.1])), .lg 3 1 v.1 (k + 1) v.2 ((p ++ [f]).map fun x : Nat => Value.int .i64 (x : Int)), .lrs (bw m) hs R, .ls (bw m) q.1.1 o.l] := H.pick (by repeat (first | exact Pk.n | refine Pk.c (by repeat (first | exact Rm.z | apply Rm.s)) ?_));exact ⟨_, rvT, true, ⟨u.1, u.2, v.1, v.2, hs ++ [q.1], R ++ [o.l], p ++ [f]⟩, rfl, H.bs, put_sta2 hkl H3, fun g hg => put_own H3 g hg, HLR, fun t ht hl g o' e => put_ap2 HL.out.2.2.2.2.2 HL.out.1 HL.out.2.1 HL.out.2.2.2.1 HQ.out H3 ht hl e, .inr ⟨rfl, by omega, rfl, rfl, by simp; exact HL.out.2.2.2.2.2⟩⟩
set_option maxRecDepth 100000 in
set_option maxHeartbeats 2000000 in
theorem Alike_c (v u : Value) (x y : Int) (w : World) (h1 : NumAt w v x) (h2 : NumAt w u y) (hx : wlen x.natAbs <= 17592186044415) (hy : wlen y.natAbs <= 17592186044415) :
 Calls Tryz.prog 49 #[v, u] w fun e w' => e = .returned (.bool (decide (x = y))) /\ Below w.heap.size w w' := by
 obtain ⟨ao1, cap1, rfl, hW1, _⟩ := h1.least;obtain ⟨ao2, cap2, rfl, hW2, _⟩ := h2.least;clear h1 h2;have hAL := alike_bool x y;obtain ⟨r1, r2, hb⟩ := two_new w #[.bool (decide (x < 0)), .slice ao1 (wlen x.natAbs) cap1] #[.bool (decide (y < 0)), .slice ao2 (wlen y.natAbs) cap2] 37 37;have HM := Lib.hid (RSame_c ao1 ao2 (wlen x.natAbs) cap1 (wlen y.natAbs) cap2 _ _ _ (hW1.below hb) (hW2.below hb) rfl rfl hx hy);obtain ⟨n1, hn1⟩ : ∃ n1, decide (x < 0) = n1 := ⟨_, rfl⟩;obtain ⟨n2, hn2⟩ : ∃ n2, decide (y < 0) = n2 := ⟨_, rfl⟩;obtain ⟨m, hm⟩ : ∃ m, decide (dig x.natAbs = dig y.natAbs) = m := ⟨_, rfl⟩;obtain ⟨l1, hl1⟩ : ∃ l1, wlen x.natAbs = l1 := ⟨_, rfl⟩;obtain ⟨l2, hl2⟩ : ∃ l2, wlen y.natAbs = l2 := ⟨_, rfl⟩;simp only [hn1, hn2, hl1, hl2, hm] at r1 r2 hb HM;rw [hn1, hn2, hm] at hAL;rw [hn1, hn2, hl1, hl2];have HAL := Lib.hid hAL; clear hAL hn1 hn2 hm hl1 hl2 hW1 hW2 hx hy;have R1 := Lib.hid r1;have R2 := Lib.hid r2;have e10 := r1.cell 0;have e11 := r1.cell 1;have e20 := r2.cell 0;have e21 := r2.cell 1;have HB := Lib.hid hb; clear hb r1 r2;go_enter Tryz.func49, Tryz.ntmps49;go_wp2_with fail
 generalize (w.alloc (.cells #[.bool n1, .slice ao1 l1 cap1] 37)).alloc (.cells #[.bool n2, .slice ao2 l2 cap2] 37) = w2 at *;refine HM.out.mono ?_;rintro e w3 ⟨rfl, hb3⟩;have k10 := (R1.out.below hb3 R1.out.lt).cell 0;have k20 := (R2.out.below hb3 R2.out.lt).cell 0;have HB3 := Lib.hid (HB.out.trans (hb3.mono HB.out.size)); clear hb3 e10 e11 e20 e21;cases m
 · go_wp2;go_ret;exact ⟨by rw [<- HAL.out]; rfl, HB3.out⟩
 · cases n1 <;> cases n2;all_goals
    go_wp2;go_ret;exact ⟨by rw [<- HAL.out]; rfl, HB3.out⟩
set_option maxRecDepth 100000 in
set_option maxHeartbeats 4000000 in
theorem AlikeRows_c (aoA aoB : Option Addr) (lA cA lB cB : Nat) (xs ys : List Int) (w : World) (hA : LsN w aoA xs) (hB : LsN w aoB ys) (hlA : lA = xs.length) (hlB : lB = ys.length) (hmA : lA <= 8796093022208) (hmB : lB <= 8796093022208)
 (hx : ∀ x ∈ xs, wlen x.natAbs <= 17592186044415) (hy : ∀ x ∈ ys, wlen x.natAbs <= 17592186044415) :
 Calls Tryz.prog 31 #[.slice aoA lA cA, .slice aoB lB cB] w fun e w' => e = .returned (.bool (decide (xs = ys))) /\ Below w.heap.size w w' := by
 subst hlA hlB;have HA := Lib.hid hA; clear hA;have HB := Lib.hid hB; clear hB;have HX := Lib.hid (And.intro hx hy); clear hx hy;go_enter Tryz.func31, Tryz.ntmps31;by_cases hs : xs.length = ys.length
 · have hb : (((xs.length : Nat) : Int) != ((ys.length : Nat) : Int)) = false := by rw [hs]; simp
   have Hs := Lib.hid hs; clear hs;go_wp2;go_loopw [5] (fun i wr => ∃ k : Nat, k <= xs.length /\ i = .int .i64 (k : Int) /\ Hid (∀ j (h1 : j < xs.length) (h2 : j < ys.length), j < k -> xs[j] = ys[j]) /\ Hid (Below w.heap.size w wr)) (fun i _ => xs.length - (intOf i).toNat)
   case atStart => exact ⟨0, Nat.zero_le _, rfl, Lib.hid (fun j _ _ hj => by omega), Lib.hid (Below.refl _ _)⟩
   case round =>
    obtain ⟨k, hk, rfl, hag, hbl⟩ := hrel;by_cases h0 : k < xs.length
    · have h0y : k < ys.length := by have := Hs.out; omega
      have h01 : (k : Int) < (xs.length : Int) := by omega
      have h02 : (k : Int) < (ys.length : Int) := by omega
      obtain ⟨b1, o1, rfl, hb1, hc1⟩ := (HA.out.below hbl.out) (by omega);obtain ⟨b2, o2, rfl, hb2, hc2⟩ := (HB.out.below hbl.out) (by omega);obtain ⟨p, e10, e11, hn1⟩ := hc1 k h0;obtain ⟨q, e20, e21, hn2⟩ := hc2 k h0y;have HM : Hid (∀ m, Calls Tryz.prog 49 #[.agg #[.bool p.1, .slice p.2.1 p.2.2.1 p.2.2.2], .agg #[.bool q.1, .slice q.2.1 q.2.2.1 q.2.2.2]] (wr.drewN m) fun e w' => e = .returned (.bool (decide (xs[k] = ys[k]))) /\ Below (wr.drewN m).heap.size (wr.drewN m) w') :=
       Lib.hid (fun m => Alike_c _ _ _ _ _ (NumAt.below (w := wr) hn1 (below_drewN (Below.refl _ _) m)) (NumAt.below (w := wr) hn2 (below_drewN (Below.refl _ _) m)) (HX.out.1 _ (List.getElem_mem h0)) (HX.out.2 _ (List.getElem_mem h0y)))
      have HM1 : Hid (Calls Tryz.prog 49 #[.agg #[.bool p.1, .slice p.2.1 p.2.2.1 p.2.2.2], .agg #[.bool q.1, .slice q.2.1 q.2.2.1 q.2.2.2]] wr.drew fun e w' => e = .returned (.bool (decide (xs[k] = ys[k]))) /\ Below wr.drew.heap.size wr.drew w') := Lib.hid (HM.out 1);obtain ⟨t, ht⟩ : ∃ t, decide (xs[k] = ys[k]) = t := ⟨_, rfl⟩;rw [ht] at HM1;have HT := Lib.hid ht;clear hc1 hc2 hn1 hn2 HM ht;go_wp2
      go_region_held3 (fun w' => w'.cell? ⟨b1, o1 + k * 2, none⟩ = some (.bool p.1) /\ w'.cell? ⟨b1, o1 + k * 2 + 1, none⟩ = some (.slice p.2.1 p.2.2.1 p.2.2.2) /\ w'.cell? ⟨b2, o2 + k * 2, none⟩ = some (.bool q.1) /\ w'.cell? ⟨b2, o2 + k * 2 + 1, none⟩ = some (.slice q.2.1 q.2.2.1 q.2.2.2))
       (first | exact ⟨e10, e11, e20, e21⟩ | exact ⟨(hb3.cell (p := ⟨b1, o1 + k * 2, none⟩) hb1).trans e10, (hb3.cell (p := ⟨b1, o1 + k * 2 + 1, none⟩) hb1).trans e11, (hb3.cell (p := ⟨b2, o2 + k * 2, none⟩) hb2).trans e20, (hb3.cell (p := ⟨b2, o2 + k * 2 + 1, none⟩) hb2).trans e21⟩)
       (first | (go_at_call 49; refine HM1.out.mono ?_; rintro e w3 ⟨rfl, hb3⟩))
      have HB3 : Hid (Below w.heap.size w w3) := Lib.hid (hbl.out.drew.trans (hb3.mono hbl.out.size));cases t
      · have hd : decide (xs = ys) = false := by
         rw [decide_eq_false_iff_not]; intro e; have h9 := HT.out; rw [decide_eq_false_iff_not] at h9; exact h9 (by subst e; rfl)
        have HD := Lib.hid hd; clear hd e10 e11 e20 e21 hb3;go_wp2;go_ret;exact ⟨by rw [HD.out]; rfl, HB3.out⟩
      · clear e10 e11 e20 e21 hb3;go_wp2;go_roundw
        case rel => exact ⟨k + 1, by omega, by go_num, Lib.hid (fun j h1 h2 hj => by
         by_cases e : j = k
         · subst e; exact of_decide_eq_true HT.out
         · exact hag.out j h1 h2 (by omega)), HB3⟩
        case measure => simp [intOf]; omega
    · obtain rfl : k = xs.length := by omega
      have hd : decide (xs = ys) = true := by
       rw [decide_eq_true_iff];exact List.ext_getElem Hs.out fun j h1 h2 => hag.out j h1 h2 h1
      have HD := Lib.hid hd; clear hd;go_wp2;go_ret;exact ⟨by rw [HD.out]; rfl, hbl.out⟩
 · have hb : (((xs.length : Nat) : Int) != ((ys.length : Nat) : Int)) = true := by rw [bne_iff_ne]; omega
   have hd : decide (xs = ys) = false := by
    rw [decide_eq_false_iff_not]; intro e; exact hs (by rw [e])
   have HD := Lib.hid hd; clear hd hs;go_wp2;go_ret;exact ⟨by rw [HD.out]; rfl, Below.refl _ _⟩
set_option maxRecDepth 100000 in
set_option maxHeartbeats 4000000 in
theorem Sound_c (r c : Int) (ao : Option Addr) (len cap : Nat) (w : World) :
 Calls Tryz.prog 5 #[.agg #[.int .i64 r, .int .i64 c, .slice ao len cap]] w fun e w' => e = .returned (.bool (soundM r c len)) /\ Below w.heap.size w w' := by
 have hb : Below w.heap.size w (w.alloc (.cells #[.int .i64 r, .int .i64 c, .slice ao len cap] 24)) := (Below.refl _ _).alloc (Nat.le_refl _) _;have HB := Lib.hid hb; clear hb;have fin : ∀ b : Bool, soundM r c len = b -> Hid (soundM r c len = b) := fun b h => Lib.hid h;by_cases h1 : 0 <= r
 · have g1 : decide (0 <= r) = true := by simpa using h1
   by_cases h2 : r <= 64
   · have g2 : decide (r <= 64) = true := by simpa using h2
     by_cases h3 : 0 <= c
     · have g3 : decide (0 <= c) = true := by simpa using h3
       by_cases h4 : c <= 64
       · have g4 : decide (c <= 64) = true := by simpa using h4
         have hm : 0 <= r * c /\ r * c <= 4096 := by
          refine ⟨Int.mul_nonneg h1 h3, ?_⟩;have h5 := Int.mul_le_mul_of_nonneg_right h2 h3;omega
         have hs : soundM r c len = ((len : Int) == r * c) := by simp [soundM, sideOk, g1, g2, g3, g4]
         have hw : IntKind.i64.wrap (r * c) = r * c := wrap_small (by omega) (by omega);have HS := Lib.hid hs; clear hs hm;obtain ⟨q, hq⟩ : ∃ q, r * c = q := ⟨_, rfl⟩;rw [hq] at hw HS;have hw' : IntKind.i64.wrap (r * c) = q := by rw [hq]; exact hw
         clear hw hq;go_enter Tryz.func5, Tryz.ntmps5;go_wp2;go_ret;exact ⟨by rw [HS.out]; rfl, HB.out⟩
       · have g4 : decide (c <= 64) = false := by simpa using h4
         have HS := fin false (by simp [soundM, sideOk, g1, g2, g3, g4]);clear fin h1 h2 h3 h4;go_enter Tryz.func5, Tryz.ntmps5;go_wp2;go_ret;exact ⟨by rw [HS.out]; rfl, HB.out⟩
     · have g3 : decide (0 <= c) = false := by simpa using h3
       have HS := fin false (by simp [soundM, sideOk, g1, g2, g3]);clear fin h1 h2 h3;go_enter Tryz.func5, Tryz.ntmps5;go_wp2;go_ret;exact ⟨by rw [HS.out]; rfl, HB.out⟩
   · have g2 : decide (r <= 64) = false := by simpa using h2
     have HS := fin false (by simp [soundM, sideOk, g1, g2]);clear fin h1 h2;go_enter Tryz.func5, Tryz.ntmps5;go_wp2;go_ret;exact ⟨by rw [HS.out]; rfl, HB.out⟩
 · have g1 : decide (0 <= r) = false := by simpa using h1
   have HS := fin false (by simp [soundM, sideOk, g1]);clear fin h1;go_enter Tryz.func5, Tryz.ntmps5;go_wp2;go_ret;exact ⟨by rw [HS.out]; rfl, HB.out⟩
set_option maxRecDepth 100000 in
set_option maxHeartbeats 4000000 in
theorem M9Check_c (r c : Nat) (ao : Option Addr) (len cap : Nat) (w : World) (hr : r <= 64) (hc : c <= 64) (hs : len = r * c) :
 Calls Tryz.prog 21 #[.agg #[.int .i64 (r : Int), .int .i64 (c : Int), .slice ao len cap]] w fun e w' => e = .returned (.int .i64 0) /\ Below w.heap.size w w' := by
 have hb : Below w.heap.size w (w.alloc (.cells #[.int .i64 (r : Int), .int .i64 (c : Int), .slice ao len cap] 24)) := (Below.refl _ _).alloc (Nat.le_refl _) _;have HB := Lib.hid hb; clear hb;have hN : r * c <= 4096 := Nat.mul_le_mul hr hc;have hw : IntKind.i64.wrap ((r : Int) * (c : Int)) = (len : Int) := by
  rw [<- Int.natCast_mul, <- hs]; exact wrap_small (by omega) (by omega)
 clear hs hN;have g1 : decide ((r : Int) < 0) = false := by simp
 have g2 : decide (64 < (r : Int)) = false := by simp; omega
 have g3 : decide ((c : Int) < 0) = false := by simp
 have g4 : decide (64 < (c : Int)) = false := by simp; omega
 have g5 : ((len : Int) != (len : Int)) = false := by simp
 go_enter Tryz.func21, Tryz.ntmps21;go_wp2;go_ret;exact ⟨rfl, HB.out⟩
set_option maxRecDepth 100000 in
set_option maxHeartbeats 4000000 in
theorem AlikeMats_c (r1 c1 r2 c2 : Int) (aoA aoB : Option Addr) (lA cA lB cB : Nat) (xs ys : List Int) (w : World) (hA : LsN w aoA xs) (hB : LsN w aoB ys) (hlA : lA = xs.length) (hlB : lB = ys.length) (hmA : lA <= 8796093022208) (hmB : lB <= 8796093022208)
 (hx : ∀ x ∈ xs, wlen x.natAbs <= 17592186044415) (hy : ∀ x ∈ ys, wlen x.natAbs <= 17592186044415) :
 Calls Tryz.prog 13 #[.agg #[.int .i64 r1, .int .i64 c1, .slice aoA lA cA], .agg #[.int .i64 r2, .int .i64 c2, .slice aoB lB cB]] w fun e w' => e = .returned (.bool (decide (xs = ys) && (r1 == r2) && (c1 == c2))) /\ Below w.heap.size w w' := by
 obtain ⟨q1, q2, hb⟩ := two_new w #[.int .i64 r1, .int .i64 c1, .slice aoA lA cA] #[.int .i64 r2, .int .i64 c2, .slice aoB lB cB] 24 24;have HM := Lib.hid (AlikeRows_c aoA aoB lA cA lB cB xs ys _ (hA.below hb) (hB.below hb) hlA hlB hmA hmB hx hy);obtain ⟨t, ht⟩ : ∃ t, decide (xs = ys) = t := ⟨_, rfl⟩;rw [ht] at HM ⊢;have R1 := Lib.hid q1;have R2 := Lib.hid q2;have e2 := q1.cell 2;have e5 := q2.cell 2;have HB := Lib.hid hb;clear hb q1 q2 hA hB hlA hlB hx hy ht;go_enter Tryz.func13, Tryz.ntmps13;go_wp2_with fail
 generalize (w.alloc (.cells #[.int .i64 r1, .int .i64 c1, .slice aoA lA cA] 24)).alloc (.cells #[.int .i64 r2, .int .i64 c2, .slice aoB lB cB] 24) = w2 at *;refine HM.out.mono ?_;rintro e w3 ⟨rfl, hb3⟩;have k0 := (R1.out.below hb3 R1.out.lt).cell 0;have k1 := (R1.out.below hb3 R1.out.lt).cell 1;have k3 := (R2.out.below hb3 R2.out.lt).cell 0;have k4 := (R2.out.below hb3 R2.out.lt).cell 1;have HB3 := Lib.hid (HB.out.trans (hb3.mono HB.out.size));clear hb3 e2 e5;cases t
 · go_wp2;go_ret;exact ⟨rfl, HB3.out⟩
 · cases hrr : (r1 == r2)
   · go_wp2;go_ret;exact ⟨by rw [hrr]; rfl, HB3.out⟩
   · go_wp2;go_ret;exact ⟨by rw [hrr]; rfl, HB3.out⟩
end Go.Proofs.YtdgfhcaokigieaaGreat
namespace Go.Proofs.YtdgfhcaokigieaaGreat
def HF (r c : Nat) (E : Nat -> Nat -> Int) : Prop := ∃ k l, k <= r /\ Herm k c E l /\ ∀ i, k <= i -> i < r -> ∀ b, E i b = 0
structure IsLead (c : Nat) (E : Nat -> Nat -> Int) (i j : Nat) : Prop where
 le : j <= c
 zero : ∀ b, b < j -> E i b = 0
 ne : j < c -> E i j ≠ 0
def FI (c : Nat) (E : Nat -> Nat -> Int) (i : Nat) (last : Int) : Prop :=
 ∃ k l, k <= i /\ Herm k c E l /\ (∀ a, k <= a -> a < i -> ∀ b, b < c -> E a b = 0) /\ last = (if k < i then (c : Int) else if k = 0 then -1 else (l (k - 1) : Int))
theorem FI.start (c : Nat) (E : Nat -> Nat -> Int) : FI c E 0 (-1) :=
 ⟨0, fun _ => 0, Nat.le_refl _, ⟨⟨fun i k _ h => by omega, fun i h => by omega, fun i h => by omega, fun i h => by omega⟩, fun i k _ h => by omega⟩, fun a _ h => by omega, rfl⟩
theorem FI.fin {r c : Nat} {E : Nat -> Nat -> Int} {last : Int} (hE : ∀ i b, c <= b -> E i b = 0) (h : FI c E r last) : HF r c E := by
 obtain ⟨k, l, hk, hH, hz, _⟩ := h;exact ⟨k, l, hk, hH, fun i hi hr b => by
  by_cases hb : b < c
  · exact hz i hi hr b hb
  · exact hE i b (by omega)⟩
theorem FI.skip {c i : Nat} {E : Nat -> Nat -> Int} {last : Int} (h : FI c E i last) (hl : IsLead c E i c) : FI c E (i + 1) (c : Int) := by
 obtain ⟨k, l, hk, hH, hz, _⟩ := h;refine ⟨k, l, by omega, hH, fun a h1 h2 b hb => ?_, by rw [if_pos (by omega)]⟩;by_cases e : a = i
 · subst e; exact hl.zero b hb
 · exact hz a h1 (by omega) b hb
theorem FI.next {c i j : Nat} {E : Nat -> Nat -> Int} {last : Int} (h : FI c E i last) (hl : IsLead c E i j) (hj : j < c) (hlast : last < (j : Int)) (hp : 0 < E i j) (hr : ∀ a, a < i -> 0 <= E a j /\ E a j < E i j) : FI c E (i + 1) (j : Int) := by
 obtain ⟨k, l, hk, hH, hz, hla⟩ := h;have hki : k = i := by
  by_cases e : k < i
  · rw [if_pos e] at hla; omega
  · omega
 subst hki;rw [if_neg (by omega)] at hla;have hlo : ∀ a, a < k -> l a < j := fun a ha => by
  rw [if_neg (by omega)] at hla;rcases Nat.lt_or_eq_of_le (show a <= k - 1 by omega) with e | e
  · have := hH.inc a (k - 1) e (by omega); omega
  · subst e; omega
 have h2 : ∀ a, a < k -> (if a < k then l a else j) = l a := fun a ha => if_pos ha;have h3 : (if k < k then l k else j) = j := if_neg (by omega);refine ⟨k + 1, fun a => if a < k then l a else j, Nat.le_refl _, ⟨⟨fun a b hab hb => ?_, fun a ha => ?_, fun a ha b hb => ?_, fun a ha => ?_⟩, fun a b hab hb => ?_⟩, fun a h1 h2 => by omega, ?_⟩
 · show (if a < k then l a else j) < (if b < k then l b else j);rw [h2 a (by omega)];by_cases e : b < k
   · rw [h2 b e]; exact hH.inc a b hab e
   · obtain rfl : b = k := by omega
     rw [h3]; exact hlo a (by omega)
 · show (if a < k then l a else j) < c;by_cases e : a < k
   · rw [h2 a e]; exact hH.lt a e
   · obtain rfl : a = k := by omega
     rw [h3]; exact hj
 · have hb : b < (if a < k then l a else j) := hb;by_cases e : a < k
   · rw [h2 a e] at hb; exact hH.zero a e b hb
   · obtain rfl : a = k := by omega
     rw [h3] at hb; exact hl.zero b hb
 · show 0 < E a (if a < k then l a else j);by_cases e : a < k
   · rw [h2 a e]; exact hH.pos a e
   · obtain rfl : a = k := by omega
     rw [h3]; exact hp
 · show 0 <= E a (if b < k then l b else j) /\ E a (if b < k then l b else j) < E b (if b < k then l b else j);by_cases e : b < k
   · rw [h2 b e]; exact hH.red a b hab e
   · obtain rfl : b = k := by omega
     rw [h3]; exact hr a hab
 · rw [if_neg (by omega), if_neg (by omega)];show (j : Int) = ((if k + 1 - 1 < k then l (k + 1 - 1) else j : Nat) : Int);rw [if_neg (by omega)]
theorem HF.row {r c i j : Nat} {E : Nat -> Nat -> Int} {last : Int} (h : HF r c E) (hi : i < r) (hl : IsLead c E i j) (hj : j < c) (hF : FI c E i last) : last < (j : Int) /\ 0 < E i j /\ ∀ a, a < i -> 0 <= E a j /\ E a j < E i j := by
 obtain ⟨K, L, hK, hH, hz⟩ := h;obtain ⟨k, l, hk, hHk, hzk, hla⟩ := hF;have hiK : i < K := by
  by_cases e : i < K
  · exact e
  · exact absurd (hz i (by omega) hi j) (hl.ne hj)
 have hLj : ∀ {a q : Nat}, a < K -> (∀ b, b < q -> E a b = 0) -> E a q ≠ 0 -> L a = q := fun {a q} ha h0 hn => by
  rcases Nat.lt_trichotomy (L a) q with e | e | e
  · have := hH.pos a ha; have := h0 _ e; omega
  · exact e
  · exact absurd (hH.zero a ha q e) hn
 have hLi : L i = j := hLj hiK hl.zero (hl.ne hj);have hki : k = i := by
  by_cases e : k < i
  · exfalso;have h1 := hH.pos k (by omega);rw [hzk k (Nat.le_refl _) e (L k) (hH.lt k (by omega))] at h1;omega
  · omega
 subst hki;rw [if_neg (by omega)] at hla;refine ⟨?_, by rw [<- hLi]; exact hH.pos k hiK, fun a ha => by rw [<- hLi]; exact hH.red a k ha hiK⟩;by_cases e : k = 0
 · rw [if_pos e] at hla; omega
 · rw [if_neg e] at hla;have h1 : L (k - 1) = l (k - 1) := hLj (by omega) (hHk.zero (k - 1) (by omega)) (by have := hHk.pos (k - 1) (by omega); omega);have h2 := hH.inc (k - 1) k (by omega) hiK;omega
theorem HF.zeros {r c i : Nat} {E : Nat -> Nat -> Int} (h : HF r c E) (hi : i < r) (hl : ∀ b, E i b = 0) : ∀ a, i <= a -> a < r -> ∀ b, E a b = 0 := by
 obtain ⟨K, L, hK, hH, hz⟩ := h;have hiK : K <= i := by
  by_cases e : K <= i
  · exact e
  · have := hH.pos i (by omega); rw [hl] at this; omega
 exact fun a h1 h2 b => hz a (by omega) h2 b
theorem HF.congr {r c : Nat} {E F : Nat -> Nat -> Int} (h : HF r c E) (e : ∀ i, i < r -> ∀ b, F i b = E i b) : HF r c F := by
 obtain ⟨k, l, hk, hH, hz⟩ := h;exact ⟨k, l, hk, hH.congr (fun a ha b => e a (by omega) b), fun i hi hr b => (e i hr b).trans (hz i hi hr b)⟩
theorem IsHnf.hf {r c k : Nat} {xs hs : List Int} {l : Nat -> Nat} (h : IsHnf r c xs hs k l) : HF r c (matE hs r c) := ⟨k, l, h.kr, h.herm, fun i hi _ b => h.zero i hi b⟩
end Go.Proofs.YtdgfhcaokigieaaGreat
namespace Go.Proofs.YtdgfhcaokigieaaGreat
open Go.RowKit
theorem isLead_of {R : List Hd} {c i : Nat} (hi : i < R.length) (hs : Sh c R) : IsLead c (ent R) i (leadOf R i) := by
 have h := lead_ent hi hs;exact ⟨h.1, h.2.1, h.2.2⟩
set_option maxRecDepth 100000 in
set_option maxHeartbeats 4000000 in
theorem IsForm_c (r c m : Nat) (ao : Option Addr) (len cap : Nat) (xs : List Int) (w : World) (hr : r <= 64) (hc : c <= 64) (h : LsAt w 17592186044415 ao xs) (hm : ∀ x ∈ xs, wlen x.natAbs <= m) (hm1 : m <= 8796093022208) (hl : len = xs.length) (hs : xs.length = r * c) :
 Calls Tryz.prog 18 #[.agg #[.int .i64 (r : Int), .int .i64 (c : Int), .slice ao len cap]] w fun e w' => (∃ t, e = .returned (.tuple #[.bool t, .int .i64 0]) /\ (t = true ↔ HF r c (matE xs r c))) /\ Below w.heap.size w w' := by
 subst hl;have hwl : ∀ x ∈ xs, wlen x.natAbs <= 17592186044415 := fun x hx => Nat.le_trans (hm x hx) (by omega);have HXS := Lib.hid h; clear h;have HWL := Lib.hid hwl; clear hwl;have hsnd : soundM (r : Int) (c : Int) xs.length = true := by
  unfold soundM sideOk;rw [hs]; simp; omega
 have HS := Lib.hid hs; clear hs;have HM := Lib.hid hm; clear hm;have HCK := Lib.hid (chkM_ok hsnd); clear hsnd;have r1 := RowAt.new w #[.int .i64 (r : Int), .int .i64 (c : Int), .slice ao xs.length cap] 24;have hb : Below w.heap.size w (w.alloc (.cells #[.int .i64 (r : Int), .int .i64 (c : Int), .slice ao xs.length cap] 24)) := (Below.refl _ _).alloc (Nat.le_refl _) _;go_enter Tryz.func18, Tryz.ntmps18;go_wp2_with fail
 generalize w.alloc (.cells #[.int .i64 (r : Int), .int .i64 (c : Int), .slice ao xs.length cap] 24) = w2 at *;refine (Check_c (r : Int) (c : Int) ao xs.length cap _ (by omega) (by omega)).mono ?_;rintro e w3 ⟨rfl, hb3⟩;rw [HCK.out];have R1 := Lib.hid (r1.below hb3 r1.lt);have L3 := Lib.hid ((HXS.out.below hb).below hb3);have B3 := Lib.hid (hb.trans (hb3.mono hb.size));have e0 := R1.out.cell 0;have e1 := R1.out.cell 1;have e2 := R1.out.cell 2;have hs3 : w.heap.size < w3.heap.size := R1.out.lt;clear r1 hb hb3;go_wp2_with fail
 refine (callsIn_wide.1 (lines_c r c ao xs.length cap xs w3 hr hc L3.out HWL.out rfl HS.out)).mono ?_;rintro e w4 ⟨⟨o, R, rfl, hM, hRl, hRx, hob, hRb⟩, hb4⟩;obtain ⟨hSh, hE⟩ := ent_rows hRl HS.out hRx;have hbd : ∀ q ∈ R, ∀ x ∈ q.xs, wlen x.natAbs <= m := fun q hq x hx => by
  obtain ⟨k, hk, rfl⟩ := List.getElem_of_mem hq;rw [hRx k hk] at hx;exact HM.out x (List.mem_of_mem_drop (List.mem_of_mem_take hx))
 have HH := Lib.hid (And.intro hSh (And.intro hE hbd));have HMN := Lib.hid hM; clear hM;have R14 := Lib.hid (R1.out.below hb4 R1.out.lt);have B4 := Lib.hid (B3.out.trans (hb4.mono B3.out.size));have HRl := Lib.hid hRl;clear hb4 e0 e1 e2 hSh hE hRx hbd R1 L3 B3 hob hRb;rw [hRl];clear hRl;go_wp2;go_loopw [5, 21] (fun l_ i_ wr => ∃ (i : Nat) (last : Int), i <= r /\ i_ = .int .i64 (i : Int) /\ l_ = .int .i64 last /\ -1 <= last /\ last <= 64 /\ Hid (FI c (ent R) i last) /\ Hid (Below w4.heap.size w4 wr)) (fun _ i_ _ => r - (intOf i_).toNat)
 case atStart => exact ⟨0, -1, Nat.zero_le _, rfl, rfl, by omega, by omega, Lib.hid (FI.start c _), Lib.hid (Below.refl _ _)⟩
 case round =>
  obtain ⟨i, last, hi, rfl, rfl, hla1, hla2, hF, hBl⟩ := hrel;by_cases hin : i < r
  · have hin1 : (i : Int) < (r : Int) := by omega
    have hiR : i < R.length := by rw [HRl.out]; exact hin
    have hM' := HMN.out.below hBl.out;have c0 := hM'.hdr hiR;have hxl : R[i].xs.length = c := HH.out.1.get hiR;unfold Hd.hdr at c0;have hlead := Lead_c R[i].blk R[i].cap R[i].xs wr (hM'.row _ (List.getElem_mem hiR)) (fun x hx => Nat.le_trans (HH.out.2.2 _ (List.getElem_mem hiR) x hx) (by omega)) (by omega);have hle := leadOf_eq hiR;rw [<- hle] at hlead;rw [hxl] at c0 hlead;have hIL := isLead_of hiR HH.out.1;obtain ⟨j, hj⟩ : ∃ j, leadOf R i = j := ⟨_, rfl⟩;rw [hj] at hlead hIL;have HLead := Lib.hid hlead; clear hlead;have HIL := Lib.hid hIL;have hjc : j <= c := hIL.le;have g1 := (R14.out.below hBl.out R14.out.lt).cell 1;simp only [List.getElem?_cons_zero, List.getElem?_cons_succ] at g1;clear hIL hle hj;go_wp2_with fail
    refine HLead.out.mono ?_;rintro e w5 ⟨rfl, hb5⟩;have B5 := Lib.hid (hBl.out.trans (hb5.mono hBl.out.size));have g1' := (R14.out.below B5.out R14.out.lt).cell 1;simp only [List.getElem?_cons_zero, List.getElem?_cons_succ] at g1';clear hb5 g1 c0 hBl;by_cases hjl : j = c
    · subst hjl;have hs2 := Lib.hid (hF.out.skip HIL.out);have hjj : ((j : Int) == (j : Int)) = true := by simp
      go_wp2;go_roundw
      case rel => exact ⟨i + 1, (j : Int), by omega, by go_num, rfl, by omega, by omega, hs2, B5⟩
      case measure => simp [intOf]; omega
    · have hjn : ((j : Int) == (c : Int)) = false := by simp; omega
      have hjc2 : j < c := by omega
      obtain ⟨p, q0, q1, hn⟩ := ((HMN.out.below B5.out).row _ (List.getElem_mem hiR)).get (i := j) (by rw [hxl]; exact hjc2);have hjx : (j : Int) < (c : Int) := by omega
      have hent : ent R i j = R[i].xs[j]'(by rw [hxl]; exact hjc2) := ent_eq hiR (by rw [hxl]; exact hjc2);rw [<- hent] at hn;have hwx : wlen (ent R i j).natAbs <= m := by rw [hent]; exact HH.out.2.2 _ (List.getElem_mem hiR) _ (List.getElem_mem _)
      have HN := Lib.hid (hn.int (L := 17592186044415) (by omega));have HENT := Lib.hid hent;clear hn hent hwx;have hnot : ∀ t : Bool, t = false -> (∀ h : HF r c (ent R), False) -> (t = true ↔ HF r c (matE xs r c)) := fun t ht hno => by
       subst ht;exact Iff.intro (fun h => by cases h) (fun h => (hno (HF.congr h (fun a _ b => HH.out.2.1 a b))).elim)
      have HNo := Lib.hid hnot; clear hnot;have hBf : Below w.heap.size w w5 := B4.out.trans (B5.out.mono B4.out.size);have HBf := Lib.hid hBf; clear hBf;by_cases hjla : (j : Int) <= last
      · have hno := Lib.hid (fun h : HF r c (ent R) => by have := (h.row hin HIL.out hjc2 hF.out).1; omega : HF r c (ent R) -> False);have t1 : decide ((j : Int) <= last) = true := by simpa using hjla
        go_wp2;go_ret2;exact ⟨⟨false, rfl, HNo.out _ rfl hno.out⟩, HBf.out⟩
      · have t1 : decide ((j : Int) <= last) = false := by simpa using hjla
        have hF' := Lib.hid (And.intro hF.out (show last < (j : Int) by omega));have hs1 := ISign_c (av p) (ent R i j) w5 HN.out;obtain ⟨x, hx⟩ : ∃ x, ent R i j = x := ⟨_, rfl⟩;rw [hx] at hs1;obtain ⟨zs, hzs⟩ : ∃ zs, zsign x = zs := ⟨_, rfl⟩;rw [hzs] at hs1;have HS1 := Lib.hid hs1; clear hs1;unfold av at *;clear hjla hF;by_cases hxn : x < 0
        · have t2 : decide (zs < 0) = true := by rw [<- hzs]; unfold zsign; rw [if_pos hxn]; rfl
          have hno := Lib.hid (fun h : HF r c (ent R) => by have := (h.row hin HIL.out hjc2 hF'.out.1).2.1; omega : HF r c (ent R) -> False);clear hx hzs hxn;go_wp2_with fail
          refine HS1.out.mono ?_;rintro e w6 ⟨rfl, hb6⟩;have HB6 := Lib.hid (HBf.out.trans (hb6.mono HBf.out.size)); clear hb6;go_wp2;go_ret2;exact ⟨⟨false, rfl, HNo.out _ rfl hno.out⟩, HB6.out⟩
        · have t2 : decide (zs < 0) = false := by rw [<- hzs]; unfold zsign; rw [if_neg hxn]; split <;> rfl
          have hxp : 0 < x := by have := HIL.out.ne hjc2; rw [hx] at this; omega
          have HX := Lib.hid (And.intro hx hxp); clear hx hzs hxn hxp;go_wp2_with fail
          refine HS1.out.mono ?_;rintro e w6 ⟨rfl, hb6⟩;have B6 := Lib.hid (B5.out.trans (hb6.mono B5.out.size)); clear hb6 q0 q1 g1' HS1;clear B5 HBf HN;go_wp2;go_loopw [49] (fun a_ wq => ∃ (a : Nat), a <= i /\ a_ = .int .i64 (a : Int) /\ Hid (∀ a', a' < a -> 0 <= ent R a' j /\ ent R a' j < x) /\ Hid (Below w4.heap.size w4 wq)) (fun a_ _ => i - (intOf a_).toNat)
          case atStart => exact ⟨0, Nat.zero_le _, rfl, Lib.hid (fun a' h => by omega), B6⟩
          case round =>
           obtain ⟨a, ha, rfl, hag, hBl⟩ := hrel;by_cases hai : a < i
           · have hai1 : (a : Int) < (i : Int) := by omega
             have haR : a < R.length := by omega
             have hM' := HMN.out.below hBl.out;have c0 := hM'.hdr haR;unfold Hd.hdr at c0;have hal : R[a].xs.length = c := HH.out.1.get haR;rw [hal] at c0;obtain ⟨pa, qa0, qa1, hna⟩ := (hM'.row _ (List.getElem_mem haR)).get (i := j) (by rw [hal]; exact hjc2);obtain ⟨pi, qi0, qi1, hni⟩ := (hM'.row _ (List.getElem_mem hiR)).get (i := j) (by rw [hxl]; exact hjc2);have hea : ent R a j = R[a].xs[j]'(by rw [hal]; exact hjc2) := ent_eq haR (by rw [hal]; exact hjc2);rw [<- hea] at hna;rw [<- HENT.out, HX.out.1] at hni;have hwa : wlen (ent R a j).natAbs <= m := by rw [hea]; exact HH.out.2.2 _ (List.getElem_mem haR) _ (List.getElem_mem _)
             have hwi : wlen x.natAbs <= m := by rw [<- HX.out.1, HENT.out]; exact HH.out.2.2 _ (List.getElem_mem hiR) _ (List.getElem_mem _)
             have hba : R[a].blk < wr.heap.size := (hM'.row _ (List.getElem_mem haR)).lt;have hbi : R[i].blk < wr.heap.size := (hM'.row _ (List.getElem_mem hiR)).lt;obtain ⟨y, hy⟩ : ∃ y, ent R a j = y := ⟨_, rfl⟩;rw [hy] at hna hwa;have HY := Lib.hid hy; clear hy hea;have HNa := Lib.hid (hna.int (L := 17592186044415) (by omega));have HNi := Lib.hid (hni.int (L := 17592186044415) (by omega));clear hna hni hwa hwi hM';obtain ⟨za, hza⟩ : ∃ za, zsign y = za := ⟨_, rfl⟩;obtain ⟨zc, hzc⟩ : ∃ zc, zcmp y x = zc := ⟨_, rfl⟩;have hS : Hid (Calls Tryz.prog 37 #[.agg #[.bool pa.1, .slice pa.2.1 pa.2.2.1 pa.2.2.2]] wr.drew fun e w' => e = .returned (.int .i64 za) /\ Below wr.drew.heap.size wr.drew w') := Lib.hid (by
              have := ISign_c (av pa) y wr.drew (IntAt.below (w := wr) HNa.out (Below.refl _ _).drew); rw [hza] at this; exact this)
             have hC : Hid (∀ W : World, Below wr.heap.size wr W -> Calls Tryz.prog 38 #[.agg #[.bool pa.1, .slice pa.2.1 pa.2.2.1 pa.2.2.2], .agg #[.bool pi.1, .slice pi.2.1 pi.2.2.1 pi.2.2.2]] W fun e w' => e = .returned (.int .i64 zc) /\ Below W.heap.size W w') := Lib.hid (fun W hW => by
              have := ICmp_c (av pa) (av pi) y x W (IntAt.below HNa.out hW) (IntAt.below HNi.out hW); rw [hzc] at this; exact this)
             unfold av at *;by_cases hyn : y < 0
             · have t3 : decide (za < 0) = true := by rw [<- hza]; unfold zsign; rw [if_pos hyn]; rfl
               have hno := Lib.hid (fun h : HF r c (ent R) => by have := (h.row hin HIL.out hjc2 hF'.out.1).2.2 a hai; rw [HY.out] at this; omega : HF r c (ent R) -> False);have T3 := Lib.hid t3;clear hza hzc hyn hC qi0 qi1 t3;go_wp2;have t3 : decide (za < 0) = true := T3.out;refine wp_region_any (by kernel_rfl) ?_;try (change wpAny _ _ _ _ _ _ _ (World.drew _))
               refine wpAny_take (i := 0) (v := ?_) rfl (by kernel_rfl) (by kernel_rfl) (by kernel_rfl) (fun _ _ _ h => h) (Or.inl ⟨by kernel_rfl, ?_⟩) ?_;rotate_left
               · intro w; go_simp; try (with_reducible rfl)
               refine wpAny_take (i := 1) (v := ?_) rfl (by kernel_rfl) (by kernel_rfl) (by kernel_rfl) (fun _ _ _ h => h) (Or.inl ⟨by kernel_rfl, ?_⟩) ?_;rotate_left
               · intro w; go_simp; try (with_reducible rfl)
               refine wpAny_take (i := 2) (v := ?_) rfl (by kernel_rfl) (by kernel_rfl) (by kernel_rfl) (fun _ _ _ h => h) (Or.inl ⟨by kernel_rfl, ?_⟩) ?_;rotate_left
               · intro w; go_simp; try (with_reducible rfl)
               refine wpAny_ready (rs := [3]) (by kernel_rfl) (by simp) ?_;refine AllReady.cons rfl (fun K hK => ?_) AllReady.nil;go_simp;refine hK _ _ ?_;clear hK K;refine wpAny_ready (rs := [4]) (by kernel_rfl) (by simp) ?_;refine AllReady.cons rfl (fun K hK => ?_) AllReady.nil;go_simp;go_wp2_with (first | (go_at_call 37; refine hS.out.mono ?_; rintro e w7 ⟨rfl, hb7⟩))
               refine wpAny_take (i := 5) (v := ?_) rfl (by kernel_rfl) (by kernel_rfl) (by kernel_rfl) (fun _ _ _ h => h) (Or.inl ⟨by kernel_rfl, ?_⟩) ?_;rotate_left
               · intro w; go_simp; try (with_reducible rfl)
               refine wpAny_take (i := 6) (v := ?_) rfl (by kernel_rfl) (by kernel_rfl) (by kernel_rfl) (fun _ _ _ h => h) (Or.inl ⟨by kernel_rfl, ?_⟩) ?_;rotate_left
               · intro w; go_simp; try (with_reducible rfl)
               refine wpAny_take (i := 7) (v := undef) rfl (by kernel_rfl) (by kernel_rfl) (by kernel_rfl) (fun _ _ _ h => h) (Or.inr ⟨by kernel_rfl, rfl⟩) ?_;refine wpAny_take (i := 8) (v := undef) rfl (by kernel_rfl) (by kernel_rfl) (by kernel_rfl) (fun _ _ _ h => h) (Or.inr ⟨by kernel_rfl, rfl⟩) ?_;refine wpAny_take (i := 9) (v := undef) rfl (by kernel_rfl) (by kernel_rfl) (by kernel_rfl) (fun _ _ _ h => h) (Or.inr ⟨by kernel_rfl, rfl⟩) ?_;refine wpAny_take (i := 10) (v := undef) rfl (by kernel_rfl) (by kernel_rfl) (by kernel_rfl) (fun _ _ _ h => h) (Or.inr ⟨by kernel_rfl, rfl⟩) ?_;refine wpAny_take (i := 11) (v := undef) rfl (by kernel_rfl) (by kernel_rfl) (by kernel_rfl) (fun _ _ _ h => h) (Or.inr ⟨by kernel_rfl, rfl⟩) ?_;refine wpAny_take (i := 12) (v := undef) rfl (by kernel_rfl) (by kernel_rfl) (by kernel_rfl) (fun _ _ _ h => h) (Or.inr ⟨by kernel_rfl, rfl⟩) ?_;refine wpAny_take (i := 13) (v := undef) rfl (by kernel_rfl) (by kernel_rfl) (by kernel_rfl) (fun _ _ _ h => h) (Or.inr ⟨by kernel_rfl, rfl⟩) ?_;refine wpAny_take (i := 14) (v := undef) rfl (by kernel_rfl) (by kernel_rfl) (by kernel_rfl) (fun _ _ _ h => h) (Or.inr ⟨by kernel_rfl, rfl⟩) ?_;refine wpAny_take (i := 15) (v := undef) rfl (by kernel_rfl) (by kernel_rfl) (by kernel_rfl) (fun _ _ _ h => h) (Or.inr ⟨by kernel_rfl, rfl⟩) ?_;refine wpAny_take (i := 16) (v := undef) rfl (by kernel_rfl) (by kernel_rfl) (by kernel_rfl) (fun _ _ _ h => h) (Or.inr ⟨by kernel_rfl, rfl⟩) ?_;refine wpAny_take (i := 17) (v := ?_) rfl (by kernel_rfl) (by kernel_rfl) (by kernel_rfl) (fun _ _ _ h => h) (Or.inl ⟨by kernel_rfl, ?_⟩) ?_;rotate_left
               · intro w; go_simp; try (with_reducible rfl)
               refine wpAny_done (by kernel_rfl) ?_ _;have HB7 : Hid (Below w.heap.size w w7) := Lib.hid (B4.out.trans ((hBl.out.drew.trans (hb7.mono hBl.out.size)).mono B4.out.size));clear hb7 hS hBl;go_simp;go_wp2;go_ret2;exact ⟨⟨false, rfl, HNo.out _ rfl hno.out⟩, HB7.out⟩
             · have t3 : decide (za < 0) = false := by rw [<- hza]; unfold zsign; rw [if_neg hyn]; split <;> rfl
               obtain ⟨t, ht⟩ : ∃ t, decide (0 <= zc) = t := ⟨_, rfl⟩;have hty : t = false -> y < x := fun e => by
                subst e;rw [decide_eq_false_iff_not, <- hzc] at ht;unfold zcmp at ht;by_cases h : y < x
                · exact h
                · rw [if_neg h] at ht; split at ht <;> omega
               have hty2 : t = true -> ¬ y < x := fun e h => by
                subst e;rw [decide_eq_true_iff, <- hzc] at ht;unfold zcmp at ht;rw [if_pos h] at ht;omega
               have HTY := Lib.hid (And.intro hty (And.intro hty2 hyn));have T3 := Lib.hid t3;clear hza hzc hyn hty hty2 t3;go_wp2;have t3 : decide (za < 0) = false := T3.out;refine wp_region_any (by kernel_rfl) ?_;try (change wpAny _ _ _ _ _ _ _ (World.drew _))
               refine wpAny_take (i := 0) (v := ?_) rfl (by kernel_rfl) (by kernel_rfl) (by kernel_rfl) (fun _ _ _ h => h) (Or.inl ⟨by kernel_rfl, ?_⟩) ?_;rotate_left
               · intro w; go_simp; try (with_reducible rfl)
               refine wpAny_take (i := 1) (v := ?_) rfl (by kernel_rfl) (by kernel_rfl) (by kernel_rfl) (fun _ _ _ h => h) (Or.inl ⟨by kernel_rfl, ?_⟩) ?_;rotate_left
               · intro w; go_simp; try (with_reducible rfl)
               refine wpAny_take (i := 2) (v := ?_) rfl (by kernel_rfl) (by kernel_rfl) (by kernel_rfl) (fun _ _ _ h => h) (Or.inl ⟨by kernel_rfl, ?_⟩) ?_;rotate_left
               · intro w; go_simp; try (with_reducible rfl)
               refine wpAny_ready (rs := [3]) (by kernel_rfl) (by simp) ?_;refine AllReady.cons rfl (fun K hK => ?_) AllReady.nil;go_simp;refine hK _ _ ?_;clear hK K;refine wpAny_ready (rs := [4]) (by kernel_rfl) (by simp) ?_;refine AllReady.cons rfl (fun K hK => ?_) AllReady.nil;go_simp;go_wp2_with (first | (go_at_call 37; refine hS.out.mono ?_; rintro e w7 ⟨rfl, hb7⟩; have k0 := (hb7.cell (p := ⟨R[a].blk, j * 2, none⟩) hba).trans qa0; have k1 := (hb7.cell (p := ⟨R[a].blk, j * 2 + 1, none⟩) hba).trans qa1; have k2 := (hb7.cell (p := ⟨R[i].blk, j * 2, none⟩) hbi).trans qi0; have k3 := (hb7.cell (p := ⟨R[i].blk, j * 2 + 1, none⟩) hbi).trans qi1))
               refine wpAny_take (i := 5) (v := ?_) rfl (by kernel_rfl) (by kernel_rfl) (by kernel_rfl) (fun _ _ _ h => h) (Or.inl ⟨by kernel_rfl, ?_⟩) ?_;rotate_left
               · intro w; go_simp; try (with_reducible rfl)
               refine wpAny_take (i := 6) (v := ?_) rfl (by kernel_rfl) (by kernel_rfl) (by kernel_rfl) (fun _ _ _ h => h) (Or.inl ⟨by kernel_rfl, ?_⟩) ?_;rotate_left
               · intro w; go_simp; try (with_reducible rfl)
               refine wpAny_take (i := 7) (v := ?_) rfl (by kernel_rfl) (by kernel_rfl) (by kernel_rfl) (fun _ _ _ h => h) (Or.inl ⟨by kernel_rfl, ?_⟩) ?_;rotate_left
               · intro w; go_simp; try (with_reducible rfl)
               refine wpAny_take (i := 8) (v := ?_) rfl (by kernel_rfl) (by kernel_rfl) (by kernel_rfl) (fun _ _ _ h => h) (Or.inl ⟨by kernel_rfl, ?_⟩) ?_;rotate_left
               · intro w; go_simp; try (with_reducible rfl)
               refine wpAny_take (i := 9) (v := ?_) rfl (by kernel_rfl) (by kernel_rfl) (by kernel_rfl) (fun _ _ _ h => h) (Or.inl ⟨by kernel_rfl, ?_⟩) ?_;rotate_left
               · intro w; go_simp; try (with_reducible rfl)
               refine wpAny_take (i := 11) (v := ?_) rfl (by kernel_rfl) (by kernel_rfl) (by kernel_rfl) (fun _ _ _ h => h) (Or.inl ⟨by kernel_rfl, ?_⟩) ?_;rotate_left
               · intro w; go_simp; try (with_reducible rfl)
               refine wpAny_take (i := 12) (v := ?_) rfl (by kernel_rfl) (by kernel_rfl) (by kernel_rfl) (fun _ _ _ h => h) (Or.inl ⟨by kernel_rfl, ?_⟩) ?_;rotate_left
               · intro w; go_simp; try (with_reducible rfl)
               refine wpAny_take (i := 13) (v := ?_) rfl (by kernel_rfl) (by kernel_rfl) (by kernel_rfl) (fun _ _ _ h => h) (Or.inl ⟨by kernel_rfl, ?_⟩) ?_;rotate_left
               · intro w; go_simp; try (with_reducible rfl)
               refine wpAny_ready (rs := [10, 14]) (by kernel_rfl) (by simp) ?_;refine AllReady.cons rfl (fun K hK => ?_) (AllReady.cons rfl (fun K hK => ?_) AllReady.nil)
               · go_simp;refine hK _ _ ?_;clear hK K;refine wpAny_ready (rs := [14]) (by kernel_rfl) (by simp) ?_;refine AllReady.cons rfl (fun K hK => ?_) AllReady.nil;go_simp;refine hK _ _ ?_;clear hK K;refine wpAny_ready (rs := [15]) (by kernel_rfl) (by simp) ?_;refine AllReady.cons rfl (fun K hK => ?_) AllReady.nil;go_simp;go_wp2_with (first | (go_at_call 38; refine (hC.out _ ((Below.refl _ wr).drew.trans hb7)).mono ?_; rintro e w8 ⟨rfl, hb8⟩))
                 refine wpAny_take (i := 16) (v := ?_) rfl (by kernel_rfl) (by kernel_rfl) (by kernel_rfl) (fun _ _ _ h => h) (Or.inl ⟨by kernel_rfl, ?_⟩) ?_;rotate_left
                 · intro w; go_simp; try (with_reducible rfl)
                 refine wpAny_take (i := 17) (v := ?_) rfl (by kernel_rfl) (by kernel_rfl) (by kernel_rfl) (fun _ _ _ h => h) (Or.inl ⟨by kernel_rfl, ?_⟩) ?_;rotate_left
                 · intro w; go_simp; try (with_reducible rfl)
                 refine wpAny_done (by kernel_rfl) ?_ _;have HB8 : Hid (Below w4.heap.size w4 w8) := Lib.hid ((hBl.out.drew.trans (hb7.mono hBl.out.size)).trans (hb8.mono (Nat.le_trans hBl.out.size hb7.size)));clear hb7 hb8 hS hC hBl k0 k1 k2 k3 qa0 qa1 qi0 qi1 c0;clear ht;go_simp;cases t
                 · go_wp2;go_roundw
                   case rel => exact ⟨a + 1, by omega, by go_num, Lib.hid (fun a' h => by
                    by_cases e : a' = a
                    · subst e; rw [HY.out]; exact ⟨by have := HTY.out.2.2; omega, HTY.out.1 rfl⟩
                    · exact hag.out a' (by omega)), HB8⟩
                   case measure => simp [intOf]; omega
                 · have hno := Lib.hid (fun h : HF r c (ent R) => by have := (h.row hin HIL.out hjc2 hF'.out.1).2.2 a hai; rw [HY.out, HX.out.1] at this; have h8 := HTY.out.2.1 rfl; omega : HF r c (ent R) -> False);have HB9 : Hid (Below w.heap.size w w8) := Lib.hid (B4.out.trans (HB8.out.mono B4.out.size));go_wp2;go_ret2;first | exact ⟨⟨false, rfl, HNo.out _ rfl hno.out⟩, HB9.out⟩ | exact ⟨.inl ⟨rfl, fun h => by have h8 := (HNo.out _ rfl hno.out).2 h; cases h8⟩, HB9.out⟩
               · go_simp;refine hK _ _ ?_;clear hK K;refine wpAny_ready (rs := [10]) (by kernel_rfl) (by simp) ?_;refine AllReady.cons rfl (fun K hK => ?_) AllReady.nil;go_simp;refine hK _ _ ?_;clear hK K;refine wpAny_ready (rs := [15]) (by kernel_rfl) (by simp) ?_;refine AllReady.cons rfl (fun K hK => ?_) AllReady.nil;go_simp;go_wp2_with (first | (go_at_call 38; refine (hC.out _ ((Below.refl _ wr).drew.trans hb7)).mono ?_; rintro e w8 ⟨rfl, hb8⟩))
                 refine wpAny_take (i := 16) (v := ?_) rfl (by kernel_rfl) (by kernel_rfl) (by kernel_rfl) (fun _ _ _ h => h) (Or.inl ⟨by kernel_rfl, ?_⟩) ?_;rotate_left
                 · intro w; go_simp; try (with_reducible rfl)
                 refine wpAny_take (i := 17) (v := ?_) rfl (by kernel_rfl) (by kernel_rfl) (by kernel_rfl) (fun _ _ _ h => h) (Or.inl ⟨by kernel_rfl, ?_⟩) ?_;rotate_left
                 · intro w; go_simp; try (with_reducible rfl)
                 refine wpAny_done (by kernel_rfl) ?_ _;have HB8 : Hid (Below w4.heap.size w4 w8) := Lib.hid ((hBl.out.drew.trans (hb7.mono hBl.out.size)).trans (hb8.mono (Nat.le_trans hBl.out.size hb7.size)));clear hb7 hb8 hS hC hBl k0 k1 k2 k3 qa0 qa1 qi0 qi1 c0;clear ht;go_simp;cases t
                 · go_wp2;go_roundw
                   case rel => exact ⟨a + 1, by omega, by go_num, Lib.hid (fun a' h => by
                    by_cases e : a' = a
                    · subst e; rw [HY.out]; exact ⟨by have := HTY.out.2.2; omega, HTY.out.1 rfl⟩
                    · exact hag.out a' (by omega)), HB8⟩
                   case measure => simp [intOf]; omega
                 · have hno := Lib.hid (fun h : HF r c (ent R) => by have := (h.row hin HIL.out hjc2 hF'.out.1).2.2 a hai; rw [HY.out, HX.out.1] at this; have h8 := HTY.out.2.1 rfl; omega : HF r c (ent R) -> False);have HB9 : Hid (Below w.heap.size w w8) := Lib.hid (B4.out.trans (HB8.out.mono B4.out.size));go_wp2;go_ret2;first | exact ⟨⟨false, rfl, HNo.out _ rfl hno.out⟩, HB9.out⟩ | exact ⟨.inl ⟨rfl, fun h => by have h8 := (HNo.out _ rfl hno.out).2 h; cases h8⟩, HB9.out⟩
           · obtain rfl : a = i := by omega
             have hnx := Lib.hid (hF'.out.1.next HIL.out hjc2 hF'.out.2 (by rw [HX.out.1]; exact HX.out.2) (fun a' h => by rw [HX.out.1]; exact hag.out a' h));go_wp2;go_roundw
             case rel => exact ⟨a + 1, (j : Int), by omega, by go_num, rfl, by omega, by omega, hnx, hBl⟩
             case measure => simp [intOf]; omega
  · obtain rfl : i = r := by omega
    have hfin : HF i c (ent R) := hF.out.fin (fun a b hb => HH.out.1.wide a hb);have HFN := Lib.hid hfin; clear hfin;go_wp2;go_ret2;refine ⟨⟨true, rfl, fun _ => HFN.out.congr (fun a _ b => (HH.out.2.1 a b).symm), fun _ => rfl⟩, B4.out.trans (hBl.out.mono B4.out.size)⟩
theorem ownsRow_below {w w' : World} {base : Nat} {e : TypeId} {size : Nat} {v : Value} {n : Nat} {xs : List Value} (h : w.ownsRow base e size v n xs) (hb : Below w.heap.size w w') : w'.ownsRow base e size v n xs := by
 refine ⟨h.1, ?_⟩;rcases h.2 with hn | ⟨g, cap, cur, hv, hg, hc, rest⟩
 · exact .inl hn
 · refine .inr ⟨g, cap, cur, hv, hg, ?_, rest⟩;have hlt : g < w.heap.size := by
    by_cases e : g < w.heap.size
    · exact e
    · rw [Array.getElem?_eq_none (by omega)] at hc; cases hc
   rw [hb.block g hlt]; exact hc
structure PV (c : Nat) (E : Nat -> Nat -> Int) (i : Nat) (ls : List Nat) : Prop where
 len : ls.length = i
 herm : Herm i c E (fun a => ls.getD a 0)
def lastP (ls : List Nat) : Int := if ls.length = 0 then -1 else (ls.getD (ls.length - 1) 0 : Int)
theorem PV.start (c : Nat) (E : Nat -> Nat -> Int) : PV c E 0 [] :=
 ⟨rfl, ⟨⟨fun i k _ h => by omega, fun i h => by omega, fun i h => by omega, fun i h => by omega⟩, fun i k _ h => by omega⟩⟩
theorem PV.fi {c : Nat} {E : Nat -> Nat -> Int} {i : Nat} {ls : List Nat} (h : PV c E i ls) : FI c E i (lastP ls) := by
 refine ⟨i, fun a => ls.getD a 0, Nat.le_refl _, h.herm, fun a h1 h2 => by omega, ?_⟩;rw [if_neg (by omega)];unfold lastP;rw [h.len]
theorem Ech.leadAt {n c : Nat} {E : Nat -> Nat -> Int} {l : Nat -> Nat} (h : Ech n c E l) {a q : Nat} (ha : a < n) (h0 : ∀ b, b < q -> E a b = 0) (hn : E a q ≠ 0) : l a = q := by
 rcases Nat.lt_trichotomy (l a) q with e | e | e
 · have := h.pos a ha; have := h0 _ e; omega
 · exact e
 · exact absurd (h.zero a ha q e) hn
theorem Herm.lcongr {n c : Nat} {E : Nat -> Nat -> Int} {l l' : Nat -> Nat} (h : Herm n c E l) (e : ∀ a, a < n -> l' a = l a) : Herm n c E l' := by
 refine ⟨⟨fun i k hik hk => ?_, fun i hi => ?_, fun i hi j hj => ?_, fun i hi => ?_⟩, fun i k hik hk => ?_⟩
 · rw [e i (by omega), e k hk]; exact h.inc i k hik hk
 · rw [e i hi]; exact h.lt i hi
 · rw [e i hi] at hj; exact h.zero i hi j hj
 · rw [e i hi]; exact h.pos i hi
 · rw [e k hk]; exact h.red i k hik hk
theorem PV.next {c : Nat} {E : Nat -> Nat -> Int} {i j : Nat} {ls : List Nat} (h : PV c E i ls) (hl : IsLead c E i j) (hj : j < c) (hlast : lastP ls < (j : Int)) (hp : 0 < E i j) (hr : ∀ a, a < i -> 0 <= E a j /\ E a j < E i j) : PV c E (i + 1) (ls ++ [j]) := by
 obtain ⟨k, l, hk, hH, hz, hla⟩ := h.fi.next hl hj hlast hp hr;have hki : k = i + 1 := by
  by_cases e : k < i + 1
  · rw [if_pos e] at hla; omega
  · omega
 subst hki;refine ⟨by simp [h.len], hH.lcongr fun a ha => ?_⟩;by_cases e : a < i
 · have e1 : (ls ++ [j]).getD a 0 = ls.getD a 0 := by
    rw [List.getD_eq_getElem?_getD, List.getD_eq_getElem?_getD, List.getElem?_append_left (by rw [h.len]; exact e)]
   show (ls ++ [j]).getD a 0 = l a;rw [e1];exact (hH.leadAt ha (h.herm.zero a e) (by have := h.herm.pos a e; omega)).symm
 · obtain rfl : a = i := by omega
   have e1 : (ls ++ [j]).getD a 0 = j := by
    rw [List.getD_eq_getElem?_getD, List.getElem?_append_right (by rw [h.len]; exact Nat.le_refl _), h.len]; simp
   show (ls ++ [j]).getD a 0 = l a;rw [e1];exact (hH.leadAt ha hl.zero (by omega)).symm
def Pvs (r c : Nat) (E : Nat -> Nat -> Int) (ls : List Nat) : Prop := ∃ i, i <= r /\ PV c E i ls /\ ∀ a, i <= a -> a < r -> ∀ b, E a b = 0
theorem info_intP : (Tryz.prog.info? 3).map (fun i => (i.zero, i.size, i.bytes)) = some (some (.int .i64 0), 1, 8) := by kernel_rfl
def litsN (ls : List Nat) : List Value := ls.map fun (a : Nat) => Value.int .i64 (a : Int)
theorem own_ge {w : World} {base : Nat} {e : TypeId} {size n : Nat} {v : Value} {xs : List Value} (h : w.ownsRow base e size v n xs) : ∀ k, v.ownBlock = some k -> base <= k := by
 intro k hk;rcases h.2 with ⟨rfl, _⟩ | ⟨g, cap, cur, rfl, hg, _⟩
 · cases hk
 · have : g = k := by simpa [Value.ownBlock] using hk
   omega
theorem LsAt.up {w : World} {L L' : Nat} {ao : Option Addr} {xs : List Int} (h : LsAt w L ao xs) (hL : L <= L') : LsAt w L' ao xs := fun hl => by
 obtain ⟨b, o, e, hlt, hc⟩ := h hl;exact ⟨b, o, e, hlt, fun i hi => by obtain ⟨p, h0, h1, hn⟩ := hc i hi; exact ⟨p, h0, h1, hn.mono hL⟩⟩
def PVz (c : Nat) (E : Nat -> Nat -> Int) (i : Nat) (ls : List Nat) : Prop := ∃ i0, i0 <= i /\ PV c E i0 ls /\ ∀ a, i0 <= a -> a < i -> ∀ b, E a b = 0
theorem PVz.start (c : Nat) (E : Nat -> Nat -> Int) : PVz c E 0 [] := ⟨0, Nat.le_refl _, PV.start c E, fun a h1 h2 => by omega⟩
theorem PVz.zero {c : Nat} {E : Nat -> Nat -> Int} {i : Nat} {ls : List Nat} (h : PVz c E i ls) (hz : ∀ b, E i b = 0) : PVz c E (i + 1) ls := by
 obtain ⟨i0, h0, hp, h1⟩ := h;refine ⟨i0, by omega, hp, fun a ha hb => ?_⟩;by_cases e : a = i
 · subst e; exact hz
 · exact h1 a ha (by omega)
theorem PVz.next {r c : Nat} {E : Nat -> Nat -> Int} {i j : Nat} {ls : List Nat} (h : PVz c E i ls) (hF : HF r c E) (hi : i < r) (hl : IsLead c E i j) (hj : j < c) : PVz c E (i + 1) (ls ++ [j]) := by
 obtain ⟨i0, h0, hp, h1⟩ := h;obtain rfl : i0 = i := by
  by_cases e : i0 < i
  · exact absurd (hF.zeros (by omega : i0 < r) (h1 i0 (Nat.le_refl _) e) i (by omega) hi j) (hl.ne hj)
  · omega
 obtain ⟨a1, a2, a3⟩ := hF.row hi hl hj hp.fi;exact ⟨i0 + 1, Nat.le_refl _, hp.next hl hj a1 a2 a3, fun a ha hb => by omega⟩
theorem PVz.len {c : Nat} {E : Nat -> Nat -> Int} {i : Nat} {ls : List Nat} (h : PVz c E i ls) : ls.length <= i := by
 obtain ⟨i0, h0, hp, _⟩ := h;rw [hp.len]; exact h0
set_option maxRecDepth 100000 in
set_option maxHeartbeats 4000000 in
theorem PivH_c (r c m : Nat) (ao : Option Addr) (len cap : Nat) (xs : List Int) (w : World) (hr : r <= 64) (hc : c <= 64) (h : LsAt w 17592186044415 ao xs) (hm : ∀ x ∈ xs, wlen x.natAbs <= m) (hm1 : m <= 8796093022208) (hl : len = xs.length) (hs : xs.length = r * c) (hF : HF r c (matE xs r c)) :
 Calls Tryz.prog 7 #[.agg #[.int .i64 (r : Int), .int .i64 (c : Int), .slice ao len cap]] w fun e w' => (∃ v ls, e = .returned (.tuple #[v, .int .i64 0]) /\ Pvs r c (matE xs r c) ls /\ w'.ownsRow w.heap.size 3 1 v ls.length (litsN ls) ) /\ Below w.heap.size w w' := by
 subst hl;have hwl : ∀ x ∈ xs, wlen x.natAbs <= 17592186044415 := fun x hx => Nat.le_trans (hm x hx) (by omega);have HI := Lib.hid (fun w2 (h2 : LsAt w2 17592186044415 ao xs) => IsForm_c r c m ao xs.length cap xs w2 hr hc h2 hm hm1 rfl hs);have HWL := Lib.hid hwl; clear hwl;have HS := Lib.hid hs; clear hs;have HM := Lib.hid hm; clear hm;have HF0 := Lib.hid hF; clear hF;have r1 := RowAt.new w #[.int .i64 (r : Int), .int .i64 (c : Int), .slice ao xs.length cap] 24;have hb : Below w.heap.size w (w.alloc (.cells #[.int .i64 (r : Int), .int .i64 (c : Int), .slice ao xs.length cap] 24)) := (Below.refl _ _).alloc (Nat.le_refl _) _;have HXS := Lib.hid (h.below hb); clear h;obtain ⟨i0, hi0, hz0, hz1, hz2⟩ := info_parts info_intP;go_enter Tryz.func7, Tryz.ntmps7;go_wp2_with fail
 generalize w.alloc (.cells #[.int .i64 (r : Int), .int .i64 (c : Int), .slice ao xs.length cap] 24) = w2 at *;refine (HI.out w2 HXS.out).mono ?_;rintro e w3 ⟨⟨t, rfl, ht⟩, hb3⟩;obtain rfl : t = true := ht.2 HF0.out;clear ht;have R1 := Lib.hid (r1.below hb3 r1.lt);have L3 := Lib.hid (HXS.out.below hb3);have B3 := Lib.hid (hb.trans (hb3.mono hb.size));have e0 := R1.out.cell 0;have e1 := R1.out.cell 1;have e2 := R1.out.cell 2;have hs3 : w.heap.size < w3.heap.size := R1.out.lt;clear r1 hb hb3 HI;go_wp2_with fail
 refine (callsIn_wide.1 (lines_c r c ao xs.length cap xs w3 hr hc L3.out HWL.out rfl HS.out)).mono ?_;rintro e w4 ⟨⟨o, R, rfl, hM, hRl, hRx, hob, hRb⟩, hb4⟩;obtain ⟨hSh, hE⟩ := ent_rows hRl HS.out hRx;have hbd : ∀ q ∈ R, ∀ x ∈ q.xs, wlen x.natAbs <= m := fun q hq x hx => by
  obtain ⟨k, hk, rfl⟩ := List.getElem_of_mem hq;rw [hRx k hk] at hx;exact HM.out x (List.mem_of_mem_drop (List.mem_of_mem_take hx))
 have hHF : HF r c (ent R) := HF0.out.congr (fun a _ b => hE a b);have HH := Lib.hid (And.intro hSh (And.intro hE (And.intro hbd hHF)));have HMN := Lib.hid hM; clear hM;have R14 := Lib.hid (R1.out.below hb4 R1.out.lt);have B4 := Lib.hid (B3.out.trans (hb4.mono B3.out.size));have HRl := Lib.hid hRl;have hs4 : w.heap.size < w4.heap.size := R14.out.lt;clear hb4 e0 e1 e2 hSh hE hRx hbd R1 L3 B3 hob hRb hHF;rw [hRl];clear hRl;go_wp2;go_loopw [6, 23] (fun v i_ wr => ∃ (i : Nat) (ls : List Nat), i <= r /\ i_ = .int .i64 (i : Int) /\ Hid (PVz c (ent R) i ls) /\ Hid (wr.ownsRow w4.heap.size 3 1 v ls.length (litsN ls)) /\ Hid (Below w4.heap.size w4 wr)) (fun _ i_ _ => r - (intOf i_).toNat)
 case atStart => exact ⟨0, [], Nat.zero_le _, rfl, Lib.hid (PVz.start c _), Lib.hid (World.ownsRow_nil _ _ _ _), Lib.hid (Below.refl _ _)⟩
 case round =>
  obtain ⟨i, ls, hi, rfl, hPV, hOwn, hBl⟩ := hrel;by_cases hin : i < r
  · have hin1 : (i : Int) < (r : Int) := by omega
    have hiR : i < R.length := by rw [HRl.out]; exact hin
    have hM' := HMN.out.below hBl.out;have c0 := hM'.hdr hiR;have hxl : R[i].xs.length = c := HH.out.1.get hiR;unfold Hd.hdr at c0;have hlead := Lead_c R[i].blk R[i].cap R[i].xs wr (hM'.row _ (List.getElem_mem hiR)) (fun x hx => Nat.le_trans (HH.out.2.2.1 _ (List.getElem_mem hiR) x hx) (by omega)) (by omega);have hle := leadOf_eq hiR;rw [<- hle] at hlead;rw [hxl] at c0 hlead;have hIL := isLead_of hiR HH.out.1;obtain ⟨j, hj⟩ : ∃ j, leadOf R i = j := ⟨_, rfl⟩;rw [hj] at hlead hIL;have HLead := Lib.hid hlead; clear hlead;have HIL := Lib.hid hIL;have hjc : j <= c := hIL.le;have g1 := (R14.out.below hBl.out R14.out.lt).cell 1;simp only [List.getElem?_cons_zero, List.getElem?_cons_succ] at g1;clear hIL hle hj hxl;go_wp2_with fail
    refine HLead.out.mono ?_;rintro e w5 ⟨rfl, hb5⟩;have B5 := Lib.hid (hBl.out.trans (hb5.mono hBl.out.size));have g1' := (R14.out.below B5.out R14.out.lt).cell 1;simp only [List.getElem?_cons_zero, List.getElem?_cons_succ] at g1';have Own5 := Lib.hid (ownsRow_below hOwn.out hb5);have hs5 := B5.out.size;clear hb5 g1 c0 hBl hOwn;by_cases hjl : j = c
    · subst hjl;have hs2 := Lib.hid (hPV.out.zero (fun b => by
       by_cases e : b < j
       · exact HIL.out.zero b e
       · exact HH.out.1.wide i (by omega)))
      have hjj : decide ((j : Int) < (j : Int)) = false := by simp
      have hjj2 : decide (j < j) = false := by simp
      go_wp2;go_roundw
      case rel => exact ⟨i + 1, ls, by omega, by go_num, hs2, Own5, B5⟩
      case measure => simp [intOf]; omega
    · have hjn : (j : Int) < (c : Int) := by omega
      have hs2 := Lib.hid (hPV.out.next HH.out.2.2.2 hin HIL.out (by omega));have hll := hPV.out.len;go_wp2_with (at_builtin; refine wpList_append_own _ rfl _ _ 30 rfl w4.heap.size 3 i0 (.int .i64 0) 1 8 Tryz.underlying30 hi0 hz0 hz1 hz2 rfl (by decide) _ _ _ rfl (Own5.out.alloc _) ⟨w5.heap.size, 0, none⟩ 1 1 [.int .i64 (j : Int)] rfl rfl (cell_one_new _ _ _) (by simp [Value.oneCell']) (by unfold maxLen; omega) (by omega) (by simp; omega) ?_; intro v' w11 hown' hgrow' hnil')
      have hb12 := Lib.hid (Below.grown (B5.out.alloc B5.out.size _) hgrow' (B5.out.alloc B5.out.size _).size (fun k hk => own_ge Own5.out k hk));have hown'' := Lib.hid hown';clear hown' hgrow' hnil';go_roundw
      case rel => exact ⟨i + 1, ls ++ [j], by omega, by go_num, hs2, Lib.hid (by have h9 := hown''.out; simpa [litsN] using h9), hb12⟩
      case measure => simp [intOf]; omega
  · obtain rfl : i = r := by omega
    have HP := Lib.hid (show Pvs i c (matE xs i c) ls from by
     obtain ⟨k, hk, hp, hz⟩ := hPV.out;exact ⟨k, hk, ⟨hp.len, hp.herm.congr (fun a ha b => (HH.out.2.1 a b).symm)⟩, fun a h1 h2 b => by rw [<- HH.out.2.1]; exact hz a h1 h2 b⟩)
    go_wp2;go_ret2;exact ⟨⟨_, ls, rfl, HP.out, World.ownsRow.mono hOwn.out (by omega)⟩, B4.out.trans (hBl.out.mono B4.out.size)⟩
theorem rowOf_gd13 {xs : List Int} {r c i : Nat} (hs : xs.length = r * c) (hi : i < r) (b : Nat) : (rowOf xs c i).getD b 0 = matE xs r c i b := by
 by_cases hb : b < c
 · rw [getD_rowOf _ _ _ _ hb, matE_eq hi hb]
 · rw [gd_ge _ _ (by rw [rowOf_length hs hi]; omega), matE_col _ (by omega)]
theorem lt_ls13 {w : World} {ao : Option Addr} {xs : List Int} {B : Nat} (h : LsAt w B ao xs) : ∀ x ∈ xs, x.natAbs < W ^ B := fun x hx => by
 obtain ⟨i, hi, rfl⟩ := List.getElem_of_mem hx;obtain ⟨b, o, _, _, hc⟩ := h (by omega);obtain ⟨q, _, _, hI⟩ := hc i hi;exact Nat.lt_of_lt_of_le (lt_pow_wlen _) (Nat.pow_le_pow_right (by decide) hI.wlen)
theorem convW {P : Program} {Q : Exit -> Act -> World -> Prop} {S0 : Nat -> Prop} {w0 : World} {n : Nat} {ls : List (Nat × Value)} {es : List En} {c : Code} {e e' : En} (h1 : ∀ w, e.F w -> e'.F w) (h2 : ∀ b, e'.S b -> e.S b) (h3 : e'.wr = true -> e.wr = true) (k : CW P n S0 w0 c Q ls (e' :: es)) : CW P n S0 w0 c Q ls (e :: es) := fun a w ha hw => k a w ha (hw.conv (h1 w) h2 h3)
def sta0 : Sta := ⟨none, 0, none, 0, [], [], []⟩
theorem sta0_at {g c : Nat} {w : World} (h : RowAt w g 56 [.slice none 0 0, .slice none 0 0]) : StaF g c sta0 w :=
 ⟨h, LgF.nil .., LgF.nil .., (fun _ _ e => nomatch e), (fun _ _ e => nomatch e), (fun _ _ _ _ e => nomatch e)⟩
instance : Nonempty Sta := ⟨sta0⟩
structure RwX where
 i : Nat
 lo : Option Addr
 lc : Nat
 vs : List Nat
 z : Sta
structure RwI (r c : Nat) (A : Mx) (i : Nat) (z : Sta) : Prop where
 st : StI r c i A z.R z.p
 hl : z.hs.length = z.R.length
 pc : ∀ t, t < z.R.length -> z.p.getD t 0 < c
structure RwJ (r c : Nat) (A : Mx) (x : RwX) : Prop where
 hi : x.i <= r
 vl : x.vs.length = x.z.R.length
 in_ : RwI r c A x.i x.z
theorem matE_abs {xs : List Int} {r c B : Nat} (h : ∀ x ∈ xs, x.natAbs <= B) (i j : Nat) : (matE xs r c i j).natAbs <= B := by
 unfold matE;split
 · by_cases q : i * c + j < xs.length
   · have : xs.getD (i * c + j) 0 = xs[i * c + j] := by simp [q]
     rw [this]; exact h _ (List.getElem_mem q)
   · simp [Nat.le_of_not_lt q]
 · exact Nat.zero_le _
theorem RwI.pt {r c m i : Nat} {xs : List Int} {z : Sta} (h : RwI r c (matE xs r c) i z) (hs : xs.length = r * c) (hi : i < r) (hr : r <= 64) (hc : c <= 64) (hb : ∀ x ∈ xs, x.natAbs <= W ^ m) (hm : m <= 1048576) : PtA r c m i (matE xs r c) z (rowOf xs c i) :=
 ⟨h.st, h.hl, rowOf_length hs hi, by have := h.st.kl; omega, hc, h.pc, fun s _ j => matE_abs hb s j, fun j => by
  have := rowOf_gd13 hs hi j;unfold gi; rw [this]; exact matE_abs hb i j, hm⟩
theorem RwI.skip {r c i : Nat} {xs : List Int} {z z' : Sta} (h : RwI r c (matE xs r c) i z) (hs : xs.length = r * c) (hi : i < r) (hz : fst0 (r13 z.R z.p (rowOf xs c i) z.R.length).l = c) (e1 : z'.R = z.R) (e2 : z'.p = z.p) (e3 : z'.hs = z.hs) : RwI r c (matE xs r c) (i + 1) z' := by
 have hl := rowOf_length hs hi;refine ⟨?_, by rw [e1, e3]; exact h.hl, fun t ht => by rw [e2]; exact h.pc t (by rw [e1] at ht; exact ht)⟩;rw [e1, e2];exact h.st.skip hl (fun j => by unfold gi; exact rowOf_gd13 hs hi j) (by rw [hz, r13_length, hl])
theorem RwI.put {r c i : Nat} {xs : List Int} {z z' : Sta} (h : RwI r c (matE xs r c) i z) (hs : xs.length = r * c) (hi : i < r) (hz : fst0 (r13 z.R z.p (rowOf xs c i) z.R.length).l < c) (e1 : z'.R = z.R ++ [(r13 z.R z.p (rowOf xs c i) z.R.length).l]) (e2 : z'.p = z.p ++ [fst0 (r13 z.R z.p (rowOf xs c i) z.R.length).l]) (e3 : z'.hs.length = z'.R.length) : RwI r c (matE xs r c) (i + 1) z' := by
 have hl := rowOf_length hs hi;refine ⟨?_, e3, fun t ht => ?_⟩
 · rw [e1, e2];exact h.st.put hl (fun j => by unfold gi; exact rowOf_gd13 hs hi j) hz
 · rw [e2, getD_app, h.st.pl];rw [e1] at ht;by_cases q : t < z.R.length
   · rw [if_pos q]; exact h.pc t q
   · rw [if_neg q, if_pos (by simp at ht; omega)]; exact hz
def PtO (r c : Nat) (xs : List Int) (i : Nat) (z : Sta) (b : Bool) (z' : Sta) : Prop :=
 (b = false /\ z'.R.length = z.R.length ∨ b = true /\ z'.R.length = z.R.length + 1) /\ RwI r c (matE xs r c) (i + 1) z'
set_option maxRecDepth 100000 in
set_option maxHeartbeats 4000000 in
theorem RowSet13_c (r c m cap : Nat) (ao : Option Addr) (xs : List Int) (w : World) (hr : r <= 64) (hc : c <= 64) (hA : LsAt w m ao xs) (hs : xs.length = r * c) (hcap : r * c <= cap) (hm : m <= 1048576) :
 Calls Tryz.prog 20 #[.agg #[.int .i64 (r : Int), .int .i64 (c : Int), .slice ao (r * c) cap]] w fun e w' => (∃ (q : Option Addr × Nat × Nat), e = .returned (.tuple #[.slice q.1 q.2.1 q.2.2, .int .i64 0]) /\ ∃ R p, StI r c r (matE xs r c) R p /\ q.2.1 = R.length) /\ Below w.heap.size w w' := by
 have hxb : ∀ x ∈ xs, x.natAbs <= W ^ m := fun x hx => Nat.le_of_lt (lt_ls13 hA x hx);have hck := fun w' => M9Check_c r c ao xs.length cap w' hr hc hs;rw [hs] at hck;have hmb : m <= bw m := by unfold bw; omega
 have cRow := fun w' i (h : LsAt w' m ao xs) (hi : i < r) => Row13_c r c i (bw m) cap ao xs w' hr hc (h.up hmb) hs hcap hi;have hpt : ∀ i z, i < r -> RwI r c (matE xs r c) i z -> PtA r c m i (matE xs r c) z (rowOf xs c i) := fun i z hi h => h.pt hs hi hr hc hxb hm;have hnx : ∀ i z (b : Bool) (z' : Sta), i < r -> RwI r c (matE xs r c) i z -> ((b = false /\ fst0 (r13 z.R z.p (rowOf xs c i) z.R.length).l = c /\ z'.R = z.R /\ z'.p = z.p /\ z'.hs = z.hs) ∨ (b = true /\ fst0 (r13 z.R z.p (rowOf xs c i) z.R.length).l < c /\ z'.R = z.R ++ [(r13 z.R z.p (rowOf xs c i) z.R.length).l] /\ z'.p = z.p ++ [fst0 (r13 z.R z.p (rowOf xs c i) z.R.length).l] /\ z'.hs.length = z'.R.length)) -> PtO r c xs i z b z' := fun i z b z' hi h hq => by
  rcases hq with ⟨e0, e1, e2, e3, e4⟩ | ⟨e0, e1, e2, e3, e4⟩
  · exact ⟨.inl ⟨e0, by rw [e2]⟩, h.skip hs hi e1 e2 e3 e4⟩
  · exact ⟨.inr ⟨e0, by rw [e2]; simp⟩, h.put hs hi e1 e2 e3 e4⟩
 have hrl : ∀ i, i < r -> (rowOf xs c i).length = c := fun i hi => rowOf_length hs hi;have H1 := Lib.hid (And.intro hck (And.intro cRow (And.intro hpt (And.intro hnx hrl))));have H0 : RwI r c (matE xs r c) 0 sta0 := ⟨StI.start r c _, rfl, fun t h => absurd h (Nat.not_lt_zero t)⟩;have HS := Lib.hid hs;obtain ⟨nm, hnm⟩ : ∃ nm, r * c = nm := ⟨_, rfl⟩;have HNM := Lib.hid hnm;rw [hnm] at H1 ⊢;clear hxb hck hmb cRow hpt hnx hrl hs hcap hnm;refine funW (S0 := fun _ => False) Tryz.func20 ((Fr.nil _ w).l hA (by simp)) ?_;refine goW ?_;refine rW [] ?_;refine aW fun g1 => ?_;refine dW ?_;refine dW ?_;refine eW ?_;refine goW ?_;refine rW [] ?_;refine dW ?_;refine cV (v := .int .i64 0) (fun w' H => H1.out.1 w') ?_;refine dB false ?_;refine eW ?_;refine goW ?_;refine cfW ?_;refine goW ?_;refine rW [] ?_;refine dW ?_;refine aW fun g11 => ?_;refine dW ?_;refine eW ?_;refine goW ?_;refine rW [] ?_;refine dW ?_;refine eW ?_;refine goW ?_;refine rW [] ?_;refine dW ?_;refine eW ?_;refine goW ?_;refine addW (e := .lrs (bw m) [] []) (fun w' _ t ht => absurd ht (Nat.not_lt_zero t)) ?_ (hS := fun b ⟨t, ht, _⟩ => absurd ht (Nat.not_lt_zero t));refine lg0W (te := 3) (sz := 1) ?_;refine pickW (es' := [.row g11 56 [.slice none 0 0, .slice none 0 0], .lg 3 1 none 0 0 [], .lrs (bw m) [] [], .row g1 24 [.int .i64 (r : Int), .int .i64 (c : Int), .slice ao nm cap], .ls m ao xs]) ?_;refine convW (e' := .sta g11 c sta0) (fun w' h => sta0_at h) (fun b h => h.elim id fun h => h.elim (fun ⟨_, e⟩ => nomatch e) fun ⟨_, e⟩ => nomatch e) (fun _ => rfl) ?_;refine loopW (X := RwX) (RwJ r c (matE xs r c)) (fun x => r - x.i) (fun x => [(6, .int .i64 (x.i : Int)), (1, .pointer (some ⟨g1, 0, none⟩)), (4, .pointer (some ⟨g11, 0, none⟩)), (5, .slice x.lo x.vs.length x.lc)]) (fun x => [.row g1 24 [.int .i64 (r : Int), .int .i64 (c : Int), .slice ao nm cap], .lg 3 1 x.lo x.vs.length x.lc (x.vs.map fun y : Nat => Value.int .i64 (y : Int)), .ls m ao xs, .lrs (bw m) x.z.hs x.z.R, .sta g11 c x.z]) ⟨0, none, 0, [], sta0⟩ ⟨Nat.zero_le _, rfl, H0⟩ fun x hx => ?_;obtain ⟨i, lo, lc, vs, z⟩ := x;obtain ⟨hi, hvl, hin⟩ := hx
 replace hi : i <= r := hi
 replace hvl : vs.length = z.R.length := hvl
 replace hin : RwI r c (matE xs r c) i z := hin
 have HV := Lib.hid (And.intro hvl hin);obtain ⟨nv, hnv⟩ : ∃ nv, vs.length = nv := ⟨_, rfl⟩;have HNV := Lib.hid hnv;have hnv64 : nv <= 64 := by rw [<- hnv, hvl]; have := hin.st.kl; omega
 rw [hnv];clear hvl hin hnv;by_cases h : i < r
 · have h01 : (i : Int) < (r : Int) := by omega
   have HP := Lib.hid (H1.out.2.2.1 i z h HV.out.2);refine goW ?_;refine rW [] ?_;refine dW ?_;refine dW ?_;refine dW ?_;refine dB true ?_;refine eW ?_;refine goW ?_;refine ctW ?_;refine goW ?_;refine rW [] ?_;refine dW ?_;refine dW ?_;refine dW ?_;refine cR (α := Option Addr × Nat) (mk := fun q => .slice q.1 c q.2) (ens := fun q => [.ls (bw m) q.1 (rowOf xs c i)]) (fun w' H => (H1.out.2.1 w' i (H.all (.ls m ao xs) (by simp)) h).mono fun e w'' ⟨⟨q, he, q1, q2⟩, hb⟩ => ⟨q, he, hb, fun e he => by
    rcases List.mem_singleton.1 he with rfl;refine ⟨q1, rfl, fun b ⟨hl, o, e⟩ => .inr ⟨.ls m ao xs, by simp, rfl, ?_⟩⟩;rw [H1.out.2.2.2.2 i h] at hl;obtain ⟨o', e'⟩ := q2 hl b o e;refine ⟨?_, o', e'⟩;have := Nat.mul_le_mul (show 1 <= r by omega) (show 1 <= c by omega);rw [HS.out]; omega⟩) fun q => ?_
   refine dW ?_;refine dW ?_;refine cUR (α := Bool × Sta) (mk := fun p => .bool p.1) (e := .sta g11 c z) (e' := fun p => .sta g11 c p.2) (ens := fun p => [.lrs (bw m) p.2.hs p.2.R, .pr (PtO r c xs i z p.1 p.2)]) (fun w' H => by
    have a1 : StaF g11 c z w' := H.all (.sta g11 c z) (by simp);have a2 : ∀ t, t < z.R.length -> LsAt w' (bw m) (z.hs.getD t (none, 0)).1 (z.R.getD t []) := H.all (.lrs (bw m) z.hs z.R) (by simp);have a3 : LsAt w' (bw m) q.1 (rowOf xs c i) := H.all (.ls (bw m) q.1 (rowOf xs c i)) (by simp);refine (Put13_c g11 r c m i q.2 (matE xs r c) z q.1 (rowOf xs c i) w' HP.out a1 a2 a3 fun g hg => ⟨fun t ht hl o e => ?_, fun hl o e => ?_⟩).mono fun e w'' ⟨b, z', he, q1, q2, q3, q4, q5, q6⟩ => ⟨(b, z'), he, q1, q2, q3, fun x hx => ?_⟩
    · exact H.apart (e := .sta g11 c z) (e1 := .lrs (bw m) z.hs z.R) (by simp) (by simp) rfl rfl (b := g) hg ⟨t, ht, hl, o, e⟩
    · exact H.apart (e := .sta g11 c z) (e1 := .ls (bw m) q.1 (rowOf xs c i)) (by simp) (by simp) rfl rfl (b := g) hg ⟨hl, o, e⟩
    · rcases List.mem_cons.1 hx with rfl | hx
      · refine ⟨q4, rfl, fun g ⟨t, ht, hl, o, e⟩ => ?_⟩;obtain ⟨q7, q8⟩ := q5 t ht hl g o e;refine ⟨?_, q7⟩;rcases q8 with ⟨s, h1, h2, h3⟩ | ⟨h1, h2⟩ | q8
        · exact .inr ⟨.lrs (bw m) z.hs z.R, by simp, rfl, s, h1, h2, h3⟩
        · exact .inr ⟨.ls (bw m) q.1 (rowOf xs c i), by simp, rfl, h1, h2⟩
        · exact .inl q8
      · rcases List.mem_singleton.1 hx with rfl;exact ⟨H1.out.2.2.2.1 i z b z' h HV.out.2 q6, rfl, fun g hg => hg.elim⟩) (fun w' h => StaF.wl h) fun p => ?_
   refine eW ?_;refine goW ?_;refine prW (A := PtO r c xs i z p.1 p.2) (by simp) fun ho => ?_;obtain ⟨b, z'⟩ := p
   replace ho : PtO r c xs i z b z' := ho
   by_cases hb : b = true
   · subst hb;have HO : Hid (z'.R.length = z.R.length + 1 /\ RwI r c (matE xs r c) (i + 1) z') := Lib.hid ⟨(by rcases ho.1 with q | q; cases q.1; exact q.2), ho.2⟩;clear ho;refine goW ?_;refine ctW ?_;refine goW ?_;refine rW [] ?_;refine dW ?_;refine dW ?_;refine bW (m := 1) fun g27 => ?_;refine appG (k := nv) (cap := lc) (g := g27) (c := 1) (ao := lo) (cs := vs.map fun y : Nat => Value.int .i64 (y : Int)) (v := .int .i64 (i : Int)) Tryz.underlying30 info_I rfl (zc_one (.int .i64 0) rfl (fun n h => nomatch h)) (by omega) (by omega) rfl ⟨ils_now vs, by decide⟩ (by simp) fun v => ?_;refine dW ?_;refine eW ?_;refine goW ?_;refine rW [] ?_;refine dW ?_;refine dE (incB (a := i) (by omega)) ?_;refine dW ?_;refine eW ?_;refine goW ?_;exact backW (⟨i + 1, v.1, v.2, vs ++ [i], z'⟩ : RwX) ⟨⟨h, by show (vs ++ [i]).length = z'.R.length; rw [List.length_append, HO.out.1, HV.out.1]; rfl, HO.out.2⟩, by show r - (i + 1) < r - i; omega⟩ (hs := by
      intro a h;refine h.sub ?_;simp [inLs, evlN, HNV.out]) (he := by
      intro w' h;show Fr _ _ w' [_, .lg 3 1 v.1 (vs ++ [i]).length v.2 ((vs ++ [i]).map fun y : Nat => Value.int .i64 (y : Int)), _, _, _];rw [List.map_append, show (vs ++ [i]).length = nv + 1 by rw [List.length_append, HNV.out]; rfl];exact h.pick (by repeat (first | exact Pk.n | refine Pk.c (by repeat (first | exact Rm.z | apply Rm.s)) ?_)))
   · obtain rfl : b = false := by simpa using hb
     clear hb;have HO : Hid (z'.R.length = z.R.length /\ RwI r c (matE xs r c) (i + 1) z') := Lib.hid ⟨(by rcases ho.1 with q | q; exact q.2; cases q.1), ho.2⟩;clear ho;refine goW ?_;refine cfW ?_;refine goW ?_;refine rW [] ?_;refine dW ?_;refine dE (incB (a := i) (by omega)) ?_;refine dW ?_;refine eW ?_;refine goW ?_;exact backW (⟨i + 1, lo, lc, vs, z'⟩ : RwX) ⟨⟨h, by show vs.length = z'.R.length; rw [HO.out.1, HV.out.1], HO.out.2⟩, by show r - (i + 1) < r - i; omega⟩ (hs := by
      intro a h;refine h.sub ?_;simp [inLs, evlN, HNV.out]) (he := by
      intro w' h;show Fr _ _ w' [_, .lg 3 1 lo vs.length lc _, _, _, _];rw [HNV.out];exact h.pick (by repeat (first | exact Pk.n | refine Pk.c (by repeat (first | exact Rm.z | apply Rm.s)) ?_)))
 · obtain rfl : i = r := by omega
   refine goW ?_;refine rW [] ?_;refine dW ?_;refine dW ?_;refine dW ?_;refine dB false ?_;refine eW ?_;refine goW ?_;refine cfW ?_;refine goW ?_;refine rW [] ?_;refine dW ?_;refine dW ?_;refine dW ?_;refine eW ?_;refine goW ?_;refine fin2 fun w' H => ?_;exact ⟨_, _, rvT, rvT, ⟨(lo, nv, lc), rfl, z.R, z.p, HV.out.2.st, by rw [<- HV.out.1]; exact HNV.out.symm⟩, H.below⟩
set_option maxRecDepth 100000 in
set_option maxHeartbeats 1000000 in
theorem Rank13_c (r c m cap : Nat) (ao : Option Addr) (xs : List Int) (w : World) (hr : r <= 64) (hc : c <= 64) (hA : LsAt w m ao xs) (hs : xs.length = r * c) (hcap : r * c <= cap) (hm : m <= 1048576) :
 Calls Tryz.prog 8 #[.agg #[.int .i64 (r : Int), .int .i64 (c : Int), .slice ao (r * c) cap]] w fun e w' => (∃ k : Nat, e = .returned (.tuple #[.int .i64 (k : Int), .int .i64 0]) /\ ∃ R p, StI r c r (matE xs r c) R p /\ k = R.length) /\ Below w.heap.size w w' := by
 have H1 := Lib.hid (fun w' h => RowSet13_c r c m cap ao xs w' hr hc h hs hcap hm);obtain ⟨nm, hnm⟩ : ∃ nm, r * c = nm := ⟨_, rfl⟩;rw [hnm] at H1 ⊢;clear hs hcap hnm;refine funW (S0 := fun _ => False) Tryz.func8 ((Fr.nil _ w).l hA (by simp)) ?_;refine goW ?_;refine rW [] ?_;refine aW fun g1 => ?_;refine dW ?_;refine dW ?_;refine eW ?_;refine goW ?_;refine rW [] ?_;refine dW ?_;refine cG (α := Option Addr × Nat × Nat) (mk := fun q => .tuple #[.slice q.1 q.2.1 q.2.2, .int .i64 0]) (ens := fun q => [.pr (∃ R p, StI r c r (matE xs r c) R p /\ q.2.1 = R.length)]) (fun w' H => (H1.out w' (H.all (.ls m ao xs) (by simp))).mono fun e w'' ⟨⟨q, he, hq⟩, hb⟩ => ⟨q, he, hb, fun e he => by rcases List.mem_singleton.1 he with rfl; exact ⟨hq, fun _ h => h.elim⟩, List.pairwise_singleton ..⟩) fun q => ?_;refine dW ?_;refine dW ?_;refine dW ?_;refine dW ?_;refine dW ?_;refine eW ?_;refine goW ?_;refine rW [] ?_;refine dW ?_;refine dW ?_;refine dW ?_;refine dW ?_;refine dW ?_;refine eW ?_;refine goW ?_;refine fin2 fun w' H => ?_;exact ⟨_, _, rvT, rvT, ⟨q.2.1, rfl, H.all (.pr (∃ R p, StI r c r (matE xs r c) R p /\ q.2.1 = R.length)) (by simp)⟩, H.below⟩
end Go.Proofs.YtdgfhcaokigieaaGreat
