/- Part 4 of 7 of the proof that the law ModhnfMoves returns true for every input of bulk at most 1048576 and leaves its arguments as they were: here the contracts of the functions that it calls, and plain lemmas. -/
import Derived.Test.YtjjlmfmoihooiaaMoC
set_option linter.all false
namespace Go.Proofs.Ytjjlmfmoihooiaa
open Go.RowKit
def dM (xs : List Int) (i j : Nat) : Int := if i = j /\ i < xs.length then gi xs i else 0
set_option maxRecDepth 100000 in
set_option maxHeartbeats 1000000 in
theorem wj (i j g : Nat) (la : Option Addr) (cap L : Nat) (xs : List Int) (w : World) (hg : w.cell? ⟨g, 0, none⟩ = some (.slice la xs.length cap)) (hA : aI w L la xs) (hL : L <= 17592186044415) :
 Calls Try.prog 87 #[.int .i64 (i : Int), .int .i64 (j : Int), .pointer (some ⟨g, 0, none⟩)] w fun e w' => (∃ v, e = .returned v /\ ak w' w.heap.size v (dM xs i j)) /\ Below w.heap.size w w' := by
 refine aZ (S0 := fun _ => False) Try.func87 (((Fr.nil _ w).l hA (by simp)).cl hg (by simp [En.wr])) ?_;refine ae ?_;refine rW [] ?_;refine aW fun g5 => ?_;refine eW ?_;by_cases h : i = j /\ i < xs.length
 · obtain ⟨rfl, h2⟩ := h;have e0 : dM xs i i = gi xs i := by rw [dM, if_pos ⟨rfl, h2⟩]
   rw [e0];obtain ⟨bx, ox, rfl⟩ := hA.pos h2;refine ae ?_;refine rW [] ?_;refine dW ?_;refine dW ?_;refine dB true ?_;refine dW ?_;refine dG ?_;refine dG ?_;refine dG ?_;refine j8 true ?_;refine dW ?_;refine eW ?_;refine ae ?_;refine dO ?_;refine jj (L := L) (xs := xs) (b := bx) (o := ox) i (by simp) h2 fun p => ?_;refine ae ?_;refine rW [] ?_;refine dW ?_;refine dW ?_;refine dW ?_;refine dW ?_;refine cN (fun w' H => fJ (av p) _ w' (H.m2.mono hL)) fun q => ?_;refine sW ?_;refine eW ?_;refine ae ?_;refine cQ fun w' H => ?_;exact ⟨_, gD H.m4, ⟨_, rfl, H.m0⟩, H.below⟩
 · have e0 : dM xs i j = 0 := by rw [dM, if_neg h]
   rw [e0];refine ae ?_;refine rW [] ?_;refine dW ?_;refine dW ?_;rcases Decidable.em (i = j) with e | e
   case' inl =>
    have hlt : ¬ i < xs.length := fun q => h ⟨e, q⟩;subst e;clear h;refine dB true ?_;refine dW ?_;refine dG ?_;refine dG ?_;refine dG ?_;refine j8 false ?_
   case' inr =>
    clear h;refine dB false ?_;refine dW ?_;refine uG ?_;refine uG ?_;refine uG ?_;refine uG ?_
   all_goals
    refine dW ?_;refine eW ?_;refine ae ?_;refine bX ?_;refine ae ?_;refine rW [] ?_;refine dW ?_;refine sW ?_;refine eW ?_;refine ae ?_;refine cQ fun w' H => ?_;exact ⟨_, gD H.m0, ⟨_, rfl, ak.zero _ _⟩, H.below⟩
theorem xN {P : Program} {Q : Exit -> Act -> World -> Prop} {ds : List Deferred} {S0 : Nat -> Prop} {w0 : World} {n b N : Nat} {ls : List (Nat × Value)} {es : List En} {c : Code} (k : dL ds P n S0 w0 c Q ls (.fV (some ⟨b, 0, none⟩) 0 N [] :: es)) : dL ds P n S0 w0 c Q ls (.row b 27 (rn (List.replicate N p0) []) :: es) := fun a w ha hw =>
 k a w ha (hw.conv (fun hr => ⟨rfl, Nat.zero_le _, .inr ⟨b, rn (List.replicate N p0) [], rfl, aP.rn aP.nil, hr, by show (rn (List.replicate N p0) []).length = _; rw [rn, List.append_nil, aV]; simp; omega⟩⟩) (fun g ⟨o, e⟩ => by cases e; rfl) (fun _ => rfl))
structure B1X where
 i : Nat
 K : Nat
 ao : Option Addr
 cap : Nat
 ps : List P4
structure B1I (r c : Nat) (z : B1X) : Prop where
 hi : z.i <= r
 hK : z.i * c = z.K
structure B2X where
 j : Nat
 K : Nat
 ao : Option Addr
 cap : Nat
 ps : List P4
structure B2I (c i : Nat) (z : B2X) : Prop where
 hj : z.j <= c
 hK : i * c + z.j = z.K
set_option maxRecDepth 100000 in
set_option maxHeartbeats 4000000 in
theorem uz (F : FuncId) (hF : ∀ (args : Array Value) (w : World), (callFunc F args).run Try.prog w = .ok (.enter F args) w) (r c g : Nat) (f : Nat -> Nat -> Int) (w : World) (hr : r <= 64) (hc : c <= 64)
 (hf : ∀ (i j : Nat) (w' : World), i < r -> j < c -> Below w.heap.size w w' -> Calls Try.prog F #[.int .i64 (i : Int), .int .i64 (j : Int), .pointer (some ⟨g, 0, none⟩)] w' fun e w'' => (∃ v, e = .returned v /\ ak w'' w'.heap.size v (f i j)) /\ Below w'.heap.size w' w'') :
 Calls Try.prog 61 #[.int .i64 (r : Int), .int .i64 (c : Int), .func (.func F) #[] #[.pointer (some ⟨g, 0, none⟩)]] w fun e w' => (∃ ao cap, e = .returned (.agg #[.int .i64 (r : Int), .int .i64 (c : Int), .slice ao (r * c) cap]) /\ ea w' ao (aC c f (r * c)) /\ r * c <= cap /\ ∀ b o, ao = some ⟨b, o, none⟩ -> w.heap.size <= b) /\ Below w.heap.size w w' := by
 have hnc : r * c <= 4096 := Nat.mul_le_mul hr hc;have hms : r * c < 9223372036854775808 := by omega
 refine aZ (S0 := fun _ => False) Try.func61 (Fr.nil _ w) ?_;refine ae ?_;refine rW [] ?_;refine aW fun g6 => ?_;refine eW ?_;refine ae ?_;refine rW [] ?_;refine dW ?_;refine dW ?_;refine dW ?_;refine dW ?_;refine dE (jR (a := r) (b := c) hms) ?_;obtain ⟨N, hN⟩ : ∃ N, r * c = N := ⟨_, rfl⟩;rw [hN] at hnc ⊢;have HN : Hid (r * c = N) := Lib.hid hN;clear hms hN;refine mN 0 N rfl rfl (Nat.zero_le _) (by omega) fun b => ?_;refine dW ?_;refine aW fun g7 => ?_;refine sG ?_;refine eW ?_;refine cZ (es' := [.row b 27 (rn (List.replicate N p0) []), .row g7 24 [.int .i64 (r : Int), .int .i64 (c : Int), .slice (some ⟨b, 0, none⟩) 0 N], .row g6 24 [.int .i64 0, .int .i64 0, .slice none 0 0]]) ?_;refine xN ?_;refine iZ (e := .ns [] (aC c f 0)) (fun w' _ => bg.nil w') ?_;refine cZ (es' := [.row g7 24 [.int .i64 (r : Int), .int .i64 (c : Int), .slice (some ⟨b, 0, none⟩) 0 N], .row g6 24 [.int .i64 0, .int .i64 0, .slice none 0 0], .fV (some ⟨b, 0, none⟩) 0 N [], .ns [] (aC c f 0)]) ?_;refine ae ?_;refine rW [] ?_;refine dW ?_;refine dW ?_;refine eW ?_;refine ae ?_;refine bF (X := B1X) (B1I r c) (fun z => r - z.i) (fun z => [(18, .int .i64 (z.i : Int)), (17, .int .i64 (r : Int)), (1, .int .i64 (c : Int)), (2, .func (.func F) #[] #[.pointer (some ⟨g, 0, none⟩)]), (7, .pointer (some ⟨g7, 0, none⟩)), (6, .pointer (some ⟨g6, 0, none⟩))])
  (fun z => [.row g7 24 [.int .i64 (r : Int), .int .i64 (c : Int), .slice z.ao z.K z.cap], .row g6 24 [.int .i64 0, .int .i64 0, .slice none 0 0], .fV z.ao z.K z.cap z.ps, .ns z.ps (aC c f z.K)]) ⟨0, 0, some ⟨b, 0, none⟩, N, []⟩ ⟨Nat.zero_le _, Nat.zero_mul _⟩ fun z hz => ?_
 obtain ⟨i, K, ao, cap, ps⟩ := z;obtain ⟨hi, hK⟩ := hz
 replace hi : i <= r := hi
 replace hK : i * c = K := hK
 by_cases h : i < r
 · have h01 : (i : Int) < (r : Int) := by omega
   have HK : Hid (i * c + 0 = K) := Lib.hid hK;clear hK;refine ae ?_;refine rW [] ?_;refine dB true ?_;refine eW ?_;refine ae ?_;refine dO ?_;refine ae ?_;refine rW [] ?_;refine dW ?_;refine dW ?_;refine eW ?_;refine ae ?_;refine rW [] ?_;refine dW ?_;refine dW ?_;refine eW ?_;refine ae ?_;refine bF (X := B2X) (B2I c i) (fun z => c - z.j) (fun z => [(22, .int .i64 (z.j : Int)), (21, .int .i64 (c : Int)), (8, .int .i64 (i : Int)), (18, .int .i64 (i : Int)), (17, .int .i64 (r : Int)), (1, .int .i64 (c : Int)), (2, .func (.func F) #[] #[.pointer (some ⟨g, 0, none⟩)]), (7, .pointer (some ⟨g7, 0, none⟩)), (6, .pointer (some ⟨g6, 0, none⟩))])
    (fun z => [.row g7 24 [.int .i64 (r : Int), .int .i64 (c : Int), .slice z.ao z.K z.cap], .row g6 24 [.int .i64 0, .int .i64 0, .slice none 0 0], .fV z.ao z.K z.cap z.ps, .ns z.ps (aC c f z.K)]) ⟨0, K, ao, cap, ps⟩ ⟨Nat.zero_le _, HK.out⟩ fun z hz => ?_
   clear HK;obtain ⟨j, K, ao, cap, ps⟩ := z;obtain ⟨hj, hK⟩ := hz
   replace hj : j <= c := hj
   replace hK : i * c + j = K := hK
   by_cases h' : j < c
   · have h02 : (j : Int) < (c : Int) := by omega
     have hlt := xe h h';have ht := mz (i := i) f h';have hKN : K <= 100000000 := by have := HN.out; omega
     rw [hK] at ht;have HT : Hid (aC c f (K + 1) = aC c f K ++ [f i j] /\ i * c + j = K) := Lib.hid ⟨ht, hK⟩;clear ht hK hlt;refine ae ?_;refine rW [] ?_;refine dB true ?_;refine eW ?_;refine ae ?_;refine dO ?_;refine ae ?_;refine rW [] ?_;refine dW ?_;refine dW ?_;refine eW ?_;refine ae ?_;refine rW [] ?_;refine dW ?_;refine dW ?_;refine dW ?_;refine dW ?_;refine dW ?_;refine cN (fun w' H => hf i j w' h h' H.below) fun q => ?_;refine bW (m := 1) fun g31 => ?_;refine fj (e := .ns (ps ++ [q]) (aC c f (K + 1))) (fun w' H => by rw [HT.out.1]; exact bg.snoc H.m5 H.m1.num) ?_;refine zj (g := g31) (t := 27) (c := 1) (ao := ao) (k := K) (cap := cap) (ps := ps) q hKN (by simp) fun z => ?_;refine dW ?_;refine sW ?_;refine eW ?_;refine ae ?_;refine rW [] ?_;refine dE (cd (a := j) (by omega)) ?_;refine dW ?_;refine eW ?_;refine ae ?_;exact bh (⟨j + 1, K + 1, z.1, z.2, ps ++ [q]⟩ : B2X) ⟨⟨h', by show i * c + (j + 1) = K + 1; have := HT.out.2; omega⟩, by show c - (j + 1) < c - j; omega⟩
   · obtain rfl : j = c := by omega
     have HK : Hid ((i + 1) * j = K) := Lib.hid (by rw [Nat.succ_mul]; exact hK);clear hK;refine ae ?_;refine rW [] ?_;refine dB false ?_;refine eW ?_;refine ae ?_;refine bX ?_;refine ae ?_;refine rW [] ?_;refine dE (cd (a := i) (by omega)) ?_;refine dW ?_;refine eW ?_;refine ae ?_;exact bh (⟨i + 1, K, ao, cap, ps⟩ : B1X) ⟨⟨h, HK.out⟩, by show r - (i + 1) < r - i; omega⟩
 · obtain rfl : i = r := by omega
   obtain rfl : K = N := by rw [<- hK]; exact HN.out
   clear hK;refine ae ?_;refine rW [] ?_;refine dB false ?_;refine eW ?_;refine ae ?_;refine bX ?_;refine ae ?_;refine rW [] ?_;refine dW ?_;refine sW ?_;refine eW ?_;refine ae ?_;refine cQ fun w' H => ?_;exact ⟨_, lO H.m1, ⟨ao, cap, rfl, kO H.m2 H.m3, (show mq ao K cap ps w' from H.m2).2.1, fun b o e => (H.own (.fV ao K cap ps) (by simp) rfl b ⟨o, e⟩).elim (fun h => h.elim) id⟩, H.below⟩
theorem lJ {A : Prop} {P : Program} {Q : Exit -> Act -> World -> Prop} {ds : List Deferred} {S0 : Nat -> Prop} {w0 : World} {n : Nat} {ls : List (Nat × Value)} {es : List En} {c : Code} (hm : En.pr A ∈ es) (k : A -> dL ds P n S0 w0 c Q ls es) : dL ds P n S0 w0 c Q ls es := fun a w ha hw => k (hw.all _ hm) a w ha hw
section
variable {P : Program} {ops : Array Oper} {Q : Exit -> Act -> World -> Prop} {ds : List Deferred} {S0 : Nat -> Prop} {w0 : World} {E0 : List En} {hd : List (List Nat)} {n j s : Nat} {l : List Nat} {G E : List En} {ls : List (Nat × Value)} {op : Op} {ty : TypeId} {pos : String} {af : Array Edge} {v : Value} {f : FuncId} {args : Array Value}
theorem fW (k : cW ds ⟨P, ops, Q, S0, w0, E0, hd⟩ n l G E ((s, v) :: ls))
 (ho : ops[j]? = some ⟨some s, op, ty, pos, af, none⟩ := by rfl) (hk : (!bE op && !cO op && di ls op && Nat.blt s n) = true := by kernel_rfl)
 (hr : ∀ w, (execOp (cj ls) ⟨some s, op, ty, pos, af, none⟩).run P w = .ok (.value v) w := by intro w; (try simp only [av]); go_simp <;> with_reducible rfl)
 (hst : ew ops hd j [] = true := by kernel_rfl) : cW ds ⟨P, ops, Q, S0, w0, E0, hd⟩ n (j :: l) G E ls := fun a ha => by
 simp only [Bool.and_eq_true, Bool.not_eq_true'] at hk;refine ⟨_, ho, .inr (.inr ⟨hk.1.1.1, hk.1.1.2, Unit, fun _ => v, fun _ => G, fun _ => E, [], ⟨()⟩, fun X w hX hw => ?_, hst, fun _ _ _ => rfl, fun _ => k _ (ha.put (Nat.le_of_ble_eq_true hk.2) _)⟩)⟩;refine vT rfl ?_;show mg P _ ((execOp a.eval _).run P w);rw [ha.exec hk.1.2, hr w];exact ⟨(), rfl, hw⟩
theorem kJ {α : Type} {mk : α -> Value} {ao : α -> Option Addr} {xs : α -> List Int} {A : α -> Prop} (c : ∀ w, Fr S0 w0 w (G ++ E) -> Calls P f args w fun e w' => (∃ p, e = .returned (mk p) /\ ea w' (ao p) (xs p) /\ A p /\ ∀ b o, ao p = some ⟨b, o, none⟩ -> w.heap.size <= b) /\ Below w.heap.size w w')
 (k : ∀ p, cW ds ⟨P, ops, Q, S0, w0, E0, hd⟩ n l (.gX (ao p) (xs p) :: .pr (A p /\ ∀ b o, ao p = some ⟨b, o, none⟩ -> w0.heap.size <= b) :: G) E ((s, mk p) :: ls))
 (ho : ops[j]? = some ⟨some s, op, ty, pos, af, none⟩ := by rfl) (hk : (!bE op && !cO op && di ls op && Nat.blt s n) = true := by kernel_rfl)
 (hr : ∀ w, (execOp (cj ls) ⟨some s, op, ty, pos, af, none⟩).run P w = .ok (.enter f args) w := by intro w; (try simp only [av]); go_simp <;> with_reducible rfl) (hne : Nonempty α := by infer_instance)
 (hst : ew ops hd j [] = true := by kernel_rfl) : cW ds ⟨P, ops, Q, S0, w0, E0, hd⟩ n (j :: l) G E ls := by
 refine cG (mk := mk) (ens := fun p => [.gX (ao p) (xs p), .pr (A p /\ ∀ b o, ao p = some ⟨b, o, none⟩ -> w0.heap.size <= b)]) (fun w hw => (c w hw).mono ?_) k ho hk hr hne hst;rintro e w' ⟨⟨p, rfl, hl, hA, hS⟩, hb⟩;exact ⟨p, rfl, hb, fun e he => by
  rcases List.mem_cons.1 he with rfl | he
  · exact ⟨hl, fun b ⟨_, o, e⟩ => hS b o e⟩
  · rcases List.mem_singleton.1 he with rfl;exact ⟨⟨hA, fun b o e => Nat.le_trans hw.size (hS b o e)⟩, fun _ h => h.elim⟩, List.pairwise_pair.2 ⟨(fun h => nomatch h), (fun h => nomatch h)⟩⟩
end
theorem jb (b : Nat) : ∀ (us : List Value) (k : Nat) (w : World), w.setCells b k us = mV w b k us
 | [], _, _ => rfl
 | _ :: us, k, _ => jb b us (k + 1) _
theorem kf : ∀ (us : List Value) (k : Nat) (cs : List Value), (fQ cs k us).length = cs.length
 | [], _, _ => rfl
 | u :: us, k, cs => by rw [fQ, kf us, List.length_set]
section
variable {ops : Array Oper} {Q : Exit -> Act -> World -> Prop} {ds : List Deferred} {S0 : Nat -> Prop} {w0 : World} {E0 : List En} {hd : List (List Nat)} {n j s : Nat} {l : List Nat} {G E : List En} {ls : List (Nat × Value)} {ty : TypeId} {pos : String} {af : Array Edge}
end
section
variable {ops : Array Oper} {Q : Exit -> Act -> World -> Prop} {ds : List Deferred} {S0 : Nat -> Prop} {w0 : World} {E0 : List En} {hd : List (List Nat)} {n j s : Nat} {l : List Nat} {G E : List En} {ls : List (Nat × Value)} {ty : TypeId} {pos : String} {af : Array Edge}
end
set_option maxRecDepth 100000 in
set_option maxHeartbeats 4000000 in
theorem pW (F : FuncId) (hF : ∀ (args : Array Value) (w : World), (callFunc F args).run Try.prog w = .ok (.enter F args) w) (lb : Array Value) (r c : Nat) (f : Nat -> Nat -> Int) (w : World) (hr : r <= 64) (hc : c <= 64)
 (hf : ∀ (i j : Nat) (w' : World), i < r -> j < c -> Below w.heap.size w w' -> Calls Try.prog F (#[.int .i64 (i : Int), .int .i64 (j : Int)] ++ lb) w' fun e w'' => (∃ v, e = .returned v /\ ak w'' w'.heap.size v (f i j)) /\ Below w'.heap.size w' w'') :
 Calls Try.prog 61 #[.int .i64 (r : Int), .int .i64 (c : Int), .func (.func F) #[] lb] w fun e w' => (∃ ao cap ps, e = .returned (.agg #[.int .i64 (r : Int), .int .i64 (c : Int), .slice ao (r * c) cap]) /\ mq ao (r * c) cap ps w' /\ bg w' ps (aC c f (r * c)) /\ ∀ b o, ao = some ⟨b, o, none⟩ -> w.heap.size <= b) /\ Below w.heap.size w w' := by
 have hnc : r * c <= 4096 := Nat.mul_le_mul hr hc;have hms : r * c < 9223372036854775808 := by omega
 refine aZ (S0 := fun _ => False) Try.func61 (Fr.nil _ w) ?_;refine ae ?_;refine rW [] ?_;refine aW fun g6 => ?_;refine eW ?_;refine ae ?_;refine rW [] ?_;refine dW ?_;refine dW ?_;refine dW ?_;refine dW ?_;refine dE (jR (a := r) (b := c) hms) ?_;obtain ⟨N, hN⟩ : ∃ N, r * c = N := ⟨_, rfl⟩;rw [hN] at hnc ⊢;have HN : Hid (r * c = N) := Lib.hid hN;clear hms hN;refine mN 0 N rfl rfl (Nat.zero_le _) (by omega) fun b => ?_;refine dW ?_;refine aW fun g7 => ?_;refine sG ?_;refine eW ?_;refine cZ (es' := [.row b 27 (rn (List.replicate N p0) []), .row g7 24 [.int .i64 (r : Int), .int .i64 (c : Int), .slice (some ⟨b, 0, none⟩) 0 N], .row g6 24 [.int .i64 0, .int .i64 0, .slice none 0 0]]) ?_;refine xN ?_;refine iZ (e := .ns [] (aC c f 0)) (fun w' _ => bg.nil w') ?_;refine cZ (es' := [.row g7 24 [.int .i64 (r : Int), .int .i64 (c : Int), .slice (some ⟨b, 0, none⟩) 0 N], .row g6 24 [.int .i64 0, .int .i64 0, .slice none 0 0], .fV (some ⟨b, 0, none⟩) 0 N [], .ns [] (aC c f 0)]) ?_;refine ae ?_;refine rW [] ?_;refine dW ?_;refine dW ?_;refine eW ?_;refine ae ?_;refine bF (X := B1X) (B1I r c) (fun z => r - z.i) (fun z => [(18, .int .i64 (z.i : Int)), (17, .int .i64 (r : Int)), (1, .int .i64 (c : Int)), (2, .func (.func F) #[] lb), (7, .pointer (some ⟨g7, 0, none⟩)), (6, .pointer (some ⟨g6, 0, none⟩))])
  (fun z => [.row g7 24 [.int .i64 (r : Int), .int .i64 (c : Int), .slice z.ao z.K z.cap], .row g6 24 [.int .i64 0, .int .i64 0, .slice none 0 0], .fV z.ao z.K z.cap z.ps, .ns z.ps (aC c f z.K)]) ⟨0, 0, some ⟨b, 0, none⟩, N, []⟩ ⟨Nat.zero_le _, Nat.zero_mul _⟩ fun z hz => ?_
 obtain ⟨i, K, ao, cap, ps⟩ := z;obtain ⟨hi, hK⟩ := hz
 replace hi : i <= r := hi
 replace hK : i * c = K := hK
 by_cases h : i < r
 · have h01 : (i : Int) < (r : Int) := by omega
   have HK : Hid (i * c + 0 = K) := Lib.hid hK;clear hK;refine ae ?_;refine rW [] ?_;refine dB true ?_;refine eW ?_;refine ae ?_;refine dO ?_;refine ae ?_;refine rW [] ?_;refine dW ?_;refine dW ?_;refine eW ?_;refine ae ?_;refine rW [] ?_;refine dW ?_;refine dW ?_;refine eW ?_;refine ae ?_;refine bF (X := B2X) (B2I c i) (fun z => c - z.j) (fun z => [(22, .int .i64 (z.j : Int)), (21, .int .i64 (c : Int)), (8, .int .i64 (i : Int)), (18, .int .i64 (i : Int)), (17, .int .i64 (r : Int)), (1, .int .i64 (c : Int)), (2, .func (.func F) #[] lb), (7, .pointer (some ⟨g7, 0, none⟩)), (6, .pointer (some ⟨g6, 0, none⟩))])
    (fun z => [.row g7 24 [.int .i64 (r : Int), .int .i64 (c : Int), .slice z.ao z.K z.cap], .row g6 24 [.int .i64 0, .int .i64 0, .slice none 0 0], .fV z.ao z.K z.cap z.ps, .ns z.ps (aC c f z.K)]) ⟨0, K, ao, cap, ps⟩ ⟨Nat.zero_le _, HK.out⟩ fun z hz => ?_
   clear HK;obtain ⟨j, K, ao, cap, ps⟩ := z;obtain ⟨hj, hK⟩ := hz
   replace hj : j <= c := hj
   replace hK : i * c + j = K := hK
   by_cases h' : j < c
   · have h02 : (j : Int) < (c : Int) := by omega
     have hlt := xe h h';have ht := mz (i := i) f h';have hKN : K <= 100000000 := by have := HN.out; omega
     rw [hK] at ht;have HT : Hid (aC c f (K + 1) = aC c f K ++ [f i j] /\ i * c + j = K) := Lib.hid ⟨ht, hK⟩;clear ht hK hlt;refine ae ?_;refine rW [] ?_;refine dB true ?_;refine eW ?_;refine ae ?_;refine dO ?_;refine ae ?_;refine rW [] ?_;refine dW ?_;refine dW ?_;refine eW ?_;refine ae ?_;refine rW [] ?_;refine dW ?_;refine dW ?_;refine dW ?_;refine dW ?_;refine dW ?_;refine cN (fun w' H => hf i j w' h h' H.below) fun q => ?_;refine bW (m := 1) fun g31 => ?_;refine fj (e := .ns (ps ++ [q]) (aC c f (K + 1))) (fun w' H => by rw [HT.out.1]; exact bg.snoc H.m5 H.m1.num) ?_;refine zj (g := g31) (t := 27) (c := 1) (ao := ao) (k := K) (cap := cap) (ps := ps) q hKN (by simp) fun z => ?_;refine dW ?_;refine sW ?_;refine eW ?_;refine ae ?_;refine rW [] ?_;refine dE (cd (a := j) (by omega)) ?_;refine dW ?_;refine eW ?_;refine ae ?_;exact bh (⟨j + 1, K + 1, z.1, z.2, ps ++ [q]⟩ : B2X) ⟨⟨h', by show i * c + (j + 1) = K + 1; have := HT.out.2; omega⟩, by show c - (j + 1) < c - j; omega⟩
   · obtain rfl : j = c := by omega
     have HK : Hid ((i + 1) * j = K) := Lib.hid (by rw [Nat.succ_mul]; exact hK);clear hK;refine ae ?_;refine rW [] ?_;refine dB false ?_;refine eW ?_;refine ae ?_;refine bX ?_;refine ae ?_;refine rW [] ?_;refine dE (cd (a := i) (by omega)) ?_;refine dW ?_;refine eW ?_;refine ae ?_;exact bh (⟨i + 1, K, ao, cap, ps⟩ : B1X) ⟨⟨h, HK.out⟩, by show r - (i + 1) < r - i; omega⟩
 · obtain rfl : i = r := by omega
   obtain rfl : K = N := by rw [<- hK]; exact HN.out
   clear hK;refine ae ?_;refine rW [] ?_;refine dB false ?_;refine eW ?_;refine ae ?_;refine bX ?_;refine ae ?_;refine rW [] ?_;refine dW ?_;refine sW ?_;refine eW ?_;refine ae ?_;refine cQ fun w' H => ?_;exact ⟨_, lO H.m1, ⟨ao, cap, ps, rfl, H.m2, H.m3, fun b o e => (H.own (.fV ao K cap ps) (by simp) rfl b ⟨o, e⟩).elim (fun h => h.elim) id⟩, H.below⟩
theorem j9 (F : FuncId) (hF : ∀ (args : Array Value) (w : World), (callFunc F args).run Try.prog w = .ok (.enter F args) w) (lb : Array Value) (r c : Nat) (f : Nat -> Nat -> Int) (w : World) (hr : r <= 64) (hc : c <= 64)
 (hf : ∀ (i j : Nat) (w' : World), i < r -> j < c -> Below w.heap.size w w' -> Calls Try.prog F (#[.int .i64 (i : Int), .int .i64 (j : Int)] ++ lb) w' fun e w'' => (∃ v, e = .returned v /\ ak w'' w'.heap.size v (f i j)) /\ Below w'.heap.size w' w'') :
 Calls Try.prog 61 #[.int .i64 (r : Int), .int .i64 (c : Int), .func (.func F) #[] lb] w fun e w' => (∃ ao cap, e = .returned (.agg #[.int .i64 (r : Int), .int .i64 (c : Int), .slice ao (r * c) cap]) /\ ea w' ao (aC c f (r * c)) /\ r * c <= cap /\ ∀ b o, ao = some ⟨b, o, none⟩ -> w.heap.size <= b) /\ Below w.heap.size w w' :=
 (pW F hF lb r c f w hr hc hf).mono fun e w' ⟨⟨ao, cap, ps, he, hl, hn, hb⟩, hB⟩ => ⟨⟨ao, cap, he, kO hl hn, hl.2.1, hb⟩, hB⟩
abbrev tN (l : Nat) : Fence := Fence.wide.inRound l
theorem ti {P : Program} {f : FuncId} {args : Array Value} {w : World} {R : Ending -> World -> Prop} (l n : Nat) (h : Calls P f args w R) : CallsIn (tN l) n P f args w R := ((callsIn_wide (n := n)).2 h).inRound l
theorem uS {P : Program} {row : String} {args : Array Value} {w : World} {R : Value -> World -> Prop} (l n : Nat) (h : Rows P row args w R) : RowsIn (tN l) n P row args w R := fun c cs _ => by
 obtain ⟨v, w', r, s⟩ := h c cs;exact ⟨v, w', r, stepsIn_wide.2 s⟩
def xW (q : Act -> World -> Prop) : Exit -> Act -> World -> Prop
 | .normal, a, w => q a w
 | _, _, _ => False
theorem sB {q : Act -> World -> Prop} : ¬ LetsOut (xW q) := fun ⟨_, _, h⟩ => h
def sU (ops : Array Oper) : Bool := ops.all fun o => match o.op with | .defer _ => false | _ => true
theorem xy {ops : Array Oper} (h : sU ops = true) {i : Nat} {o : Oper} (ho : ops[i]? = some o) : ∀ c, o.op ≠ .defer c := fun c e => by
 unfold sU at h;rw [Array.all_eq_true] at h;obtain ⟨hi, rfl⟩ := Array.getElem?_eq_some_iff.1 ho;have := h i hi;rw [e] at this;cases this
section
variable {P : Program} {ops : Array Oper} {q : Act -> World -> Prop} {Q' : Exit -> Act -> World -> Prop} {l n : Nat}
theorem sj (hd : sU ops = true) {i : Nat} {K K' : Act -> World -> Prop} {a : Act} {w : World} (hK : ∀ a w, K a w -> K' a w) (h : wpOp P ops (xW q) i K a w) : wpOpIn (tN l) n P ops Q' i K' a w := by
 unfold wpOp at h;unfold wpOpIn;cases ho : ops[i]? with
 | none => rw [ho] at h; exact hK _ _ h
 | some o =>
  rw [ho] at h;simp only at h ⊢;by_cases hw : Region.wanted o (yielded ops a.tmps) = true
  · rw [if_pos hw] at h ⊢;have h := h.resolve_right fun q => sB q.2;unfold Oper.wp at h;refine ⟨fun _ _ => trivial, ?_⟩;rw [Oper.semAt_eq _ _ _ (xy hd ho)];generalize (execOp a.eval o).run P w = r at *;cases r with
    | halt x w' => cases x <;> exact h.elim
    | ok nx w' =>
     cases nx with
     | value v => exact hK _ _ h
     | skip => exact hK _ _ h
     | defer d => exact hK _ _ h
     | enter f args =>
      refine ⟨fun h => by simp [tN, Fence.inRound, Fence.wide] at h, ti l (n - 1) (Calls.mono h fun e w'' he => ?_)⟩;cases e with
      | returned v => exact hK _ _ he
      | panicked c => exact he.elim
      | outgrown => exact (sB he).elim
     | row row args => exact ⟨fun h => by simp [tN, Fence.inRound, Fence.wide] at h, uS l (n - 1) (Rows.mono h fun v w'' he => hK _ _ he)⟩
     | _ => exact h.elim
  · rw [if_neg hw] at h ⊢;exact ⟨fun _ _ => trivial, hK _ _ h⟩
theorem oF (hd : sU ops = true) (hq : ∀ a w, q a w -> Q' .normal a w) {md : Region.Mode} : ∀ (fuel : Nat) (ls : Array Bool) (a : Act) (w : World), wpAny P md ops (xW q) fuel ls a w -> wpAnyIn (tN l) n P md ops Q' fuel ls a w
 | 0, _, _, _, h => ⟨h.1, hq _ _ h.2⟩
 | fuel + 1, ls, a, w, h => ⟨fun hr => hq _ _ (h.1 hr), fun i hi => sj hd (fun a w k => oF hd hq fuel _ a w k) (h.2 i hi)⟩
theorem pB (hd : sU ops = true) (hq : ∀ a w, q a w -> Q' .normal a w) : ∀ (l' : List Nat) (a : Act) (w : World), wpOps P ops (xW q) l' a w -> wpOpsIn (tN l) n P ops Q' l' a w
 | [], _, _, h => hq _ _ h
 | i :: l', a, w, h => by
  rw [wpOps_cons] at h;rw [wpOpsIn_cons];exact sj hd (fun a w k => pB hd hq l' a w k) h
end
def CI (l N : Nat) (P : Program) (n : Nat) (S0 : Nat -> Prop) (w0 : World) (c : Code) (Q : Exit -> Act -> World -> Prop) (ls : List (Nat × Value)) (es : List En) : Prop := ∀ a w, Sl n ls a -> Fr S0 w0 w es -> c.wpIn (tN l) N P Q a w
section
variable {P : Program} {ops : Array Oper} {Q Qx : Exit -> Act -> World -> Prop} {S0 : Nat -> Prop} {w0 : World} {n l N : Nat} {ls : List (Nat × Value)} {es : List En}
theorem rI {id m : Nat} {d : Bool} (hd : List (List Nat)) (k : RWs ⟨P, ops, xW (Q .normal), S0, w0, es, hd⟩ n (qE m 0) [] es ls) (hm : P.follows .mixedOrders = true := by kernel_rfl) (hn : ops.size = m := by rfl) (hok : (jd ops m && sU ops) = true := by kernel_rfl) : CI l N P n S0 w0 (.region id ops d) Q ls es := fun a w ha hw => by
 simp only [Bool.and_eq_true] at hok;cases d with
 | true => exact wpIn_region_any hm (oF hok.2 (fun _ _ h => h) _ _ _ _ (rgA1 ⟨P, ops, xW (Q .normal), S0, w0, es, hd⟩ hn hok.1 hw (k a ha)))
 | false => exact wpIn_region (pB hok.2 (fun _ _ h => h) _ _ _ (rgB1 ⟨P, ops, xW (Q .normal), S0, w0, es, hd⟩ hn hok.1 hw (k a ha)))
theorem nrmI {D : List En} (k : QW n S0 w0 Q .normal ls D) : QW n S0 w0 (xW (Q .normal)) .normal ls D := k
theorem seqI {x y : Code} (k : CI l N P n S0 w0 x (Exit.then (y.wpIn (tN l) N P Q) Q) ls es) : CI l N P n S0 w0 (.seq x y) Q ls es := fun a w ha hw => wpIn_seq (k a w ha hw)
theorem yR {id : Nat} {c : Code} (k : CI l N P n S0 w0 c (Exit.inBlock id Q) ls es) : CI l N P n S0 w0 (.block id c) Q ls es := fun a w ha hw => wpIn_block (k a w ha hw)
theorem nextI {y : Code} (k : CI l N P n S0 w0 y Q ls es) : QW n S0 w0 (Exit.then (y.wpIn (tN l) N P Q) Qx) .normal ls es := k
theorem vM {Z R : Prop} (k : R) (h : R -> Z := by
 intro k;repeat (first | refine nrmI ?_ | refine seqI ?_ | refine skipI ?_ | refine nextI ?_ | refine yR ?_ | refine exitI ?_ | refine xQ ?_ | refine inbN ?_ | refine inbE ?_ | refine inbX (by decide) ?_)
 exact k) : Z := h k
end
theorem tg {w : World} {l : Nat} {o o' : Obj} (hl : w.heap[l]? = some o) (hn : o.isCells = false) {p : Addr} {v : Value} (h : w.cell? p = some v) : (w.putObj l o').cell? p = some v := by
 by_cases e : p.block = l
 · exfalso;unfold World.cell? at h;rw [e, hl] at h;cases o <;> simp_all [Obj.isCells]
 · exact (World.cell?_of_block (World.putObj_heap_other e)).trans h
theorem qi {w : World} {l : Nat} {o o' x : Obj} (hl : w.heap[l]? = some o) (hn : o.isCells = false) {b : Nat} (h : w.heap[b]? = some x) (hx : x.isCells = true) : (w.putObj l o').heap[b]? = some x := by
 by_cases e : b = l
 · subst e; rw [hl] at h; cases h; rw [hn] at hx; cases hx
 · rw [World.putObj_heap_other e]; exact h
theorem fB {w : World} {l : Nat} {o o' : Obj} (hl : w.heap[l]? = some o) (hn : o.isCells = false) {b : Nat} {t : TypeId} {cs : List Value} (h : ah w b t cs) : ah (w.putObj l o') b t cs := qi hl hn h rfl
theorem vr {w : World} {l : Nat} {o o' : Obj} (hl : w.heap[l]? = some o) (hn : o.isCells = false) {ao : Option Addr} {ws : List Nat} (h : cf w ao ws) : cf (w.putObj l o') ao ws := by
 refine ⟨h.1, fun hp => ?_⟩;obtain ⟨b, q, e, hb, hc⟩ := h.2 hp;exact ⟨b, q, e, by rw [show (w.putObj l o').heap.size = w.heap.size by simp]; exact hb, fun i hi => tg hl hn (hc i hi)⟩
theorem vv {w : World} {l : Nat} {o o' : Obj} (hl : w.heap[l]? = some o) (hn : o.isCells = false) {L : Nat} {v : Value} {x : Int} (h : aw w L v x) : aw (w.putObj l o') L v x := by
 obtain ⟨n, ao, len, cap, ws, e, hW, r⟩ := h;exact ⟨n, ao, len, cap, ws, e, vr hl hn hW, r⟩
theorem jo {w : World} {l : Nat} {o o' : Obj} (hl : w.heap[l]? = some o) (hn : o.isCells = false) {v : Value} {x : Int} (h : aJ w v x) : aJ (w.putObj l o') v x := ⟨vv hl hn h.1, h.2⟩
theorem tm {w : World} {l : Nat} {o o' : Obj} (hl : w.heap[l]? = some o) (hn : o.isCells = false) {b : Nat} {xs : List Int} (h : bM w b xs) : bM (w.putObj l o') b xs := by
 obtain ⟨ps, tl, nt, hr, hl', hN⟩ := h;exact ⟨ps, tl, nt, fB hl hn hr, hl', fun i h1 h2 => jo hl hn (hN i h1 h2)⟩
def Pz (e : En) : Prop := ∀ (w : World) (l : Nat) (o o' : Obj), w.heap[l]? = some o -> o.isCells = false -> e.F w -> e.F (w.putObj l o')
theorem Pz.row {b : Nat} {t : TypeId} {cs : List Value} : Pz (.row b t cs) := fun _ _ _ _ hl hn h => fB hl hn h
theorem Pz.own {B : Nat} {v : Value} {x : Int} : Pz (.own B v x) := fun w l o o' hl hn h => by
 obtain ⟨ao, cap, rfl, h1, h2, h3, h4⟩ := (h : ak w B v x);refine ⟨ao, cap, rfl, h1, h2, h3, h4.imp id ?_⟩;rintro ⟨g, c, cur, hv, hbb, hg, r⟩;exact ⟨g, c, cur, hv, hbb, qi hl hn hg rfl, r⟩
theorem Pz.ns {ps : List P4} {xs : List Int} : Pz (.ns ps xs) := fun _ _ _ _ hl hn h => ⟨h.1, fun i a => jo hl hn (h.2 i a)⟩
theorem Pz.fV {ao : Option Addr} {k cap : Nat} {ps : List P4} : Pz (.fV ao k cap ps) := fun w l o o' hl hn ⟨h1, h2, h⟩ => ⟨h1, h2, h.imp id fun ⟨b, tl, e, hn', hr, hl'⟩ => ⟨b, tl, e, hn', fB hl hn hr, hl'⟩⟩
theorem Pz.lg {te : TypeId} {sz : Nat} {ao : Option Addr} {k cap : Nat} {cs : List Value} : Pz (.lg te sz ao k cap cs) := fun w l o o' hl hn ⟨h1, h2, h⟩ => ⟨h1, h2, h.imp id fun ⟨b, tl, e, hn', hr, hl'⟩ => ⟨b, tl, e, hn', fB hl hn hr, hl'⟩⟩
theorem Pz.gM {x : Nat} {gs : List Nat} {E : List (List Int)} : Pz (.gM x gs E) := fun w l o o' hl hn h t ht hx => by
 obtain ⟨ps, tl, hn', hr, h1, h2⟩ := (h : wR x gs E w) t ht hx;exact ⟨ps, tl, hn', fB hl hn hr, h1, fun i a => jo hl hn (h2 i a)⟩
def Cz (e : En) : Prop := ∀ w : World, e.F w -> e.wr = true -> ∀ b, e.S b -> ∃ t cs, ah w b t cs /\ aP cs
theorem Cz.row {b : Nat} {t : TypeId} {cs : List Value} (hn : aP cs := by repeat (first | exact aP.nil | exact ff _ | apply aP.bool | apply aP.slice | apply aP.i64 | apply aP.ptr | apply aP.append | unfold cl)) : Cz (.row b t cs) := fun w h _ g e => by cases (e : g = b); exact ⟨_, _, h, hn⟩
theorem Cz.no {e : En} (h : e.wr = false) : Cz e := fun _ _ h' => by rw [h] at h'; cases h'
theorem Cz.fV {ao : Option Addr} {k cap : Nat} {ps : List P4} : Cz (.fV ao k cap ps) := fun w ⟨_, _, h⟩ _ g ⟨o, e⟩ => by
 rcases h with ⟨h, _⟩ | ⟨b, tl, h, hn, hr, _⟩
 · rw [e] at h; cases h
 · rw [e] at h; cases h; exact ⟨_, _, hr, aP.rn hn⟩
theorem Cz.lg {te : TypeId} {sz : Nat} {ao : Option Addr} {k cap : Nat} {cs : List Value} (hc : aP cs) : Cz (.lg te sz ao k cap cs) := fun w ⟨_, _, h⟩ _ g ⟨o, e⟩ => by
 rcases h with ⟨h, _⟩ | ⟨b, tl, h, hn, hr, _⟩
 · rw [e] at h; cases h
 · rw [e] at h; cases h; exact ⟨_, _, hr, hc.append hn⟩
theorem Cz.gM {x : Nat} {gs : List Nat} {E : List (List Int)} : Cz (.gM x gs E) := fun w h _ g ⟨t, ht, hx, e⟩ => by
 obtain ⟨ps, tl, hn, hr, _⟩ := (h : wR x gs E w) t ht hx;rw [e]; exact ⟨_, _, hr, aP.rn hn⟩
def Rz (es : List En) : Prop := ∀ e ∈ es, Pz e /\ Cz e
theorem Rz.nil : Rz [] := fun _ h => (List.not_mem_nil h).elim
theorem Rz.cons {e : En} {es : List En} (h1 : Pz e) (h2 : Cz e) (h : Rz es) : Rz (e :: es) := fun x hx => (List.mem_cons.1 hx).elim (fun q => q ▸ ⟨h1, h2⟩) (h x)
theorem Fr.tK {S0 : Nat -> Prop} {w0 w : World} {es : List En} (h : Fr S0 w0 w es) (hz : Rz es) {l : Nat} {o : Obj} (o' : Obj) (hl : w.heap[l]? = some o) (hn : o.isCells = false) (h0 : w0.heap.size <= l) : Fr S0 w0 (w.putObj l o') es :=
 ⟨⟨h.bs.os, h.bs.tape, h.bs.output, by have := h.bs.size; simpa using this, fun k hk hs => (World.putObj_heap_other (by omega)).trans (h.bs.block k hk hs)⟩, fun e he => (hz e he).1 w l o o' hl hn (h.all e he), h.sep, h.own⟩
theorem Fr.comp {S0 S : Nat -> Prop} {w0 w W : World} {es es' : List En} (h : Fr S0 w0 w es) (h' : Fr S w W es') (hs : ∀ b, S b -> S0 b ∨ w0.heap.size <= b) : Fr S0 w0 W es' :=
 ⟨⟨h'.bs.os.trans h.bs.os, h'.bs.tape.trans h.bs.tape, h'.bs.output.trans h.bs.output, Nat.le_trans h.size h'.size, fun k hk hn => (h'.bs.block k (Nat.lt_of_lt_of_le hk h.size) (fun q => (hs k q).elim hn (by omega))).trans (h.bs.block k hk hn)⟩, h'.all, h'.sep, fun e he hw b hb => (h'.own e he hw b hb).elim (hs b) (fun q => .inr (Nat.le_trans h.size q))⟩
def qT (es : List En) (b : Nat) : Prop := ∃ e ∈ es, e.wr = true /\ e.S b
theorem Fr.self {S0 : Nat -> Prop} {w0 w : World} {es : List En} (h : Fr S0 w0 w es) : Fr (qT es) w w es := ⟨bZ.refl _ _, h.all, h.sep, fun e he hw b hb => .inl ⟨e, he, hw, hb⟩⟩
theorem Fr.qT {S0 : Nat -> Prop} {w0 w : World} {es : List En} (h : Fr S0 w0 w es) : ∀ b, Go.Proofs.Ytjjlmfmoihooiaa.qT es b -> S0 b ∨ w0.heap.size <= b := fun b ⟨e, he, hw, hb⟩ => h.own e he hw b hb
theorem yE {S : Nat -> Prop} {w w' : World} (h : bZ S w w') (hS : ∀ b, S b -> ∃ o, w.heap[b]? = some o /\ o.isCells = true) : KeepsOthers w w' := ⟨h.size, fun k o hk hn => by
 have hlt := (Array.getElem?_eq_some_iff.1 hk).1;rw [h.block k hlt (fun q => by
  obtain ⟨x, hx, hc⟩ := hS k q;rw [hk] at hx; cases hx; rw [hn] at hc; cases hc)]
 exact hk⟩
theorem vt {S S' : Nat -> Prop} {w w' : World} {B : Nat} (h : bZ S' w w') (hB : B <= w.heap.size) (hS : ∀ b, S' b -> b < B -> S b) : eF B S w w' := ⟨h.os, h.tape, h.output, h.size, fun k hk hn => h.block k (by omega) fun q => hn (hS k q hk)⟩
abbrev mkD (D : Nat) : Deferred := { target := .collected D, args := #[] }
abbrev En.tt (B D : Nat) : En := .fact false false (· = D) (fun w => w.heap[D]? = some (.deferred (some [])) /\ B <= D) (fun h b e => by cases e; exact (Array.getElem?_eq_some_iff.1 h.1).1)
 (fun {w w' T} h hc _ hs => ⟨(hc.block D (Array.getElem?_eq_some_iff.1 h.1).1 (hs D rfl)).trans h.1, h.2⟩)
theorem qj {α : Type} {P : Program} {n : Nat} {g : Operand} {ps : Array Tmp} {assign body : Code} {Q : Exit -> Act -> World -> Prop} {a : Act} {w : World}
 {gf : Nat} {lb : Array Value} (hg : a.eval g = .func (.func gf) #[] lb) (eg : ∀ args w, (callFunc gf args).run P w = .ok (.enter gf args) w)
 {encs : α -> Array Value} (hps : ∀ x, (encs x).size = ps.size) (S : Nat -> Prop) (N : Nat) (Sx : List α -> Prop)
 (E : List α -> α -> World -> Prop) (I : List α -> World -> Prop)
 (hE : ∀ s x W l o o', E s x W -> w.heap.size <= l -> W.heap[l]? = some o -> o.isCells = false -> E s x (W.putObj l o'))
 (hIl : ∀ s W l o o', I s W -> w.heap.size <= l -> W.heap[l]? = some o -> o.isCells = false -> I s (W.putObj l o'))
 (hIb : ∀ s A B, I s A -> Below A.heap.size A B -> I s B) (h0 : I [] w) (A1 : α -> Act -> Prop) (hEb : ∀ s x A B, E s x A -> Below A.heap.size A B -> E s x B)
 (hseq : ∀ (l : Nat) (J : List α -> World -> Prop) (W : World), Below w.heap.size w W -> (∀ s A B, J s A -> Below A.heap.size A B -> J s B) -> (∀ s A, J s A -> I s A) ->
  (∀ pre x W1, J pre W1 -> E pre x W1 -> pre.length < N -> YieldAt Fence.wide (n - 1 - 1) P l (encs x) W1 fun e W' => e = .returned (.bool true) /\ J (pre ++ [x]) W' /\ eF w.heap.size S W1 W') ->
  J [] W -> CallsIn Fence.wide (n - 1) P gf (#[.func (.yield l) #[] #[]] ++ lb) W fun e W' => (∃ v, e = .returned v) /\ ∃ xs, Sx xs /\ J xs W')
 (hassign : ∀ (l : Nat) (pre : List α) (x : α) (W : World) (K : Act -> World -> Prop), E pre x W -> (∀ a1 W1, A1 x a1 -> Below W.heap.size W W1 -> K a1 W1) ->
  assign.wpIn (Fence.wide.inRound l) (n - 1 - 1) P (Exit.then K (fun _ _ _ => False)) { tmps := (ps.zip (encs x)).foldl (fun t (p, v) => t.setIfInBounds p v) a.tmps, defers := [] } W)
 (hbody : ∀ (l : Nat) (pre : List α) (x : α) (W : World) (a1 : Act), A1 x a1 -> I pre W -> E pre x W -> pre.length < N -> body.wpIn (Fence.wide.inRound l) (n - 1 - 1) P (vq w.heap.size S I (pre ++ [x]) W) a1 W)
 (hdone : ∀ (D : Nat) (xs : List α) (W : World), w.heap.size <= D -> Sx xs -> I xs W -> W.heap[D]? = some (.deferred (some [])) -> Q .normal { a with defers := { target := .collected D, args := #[] } :: a.defers } W) :
 (Code.rangeFunc g ps assign body).wpIn Fence.wide n P Q a w := by
 refine wpIn_rangeFunc ?_;intro fn hfn;obtain ⟨R, hR⟩ : ∃ R : LoopState -> Option Code -> Loop, R = fun st pe => { state := st, pending := pe, fn, tmps := a.tmps, params := ps, assign, body, defers := w.heap.size } := ⟨_, rfl⟩;have hz0 : (w.alloc (.deferred (some []))).heap.size = w.heap.size + 1 := by simp
 have hbA : Below w.heap.size w (w.alloc (.deferred (some []))) := (Below.refl _ _).alloc (Nat.le_refl _) _;have hbB : Below (w.heap.size + 1) (w.alloc (.deferred (some []))) ((w.alloc (.deferred (some []))).alloc (.loop (R .ready none))) := (Below.refl _ _).alloc (by simp) _;have hl0 : ((w.alloc (.deferred (some []))).alloc (.loop (R .ready none))).heap[w.heap.size + 1]? = some (.loop (R .ready none)) := by
  have := World.alloc_heap_new (w.alloc (.deferred (some []))) (.loop (R .ready none)); rwa [World.size_alloc] at this
 have hd0 : ((w.alloc (.deferred (some []))).alloc (.loop (R .ready none))).heap[w.heap.size]? = some (.deferred (some [])) :=
  (hbB.block _ (by omega)).trans (World.alloc_heap_new w _)
 have hen := run_enterLoop_outer (P := P) (w := w) fn a.tmps ps assign body;have hI1 : I [] ((w.alloc (.deferred (some []))).alloc (.loop (R .ready none))) := hIb _ _ _ (hIb _ _ _ h0 hbA) (by rw [hz0]; exact hbB);have hbw : Below w.heap.size w ((w.alloc (.deferred (some []))).alloc (.loop (R .ready none))) := hbA.trans (hbB.mono (by omega));rw [show ({ state := .ready, pending := none, fn, tmps := a.tmps, params := ps, assign, body, defers := w.heap.size } : Loop) = R .ready none by rw [hR]] at hen;generalize (w.alloc (.deferred (some []))).alloc (.loop (R .ready none)) = W0 at *;refine ⟨w.heap.size + 1, [{ target := .collected w.heap.size, args := #[] }], W0, { target := .fn (.func gf) lb, args := #[.func (.yield (w.heap.size + 1)) #[] #[]] }, W0, gf,
  #[.func (.yield (w.heap.size + 1)) #[] #[]] ++ lb, W0, hen, ?_, fun _ _ => trivial, by simp [invoke, go_sem, eg], fun h => absurd h (by decide), ?_⟩
 · simp only [resolve, hg];simp [go_sem]
 have hlp : ∀ st pe, (Obj.loop (R st pe)).isCells = false := fun _ _ => rfl;refine (hseq (w.heap.size + 1) (fun pre W => I pre W /\ W.heap[w.heap.size + 1]? = some (.loop (R .ready none)) /\ W.heap[w.heap.size]? = some (.deferred (some []))) W0 hbw ?_ (fun _ _ h => h.1) ?_ ⟨hI1, hl0, hd0⟩).mono ?_
 · rintro s A B ⟨h1, h2, h3⟩ hb;exact ⟨hIb _ _ _ h1 hb, (hb.block _ (Array.getElem?_eq_some_iff.1 h2).1).trans h2, (hb.block _ (Array.getElem?_eq_some_iff.1 h3).1).trans h3⟩
 · rintro pre x W ⟨hi, hl, hd⟩ hx hlen;have hlt : w.heap.size + 1 < W.heap.size := (Array.getElem?_eq_some_iff.1 hl).1;have hy := run_yield (P := P) (args := encs x) hl (by rw [hR]; exact hps x);have hle : w.heap.size <= w.heap.size + 1 := by omega
   rw [hR] at hy;refine ⟨fn, _, assign, body, hy, roundIn_of_wpIn hfn (hassign _ pre x W _ hx fun a1 W1 hA1 hB1 => ?_)⟩;have hl := (hB1.block _ (Array.getElem?_eq_some_iff.1 hl).1).trans hl;have hd := (hB1.block _ (Array.getElem?_eq_some_iff.1 hd).1).trans hd;have hi := hIb _ _ _ hi hB1;have hx := hEb _ _ _ _ hx hB1;have hlt : w.heap.size + 1 < W1.heap.size := (Array.getElem?_eq_some_iff.1 hl).1;have hbg := run_beginRound (P := P) hl (by rw [hR]);rw [hR] at hbg;refine ⟨_, hbg, ?_⟩;have hl2 : (W1.putObj (w.heap.size + 1) (.loop (R .busy none))).heap[w.heap.size + 1]? = some (.loop (R .busy none)) := World.putObj_heap_same hlt;have hd2 : (W1.putObj (w.heap.size + 1) (.loop (R .busy none))).heap[w.heap.size]? = some (.deferred (some [])) := (World.putObj_heap_other (by omega)).trans hd;have hk2 : eF w.heap.size S W (W1.putObj (w.heap.size + 1) (.loop (R .busy none))) := (eF.cP (hB1.mono (by omega))).trans (eF.putObj W1 _ hle);have hi2 := hIl pre W1 (w.heap.size + 1) _ (.loop (R .busy none)) hi hle hl rfl;have hx2 := hE pre x W1 (w.heap.size + 1) _ (.loop (R .busy none)) hx hle hl rfl;rw [show ({ state := .busy, pending := none, fn, tmps := a.tmps, params := ps, assign, body, defers := w.heap.size } : Loop) = R .busy none by rw [hR]];generalize W1.putObj (w.heap.size + 1) (.loop (R .busy none)) = W2 at *;refine wpIn_mono (hbody (w.heap.size + 1) pre x W2 a1 hA1 hi2 hx2 hlen) ?_;intro e a3 W3 hp;cases e with
   | normal =>
    obtain ⟨hk3, hkp3, hi3⟩ := hp;have hl3 := hk3.same _ _ hl2 rfl;have hd3 := hk3.same _ _ hd2 rfl;have hend := run_endRound (P := P) none hl3;rw [hR] at hend;refine ⟨_, _, hend, rfl, ⟨hIl _ _ _ _ _ hi3 hle hl3 rfl, ?_, ?_⟩, ?_⟩
    · rw [World.putObj_heap_same (Array.getElem?_eq_some_iff.1 hl3).1, hR]; rfl
    · exact (World.putObj_heap_other (by omega)).trans hd3
    · exact hk2.trans (hkp3.trans (eF.putObj _ _ hle))
   | ret => exact hp.elim
   | exit id => exact hp.elim
   | goto t => exact hp.elim
   | panic ch => exact hp.elim
   | outgrown => exact hp.elim
 · rintro e W2 ⟨⟨v, rfl⟩, xs, hS, hi, hl, hd⟩;have hle : w.heap.size <= w.heap.size + 1 := by omega
   have hend := run_endLoop (P := P) hl (by rw [hR]; simp);rw [hR] at hend;exact ⟨none, _, hend, hdone _ xs _ (Nat.le_refl _) hS (hIl _ _ _ _ _ hi hle hl rfl) ((World.putObj_heap_other (by omega)).trans hd)⟩
theorem tx {l N : Nat} {P : Program} {c : Code} {q : Act -> World -> Prop} {K : Act -> World -> Prop} {a : Act} {w : World} (h : c.wpIn (tN l) N P (Exit.then q (fun _ _ _ => False)) a w) (hk : ∀ a w, q a w -> K a w) : c.wpIn (tN l) N P (Exit.then K (fun _ _ _ => False)) a w :=
 wpIn_mono h fun e a w hq => by
  cases e with
  | normal => exact hk _ _ hq
  | _ => exact hq
def rdQ {X : Type} (I : X -> Prop) (S' : Nat -> Prop) (W : World) (ex : X -> List En) : Exit -> Act -> World -> Prop
 | .normal, _, w => ∃ y, I y /\ Fr S' W w (ex y)
 | _, _, _ => False
theorem rdE {X : Type} {I : X -> Prop} {S' : Nat -> Prop} {W : World} {ex : X -> List En} {n : Nat} {ls : List (Nat × Value)} {es : List En} (y : X) (h : I y) (he : ∀ w, Fr S' W w es -> Fr S' W w (ex y) := by intro w h; first | exact h | exact h.pick (by repeat (first | exact Pk.n | refine Pk.c (by repeat (first | exact Rm.z | apply Rm.s)) ?_))) : QW n S' W (rdQ I S' W ex) .normal ls es := fun a w _ hw => ⟨y, h, he w hw⟩
theorem asgE {n : Nat} {ls lw : List (Nat × Value)} {W : World} {es : List En} {Qx : Exit -> Act -> World -> Prop} (hs : ∀ a, Sl n ls a -> Sl n lw a := by intro a h; refine h.sub ?_; simp [dT, bN]) : QW n (fun _ => False) W (Exit.then (fun a1 w1 => Sl n lw a1 /\ Below W.heap.size W w1) Qx) .normal ls es := fun a w ha hw => ⟨hs a ha, hw.below⟩
set_option maxRecDepth 100000 in
set_option maxHeartbeats 1000000 in
theorem sD {X : Type} {n : Nat} {ls : List (Nat × Value)} {es : List En} {S0 : Nat -> Prop} {w0 : World} {Q : Exit -> Act -> World -> Prop} {gop : Operand} {p1 p2 : Nat} {assign body : Code} {gb b r c m : Nat} {ps : List P4} {tl : List Value} {xs : List Int}
 (I : Nat -> X -> Prop) (ex : X -> List En) (ex2 : Nat -> X -> List En) (x0 : X) (la : Nat -> Nat -> List (Nat × Value)) (hr : r <= 64) (hc : c <= 64) (hs : xs.length = r * c) (hm : xs.length = m) (hL : ∀ x ∈ xs, ag x.natAbs <= 17592186044415) (ht : aP tl) (h0 : I 0 x0)
 (asg : ∀ (l k g : Nat) (W : World), CI l 4 Try.prog n (fun _ => False) W assign (Exit.then (fun a1 w1 => Sl n (la k g) a1 /\ Below W.heap.size W w1) (fun _ _ _ => False)) ((p2, .slice (some ⟨g, 0, none⟩) c c) :: (p1, .int .i64 (k : Int)) :: ls) [])
 (round : ∀ (l k : Nat) (x : X) (g : Nat) (qs : List P4) (tk : List Value) (S' : Nat -> Prop) (W : World), I k x -> k < r -> aP tk -> CI l 4 Try.prog n S' W body (rdQ (I (k + 1)) S' W ex) (la k g) (.row g 27 (rn qs tk) :: .ns qs (rowOf xs c k) :: ex x))
 (k : ∀ D x, I r x -> kP [mkD D] n S0 w0 Q .normal ls (ex2 D x))
 (hz : ∀ x, Rz (ex x))
 (he : ∀ w, Fr S0 w0 w es -> Fr S0 w0 w (.row gb 24 [.int .i64 (r : Int), .int .i64 (c : Int), .slice (some ⟨b, 0, none⟩) m m] :: .row b 27 (rn ps tl) :: .ns ps xs :: ex x0) := by intro w h; first | exact h | exact h.pick (by repeat (first | exact Pk.n | refine Pk.c (by repeat (first | exact Rm.z | apply Rm.s)) ?_)))
 (hx2 : ∀ D x, ex x ++ [.tt w0.heap.size D] = ex2 D x := by intro D x; rfl)
 (hgi : dT ls gop = true := by kernel_rfl) (hg : cj ls gop = .func (.func 55) #[] #[.pointer (some ⟨gb, 0, none⟩)] := by (simp only [bN, Nat.reduceEqDiff, ↓reduceIte]) <;> rfl)
 (hp : (Nat.blt p1 n && Nat.blt p2 n && !(p1 == p2) && ls.all fun q => !(q.1 == p1) && !(q.1 == p2)) = true := by kernel_rfl) :
 CW Try.prog n S0 w0 (.rangeFunc gop #[p1, p2] assign body) Q ls es := fun a w ha hw => by
 subst hm;simp only [Bool.and_eq_true, Bool.not_eq_true', beq_eq_false_iff_ne] at hp;obtain ⟨⟨⟨hp1, hp2⟩, hp3⟩, hp4⟩ := hp;have hp1 := Nat.le_of_ble_eq_true hp1;have hp2 := Nat.le_of_ble_eq_true hp2;have H := he w hw;have Hx := H.tl.tl.tl;have hgR : ah w gb 24 [.int .i64 (r : Int), .int .i64 (c : Int), .slice (some ⟨b, 0, none⟩) xs.length xs.length] := H.m0;have hbR : bM w b xs := ⟨ps, tl, ht, H.m1, (H.m2 : bg w ps xs).1, fun i h1 h2 => by
  have := (H.m2 : bg w ps xs).2 i h1;rw [ft h1, bV h2] at this; exact this⟩
 have hp := List.pairwise_cons.1 H.sep;have hq := List.pairwise_cons.1 hp.2;have hgS : ¬ qT (ex x0) gb := fun ⟨e, h1, h2, h3⟩ => (hp.1 e (List.mem_cons_of_mem _ (List.mem_cons_of_mem _ h1))).2 h2 gb h3 rfl;have hbS : ¬ qT (ex x0) b := fun ⟨e, h1, h2, h3⟩ => (hq.1 e (List.mem_cons_of_mem _ h1)).2 h2 b h3 rfl;refine (wpIn_wide (n := 6)).1 ?_;refine qj (S := qT (ex x0)) (N := r) (Sx := xZ r c xs) (E := fun pre x W => y7 w.heap.size pre x W /\ x = (pre.length, ⟨x.2.blk, c, rowOf xs c pre.length⟩) /\ pre.length < r /\ ∃ y, I pre.length y /\ Fr (qT (ex x0)) w W (ex y) /\ ∀ e ∈ ex y, ∀ b, e.S b -> b < x.2.blk)
  (I := fun pre W => ∃ y, I pre.length y /\ Fr (qT (ex x0)) w W (ex y)) (gf := 55) (lb := #[.pointer (some ⟨gb, 0, none⟩)]) (encs := NR.enc) ((ha.ev hgi).trans hg) (enters_of Try.func55 (by kernel_rfl) rfl) (fun _ => rfl) ?hE ?hIl ?hIb ⟨x0, h0, Hx.self⟩
  (fun x a1 => Sl n (la x.1 x.2.blk) a1) ?hEb ?hseq ?hassign ?hbody ?hdone
 case hE =>
  rintro s x W l o o' ⟨h1, h2, h3, y, h4, h5, h6⟩ hl ho hn;exact ⟨⟨tm ho hn h1.1, h1.2⟩, h2, h3, y, h4, h5.tK (hz y) o' ho hn hl, h6⟩
 case hIl =>
  rintro s W l o o' ⟨y, h4, h5⟩ hl ho hn;exact ⟨y, h4, h5.tK (hz y) o' ho hn hl⟩
 case hIb =>
  rintro s A B ⟨y, h4, h5⟩ hb;exact ⟨y, h4, h5.grow hb⟩
 case hEb =>
  rintro s x A B ⟨h1, h2, h3, y, h4, h5, h6⟩ hb;exact ⟨⟨h1.1.below hb, h1.2⟩, h2, h3, y, h4, h5.grow hb, h6⟩
 case hseq =>
  intro l J W hW hJ hJI hY hJ0;exact nU 5 gb b r c xs w _ (fun b ⟨e, h1, h2, h3⟩ => (hz x0 e h1).2 w (Hx.all e h1) h2 b h3) hgR hgS hbR hbS hs (by omega) (by omega) hL l J W hW hJ (fun pre x Wp W1 hj hB hle hx hxe hl => hY pre x W1 (hJ _ _ _ hj hB) ⟨hx, hxe, hl, by
   obtain ⟨y, hy, hf⟩ := hJI _ _ hj;exact ⟨y, hy, hf.grow hB, fun e he b hb => Nat.lt_of_lt_of_le (En.lt (hf.all e he) b hb) hle⟩⟩ hl) hJ0 (by omega)
 case hassign =>
  rintro l pre ⟨k', hd⟩ W K ⟨_, hxe, hlt, _⟩ hK;have e1 : hd = ⟨hd.blk, c, rowOf xs c pre.length⟩ := congrArg Prod.snd hxe;have hlen : hd.xs.length = c := by rw [e1]; exact dt hs hlt
  have hcap : hd.cap = c := by rw [e1]
  refine tx (asg l k' hd.blk W _ W ⟨rfl, ?_, fun q hq' => ?_⟩ (Fr.nil _ W)) fun a1 w1 ⟨h1, h2⟩ => hK a1 w1 h1 h2
  · simp [NR.enc, ha.sz]
  · have hsz := ha.sz;simp only [NR.enc, hlen, hcap];have e9 : ∀ u v : Value, Array.foldl (fun t (x : Nat × Value) => t.setIfInBounds x.1 x.2) a.tmps (#[p1, p2].zip #[u, v]) = (a.tmps.setIfInBounds p1 u).setIfInBounds p2 v := fun u v => by simp
    rw [e9];rcases List.mem_cons.1 hq' with rfl | hq'
    · rw [bN.2.2.2, if_pos rfl];exact Array.getElem?_setIfInBounds_self_of_lt (by rw [Array.size_setIfInBounds, hsz]; exact hp2)
    · rcases List.mem_cons.1 hq' with rfl | hq'
      · rw [bN.2.2.2, if_neg hp3, bN.2.2.2, if_pos rfl, Array.getElem?_setIfInBounds_ne (fun e => hp3 e.symm)];exact Array.getElem?_setIfInBounds_self_of_lt (by rw [hsz]; exact hp1)
      · have h4 := List.all_eq_true.1 hp4 q hq';simp only [Bool.and_eq_true, Bool.not_eq_true', beq_eq_false_iff_ne] at h4;rw [bN.2.2.2, if_neg h4.2, bN.2.2.2, if_neg h4.1, Array.getElem?_setIfInBounds_ne (fun e => h4.2 e.symm), Array.getElem?_setIfInBounds_ne (fun e => h4.1 e.symm)];exact ha.vs q hq'
 case hbody =>
  rintro l pre ⟨k', hd⟩ W a1 hA1 _ ⟨hH, hxe, hlt, y, hy, hf, hbl⟩ _;have e0 : k' = pre.length := congrArg Prod.fst hxe;have e1 : hd = ⟨hd.blk, c, rowOf xs c pre.length⟩ := congrArg Prod.snd hxe;subst e0;obtain ⟨hrow, hge, _⟩ := hH
  replace hrow : bM W hd.blk hd.xs := hrow
  rw [show hd.xs = rowOf xs c pre.length by rw [e1]] at hrow
  replace hge : w.heap.size <= hd.blk := hge
  replace hbl : ∀ e ∈ ex y, ∀ b, e.S b -> b < hd.blk := hbl
  obtain ⟨qs, tk, nt, hr1, hl1, hN1⟩ := hrow;have f1 : Fr (qT (ex x0)) w W (.ns qs (rowOf xs c pre.length) :: ex y) := hf.pure ⟨hl1, fun i h => by rw [ft h, bV (by rw [<- hl1]; exact h)]; exact hN1 i h (by rw [<- hl1]; exact h)⟩ (fun _ h => h);have f2 : Fr (qT (ex x0)) w W (.row hd.blk 27 (rn qs tk) :: .ns qs (rowOf xs c pre.length) :: ex y) := f1.cons hr1 (fun e' he' => by
   rcases List.mem_cons.1 he' with rfl | he'
   · exact ⟨fun _ _ _ h => h, fun _ _ h => h.elim⟩
   · exact ⟨fun _ b hb h => by cases (hb : b = hd.blk); exact Nat.lt_irrefl _ (hbl e' he' _ h), fun _ b h hb => by cases (hb : b = hd.blk); exact Nat.lt_irrefl _ (hbl e' he' _ h)⟩) (fun _ b hb => by cases (hb : b = hd.blk); exact .inr hge)
  refine wpIn_mono (round l pre.length y hd.blk qs tk _ W hy hlt nt a1 W hA1 f2.self) fun e a' W' hq => ?_;cases e with
  | normal =>
   obtain ⟨y', hy', hf'⟩ := hq;have hsw : ∀ b, qT (.row hd.blk 27 (rn qs tk) :: .ns qs (rowOf xs c pre.length) :: ex y) b -> b = hd.blk ∨ qT (ex y) b := fun b ⟨e, he', h1, h2⟩ => by
    rcases List.mem_cons.1 he' with rfl | he'
    · exact .inl h2
    · rcases List.mem_cons.1 he' with rfl | he'
      · exact h2.elim
      · exact .inr ⟨e, he', h1, h2⟩
   refine ⟨yE hf'.bs fun b hb => ?_, vt hf'.bs hf.size fun b hb hlt' => ?_, y', by rw [List.length_append]; exact hy', hf.comp hf' fun b hb => ?_⟩
   · rcases hsw b hb with rfl | ⟨e, he', h1, h2⟩
     · exact ⟨_, hr1, rfl⟩
     · obtain ⟨t, cs, hr2, _⟩ := (hz y e he').2 W (hf.all e he') h1 b h2;exact ⟨_, hr2, rfl⟩
   · rcases hsw b hb with rfl | h
     · omega
     · exact (hf.qT b h).resolve_right (by omega)
   · rcases hsw b hb with rfl | h
     · exact .inr hge
     · exact hf.qT b h
  | _ => exact hq.elim
 case hdone =>
  rintro D zs W hD hS ⟨y, hy, hf⟩ hK;have hl : zs.length = r := hS.1;rw [hl] at hy;refine k D y hy _ W ⟨by show mkD D :: a.defers = _; rw [ha.df], ha.sz, ha.vs⟩ ?_;rw [<- hx2];have f1 : Fr S0 w0 W (ex y) := Hx.comp hf Hx.qT;have f2 : Fr S0 w0 W (.tt w0.heap.size D :: ex y) := f1.cons ⟨hK, Nat.le_trans hw.size hD⟩ (fun e' he' => ⟨fun h => (nomatch h), fun h1 b h2 h3 => by
   cases (h3 : b = D);obtain ⟨t, cs, ho, _⟩ := (hz y e' he').2 W (f1.all e' he') h1 _ h2;unfold ah at ho;rw [hK] at ho; cases ho⟩) (fun h => (nomatch h))
  exact f2.perm (List.perm_append_singleton (.tt w0.heap.size D) (ex y)).symm
theorem y8 {P : Program} {S0 : Nat -> Prop} {es : List En} {ls : List (Nat × Value)} {f : FuncId} {fn : Func} {c : Code} {vs : List Value} {w : World} {R : Ending -> World -> Prop} (hf : P.funcs[f]? = some fn) (H : Fr S0 w w es) (k : CW P fn.ntmps S0 w c (bodyPostM Fence.wide 6 P fn R) ls es) (hb : fn.body = some c := by rfl) (hl : oW 0 vs = ls := by (try simp only [oW, Nat.reduceAdd, av]); rfl) (hn : Nat.ble vs.length fn.ntmps = true := by kernel_rfl) : Calls P f vs.toArray w R := by
 have hn := Nat.le_of_ble_eq_true hn;subst hl;refine callsIn_wide.1 (callsIn_of_wp_marks (n := 6) hf hb trivial (wpIn_wide.2 (k _ w ⟨rfl, by simp; omega, fun p hp => ?_⟩ H)) rfl);obtain ⟨_, h1, h2⟩ := lP vs 0 p hp;rw [h2];have hlt := (List.getElem?_eq_some_iff.1 h1).1;rw [Nat.sub_zero] at h1 hlt;simp only [Array.getElem?_append, List.size_toArray, hlt, if_true, List.getElem?_toArray];exact h1
section
variable {P : Program} {S0 : Nat -> Prop} {w0 : World} {n : Nat} {ls : List (Nat × Value)} {es : List En} {fn : Func} {R : Ending -> World -> Prop}
theorem dZ.runM {a : Act} {w : World} {r : ResultVar} {v : Value} (h : ∀ t, dT ls (.tmp t) = true -> a.tmps[t]? = some (cj ls (.tmp t))) (hr : dZ P ls w r v) : (∃ t, r = .tmp t /\ a.tmps[t]? = some v) ∨ ∃ t ty ad, r = .cell t ty /\ a.tmps[t]? = some (.pointer (some ad)) /\ (loadVar ty ad).run P w = .ok v w := by
 cases r with
 | tmp t => exact .inl ⟨t, rfl, (h t hr.1).trans (by rw [hr.2])⟩
 | cell t ty =>
  obtain ⟨h1, ad, h2, h3⟩ := hr;exact .inr ⟨t, ty, ad, rfl, (h t h1).trans (by rw [h2]), h3⟩
theorem res1 {a : Act} {w : World} {r : ResultVar} {v : Value} (h : fn.results = #[r]) (hs : ∀ t, dT ls (.tmp t) = true -> a.tmps[t]? = some (cj ls (.tmp t))) (h1 : dZ P ls w r v) : (results fn a.tmps).run P w = .ok v w := by
 rcases h1.runM hs with ⟨t, rfl, e⟩ | ⟨t, ty, ad, rfl, e, e'⟩ <;> simp [results, h, asAddr, *]
theorem res2 {a : Act} {w : World} {r r' : ResultVar} {v v' : Value} (h : fn.results = #[r, r']) (hs : ∀ t, dT ls (.tmp t) = true -> a.tmps[t]? = some (cj ls (.tmp t))) (h1 : dZ P ls w r v) (h2 : dZ P ls w r' v') : (results fn a.tmps).run P w = .ok (.tuple #[v, v']) w := by
 rcases h1.runM hs with ⟨t, rfl, e⟩ | ⟨t, ty, ad, rfl, e, e'⟩ <;> rcases h2.runM hs with ⟨t2, rfl, f⟩ | ⟨t2, ty2, ad2, rfl, f, f'⟩ <;> simp [results, h, asAddr, *]
theorem fin1M {D : Nat} {es' : List En} {r : ResultVar} (k : ∀ w, Fr S0 w0 w es' -> ∃ v, dZ P ls w r v /\ R (.returned v) w) (hz : Rz es') (hD : En.tt w0.heap.size D ∈ es) (he : ∀ w, Fr S0 w0 w es -> Fr S0 w0 w es' := by intro w h; exact h.pick (by repeat (first | exact Pk.n | refine Pk.c (by repeat (first | exact Rm.z | apply Rm.s)) ?_))) (h : fn.results = #[r] := by rfl) : kP [mkD D] n S0 w0 (bodyPostM Fence.wide 6 P fn R) .ret ls es := fun a w ha hw => by
 obtain ⟨hK, hB⟩ := (hw.all _ hD : w.heap[D]? = some (.deferred (some [])) /\ w0.heap.size <= D);show LeavesInM Fence.wide 6 P fn a.tmps R a.defers .returning w;rw [ha.df];refine ⟨by simp, .inl ⟨_, _, rfl, run_takeDeferred hK, ?_⟩⟩;obtain ⟨v, h1, hR⟩ := k _ ((he w hw).tK hz _ hK rfl hB);exact ⟨v, res1 h (fun t => ha.tmp) h1, hR⟩
theorem fin2M {D : Nat} {es' : List En} {r r' : ResultVar} (k : ∀ w, Fr S0 w0 w es' -> ∃ v v', dZ P ls w r v /\ dZ P ls w r' v' /\ R (.returned (.tuple #[v, v'])) w) (hz : Rz es') (hD : En.tt w0.heap.size D ∈ es) (he : ∀ w, Fr S0 w0 w es -> Fr S0 w0 w es' := by intro w h; exact h.pick (by repeat (first | exact Pk.n | refine Pk.c (by repeat (first | exact Rm.z | apply Rm.s)) ?_))) (h : fn.results = #[r, r'] := by rfl) : kP [mkD D] n S0 w0 (bodyPostM Fence.wide 6 P fn R) .ret ls es := fun a w ha hw => by
 obtain ⟨hK, hB⟩ := (hw.all _ hD : w.heap[D]? = some (.deferred (some [])) /\ w0.heap.size <= D);show LeavesInM Fence.wide 6 P fn a.tmps R a.defers .returning w;rw [ha.df];refine ⟨by simp, .inl ⟨_, _, rfl, run_takeDeferred hK, ?_⟩⟩;obtain ⟨v, v', h1, h2, hR⟩ := k _ ((he w hw).tK hz _ hK rfl hB);exact ⟨_, res2 h (fun t => ha.tmp) h1 h2, hR⟩
end
theorem od (r c n : Nat) (ao : Option Addr) (cap : Nat) (xs : List Int) (w : World) (hr : r <= 64) (hc : c <= 64) (h : aI w 17592186044415 ao xs) (hs : xs.length = r * c) (hn : xs.length = n) :
 Calls Try.prog 30 #[.agg #[.int .i64 (r : Int), .int .i64 (c : Int), .slice ao n cap]] w fun e w' => ∃ q : (Nat × Nat) × List P4 × List Value, e = .returned (.func (.func 55) #[] #[.pointer (some ⟨q.1.1, 0, none⟩)]) /\ Nw w w' [.row q.1.1 24 [.int .i64 (r : Int), .int .i64 (c : Int), .slice (some ⟨q.1.2, 0, none⟩) n n], .row q.1.2 27 (rn q.2.1 q.2.2), .ns q.2.1 xs, .pr (aP q.2.2)] := by
 subst hn;have hsnd : aR (r : Int) (c : Int) xs.length = true := by
  unfold aR bB;rw [hs];simp; omega
 refine (vd (r : Int) (c : Int) ao xs.length cap xs w (by omega) (by omega) h rfl hsnd (by rw [hs]; have := Nat.mul_le_mul hr hc; omega)).mono ?_;rintro e w3 ⟨⟨g, b, rfl, hg, hb, hRg, ps, tl, nt, hRb, hl, hN⟩, hb3⟩;refine ⟨((g, b), ps, tl), rfl, hb3, fun e he => ?_, ?_⟩
 · simp only [List.mem_cons, List.mem_nil_iff, or_false] at he;rcases he with rfl | rfl | rfl | rfl
   · exact ⟨hRg, fun q e => by cases (e : q = g); exact hg⟩
   · exact ⟨hRb, fun q e => by cases (e : q = b); exact hb⟩
   · exact ⟨⟨hl, fun i h => by rw [ft h, bV (by rw [<- hl]; exact h)]; exact hN i h (by rw [<- hl]; exact h)⟩, fun _ h => h.elim⟩
   · exact ⟨nt, fun _ h => h.elim⟩
 · have hne : g ≠ b := ah.ne hRg hRb (by decide);refine List.pairwise_cons.2 ⟨fun e he => ?_, List.pairwise_cons.2 ⟨fun e he => ?_, List.pairwise_cons.2 ⟨fun e he => ?_, List.pairwise_singleton ..⟩⟩⟩
   · simp only [List.mem_cons, List.mem_nil_iff, or_false] at he;rcases he with rfl | rfl | rfl
     · exact ⟨fun _ q h1 h2 => hne (Eq.trans (Eq.symm h1) h2), fun _ q h1 h2 => hne (Eq.trans (Eq.symm h2) h1)⟩
     · exact ⟨fun _ _ _ h => h, fun _ _ h => h.elim⟩
     · exact ⟨fun _ _ _ h => h, fun _ _ h => h.elim⟩
   · simp only [List.mem_cons, List.mem_nil_iff, or_false] at he;rcases he with rfl | rfl
     · exact ⟨fun _ _ _ h => h, fun _ _ h => h.elim⟩
     · exact ⟨fun _ _ _ h => h, fun _ _ h => h.elim⟩
   · simp only [List.mem_cons, List.mem_nil_iff, or_false] at he;rcases he with rfl;exact ⟨fun _ _ _ h => h, fun _ _ h => h.elim⟩
theorem mL : ∀ (us cs tl : List Value), us.length <= tl.length -> fQ (cs ++ tl) cs.length us = cs ++ us ++ tl.drop us.length
 | [], cs, tl, _ => by simp [fQ]
 | u :: us, cs, tl, h => by
  obtain ⟨x, t, rfl⟩ : ∃ x t, tl = x :: t := by
   cases tl with
   | nil => simp at h
   | cons x t => exact ⟨x, t, rfl⟩
  have e : (cs ++ x :: t).set cs.length u = (cs ++ [u]) ++ t := by
   rw [List.set_append_right _ _ (Nat.le_refl _)]; simp
  have h2 := mL us (cs ++ [u]) t (by simpa using h);rw [fQ, e, show cs.length + 1 = (cs ++ [u]).length by simp, h2];simp
theorem kv.nil (te : TypeId) (sz : Nat) (w : World) : kv te sz none 0 0 [] w := ⟨by simp, Nat.le_refl _, .inl ⟨rfl, rfl⟩⟩
section
variable {P : Program} {Q : Exit -> Act -> World -> Prop} {ds : List Deferred} {S0 : Nat -> Prop} {w0 : World} {n : Nat} {ls : List (Nat × Value)} {es : List En} {c : Code}
theorem wk {te : TypeId} {sz : Nat} (k : dL ds P n S0 w0 c Q ls (.lg te sz none 0 0 [] :: es)) : dL ds P n S0 w0 c Q ls es := fun a w ha hw => k a w ha (hw.pure (e := .lg te sz none 0 0 []) (kv.nil te sz w) (fun b ⟨o, e⟩ => nomatch e))
theorem rO {te : TypeId} {sz : Nat} {ao : Option Addr} {k cap : Nat} {cs : List Value} (hk : 0 < k) (h : ∀ b tl, ao = some ⟨b, 0, none⟩ -> aP tl -> (cs ++ tl).length = cap * sz -> dL ds P n S0 w0 c Q ls (.row b te (cs ++ tl) :: es)) : dL ds P n S0 w0 c Q ls (.lg te sz ao k cap cs :: es) := fun a w ha hw => by
 obtain ⟨h1, h2, ⟨_, h3⟩ | ⟨b, tl, rfl, ht, hr, hl⟩⟩ : kv te sz ao k cap cs w := hw.m0
 · omega
 · exact h b tl rfl ht hl a w ha (hw.conv (fun _ => hr) (fun g e => by obtain rfl : g = b := e; exact ⟨0, rfl⟩) (fun _ => rfl))
end
theorem ue {w : World} {t te ty : TypeId} {sz bytes : Nat} {z : Value} (ht : Try.prog.underlying t = some (.slice te)) (hinfo : (Try.prog.info? te).map (fun i => (i.zero, i.size, i.bytes)) = some (some z, sz, bytes)) (hzc : z.cells.size = sz) (hzn : ∀ n, aP (Builtin.zeroCells z.cells n).toList)
 {ao : Option Addr} {k cap m : Nat} {cs news : List Value} {x : Value} (h : kv te sz ao k cap cs w) (hb : (k + m) * bytes <= 140737488355328) (hb2 : k + m <= 100000000) (hs : Src Try.prog sz t x m news w) :
 ∃ ao' cap' w', (Builtin.append_ #[t, t] ty #[.slice ao k cap, x]).run Try.prog w = .ok (.slice ao' (k + m) cap') w' /\ kv te sz ao' (k + m) cap' (cs ++ news) w' /\ bZ (fun g => ∃ o, ao = some ⟨g, o, none⟩) w w' /\ ∀ g, (∃ o, ao' = some ⟨g, o, none⟩) -> (∃ o, ao = some ⟨g, o, none⟩) ∨ w.heap.size <= g := by
 obtain ⟨i, hi, hz, hsz, hby⟩ := info_parts hinfo;subst hsz hby;obtain ⟨hk, hkc, hrow⟩ := h;have hnl := hs.newsLen;by_cases h0 : m = 0
 · subst h0;have hn : news = [] := List.eq_nil_of_length_eq_zero (by simpa using hnl);subst hn;exact ⟨ao, cap, w, run_append_nothing w t t ty te i ht hi ao k cap hkc _ hs, by simpa using ⟨hk, hkc, hrow⟩, bZ.refl _ _, fun g hg => .inl hg⟩
 · by_cases hroom : k + m <= cap
   · obtain ⟨_, h⟩ | ⟨b, tl, rfl, htl, hr, hl⟩ := hrow
     · omega
     have hmul : (k + m) * i.size <= cap * i.size := Nat.mul_le_mul_right _ hroom;rw [Nat.add_mul] at hmul;have hle : news.length <= tl.length := by rw [List.length_append] at hl; omega
     have hex : ∀ j, j < cap * i.size -> (w.cell? ⟨b, j, none⟩).isSome = true := fun j hj => by rw [hr.cell, List.getElem?_eq_getElem (by omega)]; rfl
     have hset : fQ (cs ++ tl) (k * i.size) news = cs ++ news ++ tl.drop news.length := by rw [<- hk]; exact mL news cs tl hle
     have hsc : w.setCells b (0 + k * i.size) news = mV w b (k * i.size) news := by rw [Nat.zero_add, jb]
     refine ⟨_, _, _, run_append_room_src w t t ty te i ht hi b 0 k cap _ m _ hs hroom (fun j hj => hex _ (by omega)) (fun j _ => hr.free _), ?_, ?_, fun g hg => .inl hg⟩
     · rw [hsc];have h2 := hr.mV news (k * i.size);rw [hset] at h2;refine ⟨by rw [List.length_append, hk, hnl, Nat.add_mul], hroom, .inr ⟨b, tl.drop news.length, rfl, fun v hv => htl v (List.mem_of_mem_drop hv), h2, ?_⟩⟩;rw [<- hset, kf]; exact hl
     · rw [hsc];exact (bZ.mV news (k * i.size) (bZ.refl (· = b) w)).mono (fun g _ e => by obtain rfl : g = b := e; exact ⟨0, rfl⟩)
   · have hold : (Builtin.firstCells i.size k (.slice ao k cap)).run Try.prog w.drew = .ok cs.toArray w.drew := by
      obtain ⟨rfl, h⟩ | ⟨b, tl, rfl, htl, hr, hl⟩ := hrow
      · have : k = 0 := by omega
        subst this;have hc : cs = [] := List.eq_nil_of_length_eq_zero (by simpa using hk);subst hc;exact run_firstCells_none w.drew i.size 0 0 cap
      · refine run_firstCells_some w.drew i.size k _ k cap cs hk fun j v hj => ?_;have e : w.drew.cell? ((⟨b, 0, none⟩ : Addr).add j) = w.cell? ⟨b, j, none⟩ := by simp only [Addr.add]; by_cases hj0 : j = 0 <;> simp [hj0]
        rw [e, hr.cell, List.getElem?_append_left (List.getElem?_eq_some_iff.1 hj).1]; exact hj
     have hge := grownCap_ge w (k + m) cap te;refine ⟨_, _, _, run_append_grow_src w t t ty te i z ht hi hz ao k cap cs hold _ m _ hs (by omega) (by omega) (growslice_fits (by omega) hb), ⟨by rw [List.length_append, hk, hnl, Nat.add_mul], hge, .inr ⟨_, (Builtin.zeroCells z.cells (grownCap w (k + m) cap te - (k + m))).toList, rfl, hzn _, ?_, ?_⟩⟩, bZ.uj _ w _, fun g ⟨o, e⟩ => by cases e; exact .inr (Nat.le_refl _)⟩
     · have hnew := ah.new w.drew ((cs ++ news).toArray ++ Builtin.zeroCells z.cells (grownCap w (k + m) cap te - (k + m))) te;simpa using hnew
     · have hz2 : (Builtin.zeroCells z.cells (grownCap w (k + m) cap te - (k + m))).toList.length = (grownCap w (k + m) cap te - (k + m)) * i.size := by rw [Array.length_toList, size_zeroCells, hzc]
       rw [List.length_append, List.length_append, hk, hnl, hz2, <- Nat.add_mul, <- Nat.add_mul, show k + m + (grownCap w (k + m) cap te - (k + m)) = grownCap w (k + m) cap te by omega]
section
variable {ops : Array Oper} {Q : Exit -> Act -> World -> Prop} {ds : List Deferred} {S0 : Nat -> Prop} {w0 : World} {E0 : List En} {hd : List (List Nat)} {n j s : Nat} {l : List Nat} {G E : List En} {ls : List (Nat × Value)} {ty : TypeId} {pos : String} {af : Array Edge}
theorem xF {i k cap g c bytes : Nat} {t te : TypeId} {z v : Value} {ao : Option Addr} {cs : List Value} {sa xa : Operand} {E' : Option Addr × Nat -> List En} (ht : Try.prog.underlying t = some (.slice te)) (hinfo : (Try.prog.info? te).map (fun i => (i.zero, i.size, i.bytes)) = some (some z, 1, bytes)) (hzc : z.cells.size = 1) (hzn : ∀ n, aP (Builtin.zeroCells z.cells n).toList)
 (hb : (k + 1) * bytes <= 140737488355328) (hb2 : k + 1 <= 100000000) (hone : v.oneCell' = true) (hnw : aP cs /\ te ≠ 51) (hm : En.row g te [v] ∈ G ++ E)
 (k' : ∀ q, cW ds ⟨Try.prog, ops, Q, S0, w0, E0, hd⟩ n l G (E' q) ((s, .slice q.1 (k + 1) q.2) :: ls))
 (ho : ops[j]? = some ⟨some s, .call { callee := Callee.builtin Builtin.append, args := #[sa, xa], argTypes := #[t, t] }, ty, pos, af, none⟩ := by rfl) (hk : (di ls (.call { callee := Callee.builtin Builtin.append, args := #[sa, xa], argTypes := #[t, t] }) && Nat.blt s n) = true := by kernel_rfl)
 (ha : cj ls sa = .slice ao k cap := by (simp only [bN, Nat.reduceEqDiff, ↓reduceIte]) <;> rfl)
 (hv : cj ls xa = .slice (some ⟨g, 0, none⟩) 1 c := by (simp only [bN, Nat.reduceEqDiff, ↓reduceIte, av]) <;> rfl)
 (hE : ∀ q, Up (.lg te 1 ao k cap cs) (.lg te 1 q.1 (k + 1) q.2 (cs ++ [v])) i E (E' q) := by intro q; repeat first | exact .z | apply Up.s)
 (hst : ew ops hd j [i] = true := by kernel_rfl) : cW ds ⟨Try.prog, ops, Q, S0, w0, E0, hd⟩ n (j :: l) G E ls := fun a hA => by
 simp only [Bool.and_eq_true] at hk;refine ⟨_, ho, .inr (.inr ⟨rfl, rfl, Option Addr × Nat, fun q => .slice q.1 (k + 1) q.2, fun _ => G, E', [i], ⟨(none, 0)⟩, fun X w hX hw => ?_, hst, fun q r hr => (hE q).other (by simpa using hr), fun q => k' q _ (hA.put (Nat.le_of_ble_eq_true hk.2) _)⟩)⟩;have hrow : ah w g te [v] := hw.all _ (List.mem_append_right _ hm);have hl : kv te 1 ao k cap cs w := by
  obtain ⟨m, h1, h2⟩ := (hE (none, 0)).right' X G;exact (hw.perm h1).all _ (List.mem_cons_self ..)
 have hsrc : Src Try.prog 1 t (.slice (some ⟨g, 0, none⟩) 1 c) 1 [v] w := Src.ofSlice w ht _ 1 c [v] rfl (fun j u hj => by
  match j, hj with
  | 0, hj => cases hj; exact hrow.cell 0) (fun u hu => by rw [List.mem_singleton.1 hu]; exact hone)
 obtain ⟨ao', cap', w', hrun, h1', hc, hS⟩ := ue (ty := ty) ht hinfo hzc hzn hl hb hb2 hsrc;obtain ⟨m, h1, h2⟩ := (hE (ao', cap')).right' X G;refine vT rfl ?_;show mg _ _ ((execOp a.eval _).run _ w);rw [hA.exec (o := ⟨some s, .call { callee := Callee.builtin Builtin.append, args := #[sa, xa], argTypes := #[t, t] }, ty, pos, af, none⟩) hk.1];have e : (execOp (cj ls) ⟨some s, .call { callee := Callee.builtin Builtin.append, args := #[sa, xa], argTypes := #[t, t] }, ty, pos, af, none⟩).run Try.prog w = .ok (.value (.slice ao' (k + 1) cap')) w' := by
  simp [execOp, resolve, invoke, builtin, ha, hv, hrun, Result.andThen]
 rw [e];refine ⟨(ao', cap'), rfl, Fr.perm ((hw.perm h1).bG (e := .lg te 1 ao k cap cs) (e' := .lg te 1 ao' (k + 1) cap' (cs ++ [v])) rfl hc (fun x hx _ => ?_) (fun _ h => h) h1' hS) h2.symm⟩;rintro b ⟨o, rfl⟩;obtain ⟨_, _, ⟨h, _⟩ | ⟨b', tl, h, ht, hr, _⟩⟩ := hl
 · cases h
 · cases h; exact ⟨_, _, hr, hnw.1.append ht, hnw.2⟩
end
theorem uD : (Try.prog.info? 22).map (fun i => (i.zero, i.size, i.bytes)) = some (some (.slice none 0 0), 1, 24) := by kernel_rfl
theorem rj : (Try.prog.info? 3).map (fun i => (i.zero, i.size, i.bytes)) = some (some (.int .i64 0), 1, 8) := by kernel_rfl
theorem nL (z : Value) (hz : z.cells = #[z]) (hn : ∀ n, z ≠ .int .u64 n) (n : Nat) : aP (Builtin.zeroCells z.cells n).toList := by
 rw [hz];intro v hv k;unfold Builtin.zeroCells at hv;simp only [Array.toList_map, List.mem_map, Array.mem_toList_iff, Array.mem_range] at hv;obtain ⟨i, _, rfl⟩ := hv;have h2 : i % 1 = 0 := Nat.mod_one i;simp [h2];exact hn k
theorem Fr.xX {S0 : Nat -> Prop} {w0 w : World} {es : List En} (h : Fr S0 w0 w es) : ∀ {X : List En}, (∀ x ∈ X, x.F w /\ ∀ b, ¬ x.S b) -> Fr S0 w0 w (X ++ es)
 | [], _ => h
 | x :: X, hx => (Fr.xX h (X := X) fun y hy => hx y (List.mem_cons_of_mem _ hy)).pure (hx x (List.mem_cons_self ..)).1 (hx x (List.mem_cons_self ..)).2
section
variable {P : Program} {ops : Array Oper} {Q : Exit -> Act -> World -> Prop} {ds : List Deferred} {S0 : Nat -> Prop} {w0 : World} {E0 : List En} {hd : List (List Nat)} {n j s : Nat} {l : List Nat} {G E : List En} {ls : List (Nat × Value)} {op : Op} {ty : TypeId} {pos : String} {af : Array Edge} {f : FuncId} {args : Array Value}
theorem cUp {α : Type} {mk : α -> Value} {e : En} {e' : α -> En} {ens : α -> List En} {i : Nat} {E' : α -> List En}
 (c : ∀ w, Fr S0 w0 w (G ++ E) -> Calls P f args w fun r w' => ∃ p, r = .returned (mk p) /\ bZ e.S w w' /\ (e' p).F w' /\ (∀ b, (e' p).S b -> e.S b ∨ w.heap.size <= b) /\ ∀ x ∈ ens p, x.F w' /\ ∀ b, ¬ x.S b)
 (hwl : ∀ w, e.F w -> Wl e.S w)
 (k : ∀ p, cW ds ⟨P, ops, Q, S0, w0, E0, hd⟩ n l (ens p ++ G) (E' p) ((s, mk p) :: ls))
 (hwr : e.wr = true := by rfl) (hne : Nonempty α := by infer_instance)
 (ho : ops[j]? = some ⟨some s, op, ty, pos, af, none⟩ := by rfl) (hk : (!bE op && !cO op && di ls op && Nat.blt s n) = true := by kernel_rfl)
 (hr : ∀ w, (execOp (cj ls) ⟨some s, op, ty, pos, af, none⟩).run P w = .ok (.enter f args) w := by intro w; (try simp only [av]); go_simp <;> with_reducible rfl)
 (hE : ∀ p, Up e (e' p) i E (E' p) := by intro p; repeat first | exact .z | apply Up.s)
 (hst : ew ops hd j [i] = true := by kernel_rfl) : cW ds ⟨P, ops, Q, S0, w0, E0, hd⟩ n (j :: l) G E ls := fun a ha => by
 simp only [Bool.and_eq_true, Bool.not_eq_true'] at hk;refine ⟨_, ho, .inr (.inr ⟨hk.1.1.1, hk.1.1.2, α, mk, fun p => ens p ++ G, E', [i], hne, fun X w hX hw => ?_, hst, fun p r hr => (hE p).other (by simpa using hr), fun p => k p _ (ha.put (Nat.le_of_ble_eq_true hk.2) _)⟩)⟩;refine vT rfl ?_;show mg P _ ((execOp a.eval _).run P w);rw [ha.exec hk.1.2, hr w];refine (c w (hw.sub (List.sublist_append_right ..))).mono ?_;rintro r w' ⟨p, rfl, hc, hF, hS, hens⟩;obtain ⟨m, h1, h2⟩ := (hE p).right' X G;have h0 := hw.perm h1;have h3 := Fr.xX (Fr.perm (h0.bG hwr (e' := e' p) hc (fun x hx hl => hwl w h0.m0) (fun _ h => h) hF hS) h2.symm) hens;refine ⟨_, rfl, p, rfl, h3.perm ?_⟩;rw [List.append_assoc];exact (List.perm_append_comm_assoc (ens p) X (G ++ E' p))
end
theorem kv.rl {te : TypeId} {ao : Option Addr} {k cap : Nat} {cs : List Value} {w : World} (h : kv te 1 ao k cap cs w) : rP ao cs w := fun hl => by
 obtain ⟨h1, h2, ⟨_, h3⟩ | ⟨b, tl, e, _, hr, _⟩⟩ := h
 · omega
 · exact ⟨b, e, hr.lt, fun i v hv => by rw [hr.cell, List.getElem?_append_left (List.getElem?_eq_some_iff.1 hv).1]; exact hv⟩
section
variable {P : Program} {Q : Exit -> Act -> World -> Prop} {ds : List Deferred} {S0 : Nat -> Prop} {w0 : World} {n : Nat} {ls : List (Nat × Value)} {es : List En} {c : Code}
theorem lrsW {L : Nat} {hs : List (Option Addr × Nat)} {R : List (List Int)} (t : Nat) (hm : En.xU L hs R ∈ es) (ht : t < R.length) (k : dL ds P n S0 w0 c Q ls (.ls L (hs.getD t (none, 0)).1 (R.getD t []) :: es)) : dL ds P n S0 w0 c Q ls es := fun a w ha hw => by
 have hA : ∀ t, t < R.length -> aI w L (hs.getD t (none, 0)).1 (R.getD t []) := hw.all _ hm;refine k a w ha (hw.cons (e := .ls L (hs.getD t (none, 0)).1 (R.getD t [])) (hA t ht) (fun e' he' => ⟨(fun q => nomatch q), fun q g hg ⟨hl, o, e⟩ => ?_⟩) (fun q => nomatch q));exact hw.apart he' hm q rfl hg ⟨t, ht, hl, o, e⟩
theorem rlW {ao : Option Addr} {cs : List Value} {v : Value} (i : Nat) (hm : En.rl ao cs ∈ es) (hi : cs[i]? = some v) (k : ∀ b, ao = some ⟨b, 0, none⟩ -> dL ds P n S0 w0 c Q ls (.cell ⟨b, i, none⟩ v :: es)) : dL ds P n S0 w0 c Q ls es := fun a w ha hw => by
 have hl : 0 < cs.length := by have := (List.getElem?_eq_some_iff.1 hi).1; omega
 obtain ⟨b, e, hb, hc⟩ := (hw.all _ hm : rP ao cs w) hl;exact k b e a w ha (hw.cellOf hm rfl ⟨hl, 0, e⟩ (hc i v hi))
theorem mJ {L : Nat} {ao : Option Addr} {xs : List Int} (hm : En.ls L ao xs ∈ es) (hl : 0 < xs.length) (k : ∀ b o, ao = some ⟨b, o, none⟩ -> dL ds P n S0 w0 c Q ls es) : dL ds P n S0 w0 c Q ls es := fun a w ha hw => by
 obtain ⟨b, o, e, _⟩ := (hw.all _ hm : aI w L ao xs) hl;exact k b o e a w ha hw
end
section
variable {S0 : Nat -> Prop} {w0 w : World} {e : En} {es : List En}
theorem Fr.lv {X : List En} (h : Fr S0 w0 w (e :: es)) (hw : e.wr = true) (hX : ∀ x ∈ X, x.F w /\ ∀ b, x.S b -> e.S b) (hp : X.Pairwise Ap) : Fr S0 w0 w (X ++ es) := by
 have hs := List.pairwise_cons.1 h.sep;refine ⟨h.bs, fun x hx => (List.mem_append.1 hx).elim (fun q => (hX x q).1) (fun q => h.all x (List.mem_cons_of_mem _ q)), List.pairwise_append.2 ⟨hp, hs.2, fun x hx y hy => ⟨fun _ b h1 h2 => (hs.1 y hy).1 hw b ((hX x hx).2 b h1) h2, fun q b h1 h2 => (hs.1 y hy).2 q b h1 ((hX x hx).2 b h2)⟩⟩, fun x hx q b hb => ?_⟩;rcases List.mem_append.1 hx with hx | hx
 · exact h.own e (List.mem_cons_self ..) hw b ((hX x hx).2 b hb)
 · exact h.own x (List.mem_cons_of_mem _ hx) q b hb
theorem Fr.si {X : List En} (h : Fr S0 w0 w (X ++ es)) (he : e.F w) (hS : ∀ b, e.S b -> ∃ x ∈ X, x.wr = true /\ x.S b) : Fr S0 w0 w (e :: es) := by
 have hs := List.pairwise_append.1 h.sep;refine ⟨h.bs, fun x hx => (List.mem_cons.1 hx).elim (fun q => q ▸ he) (fun q => h.all x (List.mem_append_right _ q)), List.pairwise_cons.2 ⟨fun y hy => ⟨fun _ b h1 h2 => ?_, fun q b h1 h2 => ?_⟩, hs.2.1⟩, fun x hx q b hb => ?_⟩
 · obtain ⟨x, hx, hw, hb⟩ := hS b h1;exact (hs.2.2 x hx y hy).1 hw b hb h2
 · obtain ⟨x, hx, hw, hb⟩ := hS b h2;exact (hs.2.2 x hx y hy).2 q b h1 hb
 · rcases List.mem_cons.1 hx with rfl | hx
   · obtain ⟨y, hy, hw, hb'⟩ := hS b hb;exact h.own y (List.mem_append_left _ hy) hw b hb'
   · exact h.own x (List.mem_append_right _ hx) q b hb
theorem fN {α : Type} {l : List α} {x d : α} (t : Nat) : (l ++ [x]).getD t d = if t < l.length then l.getD t d else if t = l.length then x else d := by
 by_cases h : t < l.length
 · simp [h, List.getElem?_append_left h]
 · rw [if_neg h];by_cases h2 : t = l.length
   · subst h2; simp
   · rw [if_neg h2];rw [List.getD_eq_getElem?_getD, List.getElem?_eq_none (by simp; omega)]; rfl
theorem Fr.nM {gs : List Nat} {E : List (List Int)} {g x x' : Nat} {ps : List P4} {tl : List Value} {v : List Int} (hl : gs.length = E.length) (hx : E.length <= x) (hx' : E.length < x') (hn : aP tl)
 (h : Fr S0 w0 w (.row g 27 (rn ps tl) :: .ns ps v :: .gM x gs E :: es)) : Fr S0 w0 w (.gM x' (gs ++ [g]) (E ++ [v]) :: es) /\ ∀ t, t < E.length -> gs.getD t 0 ≠ g := by
 have hr : ah w g 27 (rn ps tl) := h.m0;have hns : bg w ps v := h.m1;have hF : wR x gs E w := h.m2;have hs := List.pairwise_cons.1 h.sep;refine ⟨Fr.si (X := [.row g 27 (rn ps tl), .ns ps v, .gM x gs E]) h (fun t ht hne => ?_) fun b ⟨t, ht, hne, e⟩ => ?_, fun t ht e => ?_⟩
 · rw [List.length_append] at ht;rw [fN, fN, hl];by_cases q : t < E.length
   · rw [if_pos q, if_pos q]; exact hF t q (by omega)
   · have e : t = E.length := by simp at ht; omega
     rw [if_neg q, if_neg q, if_pos e, if_pos e];exact ⟨ps, tl, hn, hr, hns⟩
 · rw [List.length_append] at ht;rw [fN, hl] at e;by_cases q : t < E.length
   · rw [if_pos q] at e;exact ⟨.gM x gs E, by simp, rfl, t, q, by omega, e⟩
   · rw [if_neg q, if_pos (by simp at ht; omega)] at e;exact ⟨.row g 27 (rn ps tl), by simp, rfl, e⟩
 · exact (hs.1 (.gM x gs E) (by simp)).1 rfl g rfl ⟨t, ht, by omega, e.symm⟩
theorem Fr.rws0 (h : Fr S0 w0 w es) : Fr S0 w0 w (.gM 0 [] [] :: es) := h.cons (fun t ht => absurd ht (Nat.not_lt_zero _)) (fun e' _ => ⟨fun _ b ⟨t, ht, _⟩ => absurd ht (Nat.not_lt_zero _), fun _ b _ ⟨t, ht, _⟩ => absurd ht (Nat.not_lt_zero _)⟩) (fun _ b ⟨t, ht, _⟩ => absurd ht (Nat.not_lt_zero _))
end
theorem xO {P : Program} {Q : Exit -> Act -> World -> Prop} {ds : List Deferred} {S0 : Nat -> Prop} {w0 : World} {n : Nat} {ls : List (Nat × Value)} {es : List En} {c : Code} (k : dL ds P n S0 w0 c Q ls (.gM 0 [] [] :: es)) : dL ds P n S0 w0 c Q ls es := fun a w ha hw => k a w ha hw.rws0
def hG (c : Nat) (gs : List Nat) : List Value := gs.map fun g => .slice (some ⟨g, 0, none⟩) c c
theorem gC (c : Nat) (gs : List Nat) : (hG c gs).length = gs.length := by simp [hG]
theorem yW {c t : Nat} {gs : List Nat} (tl : List Value) (h : t < gs.length) : (hG c gs ++ tl)[t]? = some (.slice (some ⟨gs.getD t 0, 0, none⟩) c c) := by
 rw [List.getElem?_append_left (by rw [gC]; exact h)];simp [hG, h]
theorem rN (c : Nat) (gs : List Nat) (g : Nat) : hG c gs ++ [.slice (some ⟨g, 0, none⟩) c c] = hG c (gs ++ [g]) := by simp [hG]
theorem fx (c : Nat) : ∀ gs : List Nat, aP (hG c gs)
 | [] => aP.nil
 | _ :: gs => aP.slice (fx c gs)
def iL (ns : List Nat) : List Value := ns.map fun x : Nat => Value.int .i64 (x : Int)
theorem nE (ns : List Nat) : (iL ns).length = ns.length := by simp [iL]
theorem yi {t : Nat} {ns : List Nat} (tl : List Value) (h : t < ns.length) : (iL ns ++ tl)[t]? = some (.int .i64 ((ns.getD t 0 : Nat) : Int)) := by
 rw [List.getElem?_append_left (by rw [nE]; exact h)];simp [iL, h]
theorem s5 (ns : List Nat) (x : Nat) : iL ns ++ [.int .i64 (x : Int)] = iL (ns ++ [x]) := by simp [iL]
theorem fY : ∀ ns : List Nat, aP (iL ns)
 | [] => aP.nil
 | _ :: ns => aP.i64 (fY ns)
theorem kg {c t g : Nat} {gs : List Nat} (tl : List Value) (h : t < gs.length) (hg : gs.getD t 0 = g) : (hG c gs ++ tl)[t]? = some (.slice (some ⟨g, 0, none⟩) c c) := by rw [yW tl h, hg]
theorem kY {t x : Nat} {ns : List Nat} (tl : List Value) (h : t < ns.length) (hx : ns.getD t 0 = x) : (iL ns ++ tl)[t]? = some (.int .i64 (x : Int)) := by rw [yi tl h, hx]
def tB (o gs : List Nat) (E : List (List Int)) (w : World) : Prop := ∀ t, t < E.length -> t ∉ o -> ∃ (ps : List P4) (tl : List Value), aP tl /\ ah w (gs.getD t 0) 27 (rn ps tl) /\ bg w ps (E.getD t [])
abbrev En.dV (o gs : List Nat) (E : List (List Int)) : En := .fact true true (fun g => ∃ t, t < E.length /\ t ∉ o /\ g = gs.getD t 0) (tB o gs E)
 (fun h b ⟨t, ht, hx, e⟩ => by
  obtain ⟨ps, tl, _, hr, _⟩ := h t ht hx;rw [e]; exact hr.lt)
 (fun h hc hT hs t ht hx => by
  obtain ⟨ps, tl, hn, hr, h1, h2⟩ := h t ht hx;exact ⟨ps, tl, hn, hc.row hr (hs _ ⟨t, ht, hx, rfl⟩), h1, fun i a => hc.num (hT rfl).bS (h2 i a)⟩)
section
variable {S0 : Nat -> Prop} {w0 w : World} {es : List En} {gs o : List Nat} {E : List (List Int)}
theorem Fr.yp {x : Nat} (hx : E.length <= x) (h : Fr S0 w0 w (.gM x gs E :: es)) : Fr S0 w0 w (.dV [] gs E :: es) := h.conv (fun h t ht _ => h t ht (by omega)) (fun b ⟨t, ht, _, e⟩ => ⟨t, ht, by omega, e⟩) (fun _ => rfl)
theorem Fr.rwoT {t : Nat} (ht : t < E.length) (hto : t ∉ o) (hi : ∀ a b, a < E.length -> b < E.length -> gs.getD a 0 = gs.getD b 0 -> a = b) (h : Fr S0 w0 w (.dV o gs E :: es)) : ∃ ps tl, aP tl /\ ps.length = (E.getD t []).length /\ Fr S0 w0 w (.row (gs.getD t 0) 27 (rn ps tl) :: .ns ps (E.getD t []) :: .dV (t :: o) gs E :: es) := by
 have hF : tB o gs E w := h.m0;obtain ⟨ps, tl, hn, hr, hns⟩ := hF t ht hto;refine ⟨ps, tl, hn, hns.1, h.lv (X := [.row (gs.getD t 0) 27 (rn ps tl), .ns ps (E.getD t []), .dV (t :: o) gs E]) rfl (fun x hx => ?_) ?_⟩
 · simp only [List.mem_cons, List.mem_nil_iff, or_false] at hx;rcases hx with rfl | rfl | rfl
   · exact ⟨hr, fun b e => ⟨t, ht, hto, e⟩⟩
   · exact ⟨hns, fun _ h => h.elim⟩
   · exact ⟨fun s hs hso => hF s hs fun q => hso (List.mem_cons_of_mem _ q), fun b ⟨s, hs, hso, e⟩ => ⟨s, hs, fun q => hso (List.mem_cons_of_mem _ q), e⟩⟩
 · have hne : ∀ b, (∃ s, s < E.length /\ s ∉ t :: o /\ b = gs.getD s 0) -> b ≠ gs.getD t 0 := fun b ⟨s, hs, hso, e⟩ e' => hso (by rw [hi s t hs ht (e.symm.trans e')]; exact List.mem_cons_self ..);refine .cons (fun x hx => ?_) (.cons (fun x hx => ?_) (.cons (fun x hx => (List.not_mem_nil hx).elim) .nil))
   · simp only [List.mem_cons, List.mem_nil_iff, or_false] at hx;rcases hx with rfl | rfl
     · exact ⟨fun _ _ _ h => h, fun q => nomatch q⟩
     · exact ⟨fun _ b hb hb' => hne b hb' hb, fun _ b hb' hb => hne b hb' hb⟩
   · simp only [List.mem_cons, List.mem_nil_iff, or_false] at hx;rcases hx with rfl;exact ⟨(fun q => nomatch q), fun _ _ _ h => h⟩
theorem Fr.oV {t : Nat} {ps : List P4} {tl : List Value} {xs : List Int} (ht : t < E.length) (hto : t ∉ o) (hn : aP tl)
 (h : Fr S0 w0 w (.row (gs.getD t 0) 27 (rn ps tl) :: .ns ps xs :: .dV (t :: o) gs E :: es)) : Fr S0 w0 w (.dV o gs (E.set t xs) :: es) := by
 have hr : ah w (gs.getD t 0) 27 (rn ps tl) := h.m0;have hns : bg w ps xs := h.m1;have hF : tB (t :: o) gs E w := h.m2;refine Fr.si (X := [.row (gs.getD t 0) 27 (rn ps tl), .ns ps xs, .dV (t :: o) gs E]) h (fun s hs hso => ?_) fun b ⟨s, hs, hso, e⟩ => ?_
 · rw [List.length_set] at hs;by_cases q : s = t
   · subst q;exact ⟨ps, tl, hn, hr, by rw [show (E.set s xs).getD s [] = xs by simp [ht]]; exact hns⟩
   · obtain ⟨ps', tl', a1, a2, a3⟩ := hF s hs (by simp [q, hso]);exact ⟨ps', tl', a1, a2, by rw [show (E.set t xs).getD s [] = E.getD s [] by simp [List.getElem?_set_ne (fun e => q e.symm)]]; exact a3⟩
 · rw [List.length_set] at hs;by_cases q : s = t
   · subst q; exact ⟨.row (gs.getD s 0) 27 (rn ps tl), by simp, rfl, e⟩
   · exact ⟨.dV (t :: o) gs E, by simp, rfl, s, hs, by simp [q, hso], e⟩
theorem Fr.rwoP {gs' : List Nat} {E' : List (List Int)} (f : Nat -> Nat) (hl : E'.length = E.length) (hf : ∀ t, t < E.length -> f t < E.length) (hg : ∀ t, t < E.length -> gs'.getD t 0 = gs.getD (f t) 0) (hE : ∀ t, t < E.length -> E'.getD t [] = E.getD (f t) []) (h : Fr S0 w0 w (.dV [] gs E :: es)) : Fr S0 w0 w (.dV [] gs' E' :: es) :=
 h.conv (fun h t ht _ => by rw [hl] at ht; rw [hg t ht, hE t ht]; exact h (f t) (hf t ht) (by simp)) (fun b ⟨t, ht, _, e⟩ => by rw [hl] at ht; exact ⟨f t, hf t ht, by simp, by rw [e, hg t ht]⟩) (fun _ => rfl)
end
section
variable {P : Program} {Q : Exit -> Act -> World -> Prop} {ds : List Deferred} {S0 : Nat -> Prop} {w0 : World} {n : Nat} {ls : List (Nat × Value)} {es : List En} {c : Code} {gs o : List Nat} {E : List (List Int)}
theorem sT (t : Nat) (ht : t < E.length) (hto : t ∉ o) (hi : ∀ a b, a < E.length -> b < E.length -> gs.getD a 0 = gs.getD b 0 -> a = b) (k : ∀ g ps tl, gs.getD t 0 = g -> aP tl -> ps.length = (E.getD t []).length -> dL ds P n S0 w0 c Q ls (.row g 27 (rn ps tl) :: .ns ps (E.getD t []) :: .dV (t :: o) gs E :: es)) : dL ds P n S0 w0 c Q ls (.dV o gs E :: es) := fun a w ha hw => by
 obtain ⟨ps, tl, h1, h2, h3⟩ := hw.rwoT ht hto hi;exact k _ ps tl rfl h1 h2 a w ha h3
theorem wW {es' : List En} (h : ∀ w, Fr S0 w0 w es -> Fr S0 w0 w es') (k : dL ds P n S0 w0 c Q ls es') : dL ds P n S0 w0 c Q ls es := fun a w ha hw => k a w ha (h w hw)
theorem sk {A : Prop} (hA : ∀ w, Fr S0 w0 w es -> A) (k : A -> dL ds P n S0 w0 c Q ls es) : dL ds P n S0 w0 c Q ls es := fun a w ha hw => k (hA w hw) a w ha hw
end
def nn {α : Type} (l : List α) (k p : Nat) (d : α) : List α := (l.set p (l.getD k d)).set k (l.getD p d)
theorem kC {α : Type} (l : List α) (k p : Nat) (d : α) : (nn l k p d).length = l.length := by simp [nn]
theorem Fr.rlF {S0 : Nat -> Prop} {w0 w : World} {es : List En} (h : Fr S0 w0 w es) {ao : Option Addr} {cs : List Value} (hx : rP ao cs w) (hS : ∀ e ∈ es, e.wr = false) : Fr S0 w0 w (.rl ao cs :: es) :=
 h.cons hx (fun e he => ⟨(fun q => nomatch q), fun q => by rw [hS e he] at q; cases q⟩) (fun q => nomatch q)
theorem rP.below {ao : Option Addr} {cs : List Value} {w w' : World} (h : rP ao cs w) (hb : Below w.heap.size w w') : rP ao cs w' := fun hl => by
 obtain ⟨b, e, hlt, hc⟩ := h hl;exact ⟨b, e, Nat.lt_of_lt_of_le hlt hb.size, fun i v hv => (hb.cell (p := ⟨b, i, none⟩) hlt).trans (hc i v hv)⟩
def bO (i j : Nat) : Int := if i = j then 1 else 0
set_option maxRecDepth 100000 in
set_option maxHeartbeats 1000000 in
theorem x6 (i j : Nat) (w : World) : Calls Try.prog 83 #[.int .i64 (i : Int), .int .i64 (j : Int)] w fun e w' => (∃ v, e = .returned v /\ ak w' w.heap.size v (bO i j)) /\ Below w.heap.size w w' := by
 refine aZ (S0 := fun _ => False) Try.func83 (Fr.nil _ w) ?_;by_cases h : i = j
 · subst h;rw [show bO i i = 1 from if_pos rfl];refine ae ?_;refine rW [] ?_;refine aW fun g4 => ?_;refine eW ?_;refine ae ?_;refine rW [] ?_;refine dW ?_;refine dW ?_;refine dB true ?_;refine eW ?_;refine ae ?_;refine dO ?_;refine ae ?_;refine rW [] ?_;refine cN (fun w' H => im 1 w' (by omega) (by omega)) fun q => ?_;refine sW ?_;refine eW ?_;refine ae ?_;refine cQ fun w' H => ?_;exact ⟨_, gD H.m1, ⟨_, rfl, H.m0⟩, H.below⟩
 · rw [show bO i j = 0 from if_neg h];have h01 : ¬ (i : Int) = (j : Int) := by omega
   refine ae ?_;refine rW [] ?_;refine aW fun g4 => ?_;refine eW ?_;refine ae ?_;refine rW [] ?_;refine dW ?_;refine dW ?_;refine dB false ?_;refine eW ?_;refine ae ?_;refine bX ?_;refine ae ?_;refine rW [] ?_;refine dW ?_;refine sW ?_;refine eW ?_;refine ae ?_;refine cQ fun w' H => ?_;exact ⟨_, gD H.m0, ⟨_, rfl, ak.zero _ _⟩, H.below⟩
set_option maxRecDepth 100000 in
set_option maxHeartbeats 1000000 in
theorem se (n : Nat) (w : World) (hn : n <= 64) : Calls Try.prog 63 #[.int .i64 (n : Int)] w fun e w' => (∃ p : Option Addr × Nat, e = .returned (.tuple #[.agg #[.int .i64 (n : Int), .int .i64 (n : Int), .slice p.1 (n * n) p.2], .int .i64 0]) /\ ea w' p.1 (aC n bO (n * n)) /\ True /\ ∀ b o, p.1 = some ⟨b, o, none⟩ -> w.heap.size <= b) /\ Below w.heap.size w w' := by
 have s1 : bB (n : Int) = true := by unfold bB; simp; omega
 have hS1 : ∀ w', Calls Try.prog 43 #[.int .i64 (n : Int)] w' fun e w'' => e = .returned (.bool true) /\ Below w'.heap.size w' w'' := fun w' => (lf n w').mono fun e w'' ⟨h1, h2⟩ => ⟨by rw [h1, s1], h2 ▸ Below.refl _ _⟩;clear s1;refine aZ (S0 := fun _ => False) Try.func63 (Fr.nil _ w) ?_;refine ae ?_;refine rW [] ?_;refine aW fun g2 => ?_;refine dW ?_;refine eW ?_;refine ae ?_;refine rW [] ?_;refine dW ?_;refine cV (v := .bool true) (fun w' H => hS1 w') ?_;refine dW ?_;refine eW ?_;refine ae ?_;refine bX ?_;refine ae ?_;refine rW [] ?_;refine dW ?_;refine dW ?_;refine kJ (α := Option Addr × Nat) (mk := fun p => .agg #[.int .i64 (n : Int), .int .i64 (n : Int), .slice p.1 (n * n) p.2]) (ao := fun p => p.1) (xs := fun _ => aC n bO (n * n)) (A := fun _ => True) (fun w' H => (j9 83 (fun _ _ => by go_simp) #[] n n bO w' hn hn (fun i j w2 hi hj hb => x6 i j w2)).mono (by
  rintro e w3 ⟨⟨ao, cap', rfl, hl, _, hS⟩, hb⟩;exact ⟨⟨(ao, cap'), rfl, hl, trivial, hS⟩, hb⟩)) fun q => ?_
 refine sW ?_;refine dW ?_;refine eW ?_;refine ae ?_;refine dX fun w' H => ?_;exact ⟨_, _, lO H.m2, cX, ⟨q, rfl, H.m0, trivial, (show True /\ ∀ b o, q.1 = some ⟨b, o, none⟩ -> w.heap.size <= b from H.m1).2⟩, H.below⟩
def bL (m : Nat) (xs : List Int) (rs cs : List Nat) (i j : Nat) : Int := gi xs (rs.getD i 0 * m + cs.getD j 0)
def mm (ao : Option Addr) (cs : List Value) (w : World) : Prop := 0 < cs.length -> ∃ b o, ao = some ⟨b, o, none⟩ /\ b < w.heap.size /\ ∀ (i : Nat) v, cs[i]? = some v -> w.cell? ⟨b, o + i, none⟩ = some v
abbrev En.xf (ao : Option Addr) (cs : List Value) : En := .fact false false (fun g => 0 < cs.length /\ ∃ o, ao = some ⟨g, o, none⟩) (mm ao cs)
 (fun h b ⟨hl, o, e⟩ => by
  obtain ⟨b', o', e', hb, _⟩ := h hl;rw [e] at e'; cases e'; exact hb)
 (fun {w w' T} h hc _ hs hl => by
  obtain ⟨b, o, e, hb, hcl⟩ := h hl;exact ⟨b, o, e, Nat.lt_of_lt_of_le hb hc.size, fun i v hv => (hc.cell (p := ⟨b, o + i, none⟩) hb (hs b ⟨hl, o, e⟩)).trans (hcl i v hv)⟩)
theorem mm.below {ao : Option Addr} {cs : List Value} {w w' : World} (h : mm ao cs w) (hb : Below w.heap.size w w') : mm ao cs w' := fun hl => by
 obtain ⟨b, o, e, hlt, hc⟩ := h hl;exact ⟨b, o, e, Nat.lt_of_lt_of_le hlt hb.size, fun i v hv => (hb.cell (p := ⟨b, o + i, none⟩) hlt).trans (hc i v hv)⟩
theorem Fr.rloF {S0 : Nat -> Prop} {w0 w : World} {es : List En} (h : Fr S0 w0 w es) {ao : Option Addr} {cs : List Value} (hx : mm ao cs w) (hS : ∀ e ∈ es, e.wr = false) : Fr S0 w0 w (.xf ao cs :: es) :=
 h.cons hx (fun e he => ⟨(fun q => nomatch q), fun q => by rw [hS e he] at q; cases q⟩) (fun q => nomatch q)
section
variable {P : Program} {Q : Exit -> Act -> World -> Prop} {ds : List Deferred} {S0 : Nat -> Prop} {w0 : World} {n : Nat} {ls : List (Nat × Value)} {es : List En} {c : Code}
theorem rloW {ao : Option Addr} {cs : List Value} {v : Value} (i : Nat) (hm : En.xf ao cs ∈ es) (hi : cs[i]? = some v) (k : ∀ b o, ao = some ⟨b, o, none⟩ -> dL ds P n S0 w0 c Q ls (.cell ⟨b, o + i, none⟩ v :: es)) : dL ds P n S0 w0 c Q ls es := fun a w ha hw => by
 have hl : 0 < cs.length := by have := (List.getElem?_eq_some_iff.1 hi).1; omega
 obtain ⟨b, o, e, hb, hc⟩ := (hw.all _ hm : mm ao cs w) hl;exact k b o e a w ha (hw.cellOf hm rfl ⟨hl, o, e⟩ (hc i v hi))
end
set_option maxRecDepth 100000 in
set_option maxHeartbeats 2000000 in
theorem wV (i j ga gr gc n m nm cap k1 c1 k2 c2 L : Nat) (ao ro co : Option Addr) (rs cs : List Nat) (xs : List Int) (w : World) (h1 : w.cell? ⟨ga, 1, none⟩ = some (.int .i64 (m : Int))) (h2 : w.cell? ⟨ga, 2, none⟩ = some (.slice ao nm cap)) (h3 : w.cell? ⟨gr, 0, none⟩ = some (.slice ro k1 c1)) (h4 : w.cell? ⟨gc, 0, none⟩ = some (.slice co k2 c2))
 (hR : mm ro (iL rs) w) (hC : rP co (iL cs) w) (hA : aI w L ao xs) (hL : L <= 17592186044415) (hk1 : rs.length = k1) (hk2 : cs.length = k2) (hs : xs.length = n * m) (hnm : xs.length = nm) (hi : i < k1) (hj : j < k2) (hri : rs.getD i 0 < n) (hcj : cs.getD j 0 < m) (hn : n <= 64) (hm : m <= 64) :
 Calls Try.prog 62 #[.int .i64 (i : Int), .int .i64 (j : Int), .pointer (some ⟨ga, 0, none⟩), .pointer (some ⟨gr, 0, none⟩), .pointer (some ⟨gc, 0, none⟩)] w fun e w' => (∃ v, e = .returned v /\ ak w' w.heap.size v (gi xs (rs.getD i 0 * m + cs.getD j 0))) /\ Below w.heap.size w w' := by
 obtain ⟨q, hq⟩ : ∃ q, rs.getD i 0 = q := ⟨_, rfl⟩;obtain ⟨p, hp⟩ : ∃ p, cs.getD j 0 = p := ⟨_, rfl⟩;have kr := kY [] (by rw [hk1]; exact hi) hq;have kc := kY [] (by rw [hk2]; exact hj) hp;rw [List.append_nil] at kr kc;rw [hq] at hri ⊢;rw [hp] at hcj ⊢;have hlt := bQ hri hcj;have hb1 : q * m <= 4096 := Nat.mul_le_mul (show q <= 64 by omega) hm;obtain ⟨t, ht⟩ : ∃ t, q * m + p = t := ⟨_, rfl⟩;have htl : t < nm := by omega
 have htx : t < xs.length := by omega
 obtain ⟨bx, ox, rfl⟩ := hA.pos htx;have HA : Fr (fun _ => False) w w [.cell ⟨gc, 0, none⟩ (.slice co k2 c2), .cell ⟨gr, 0, none⟩ (.slice ro k1 c1), .cell ⟨ga, 2, none⟩ (.slice (some ⟨bx, ox, none⟩) nm cap), .cell ⟨ga, 1, none⟩ (.int .i64 (m : Int)), .rl co (iL cs), .xf ro (iL rs), .ls L (some ⟨bx, ox, none⟩) xs] :=
  Fr.cl (Fr.cl (Fr.cl (Fr.cl ((((Fr.nil _ w).l hA (by simp)).rloF hR (by simp [En.wr])).rlF hC (by simp [En.wr])) h1 (by simp [En.wr])) h2 (by simp [En.wr])) h3 (by simp [En.wr])) h4 (by simp [En.wr])
 have HS := Lib.hid (And.intro hs hnm);rw [ht];have HT := Lib.hid ht;clear hs hnm hR hC hA h1 h2 h3 h4 hlt hk1 hk2 hq hp ht;refine aZ (S0 := fun _ => False) Try.func62 HA ?_;clear HA;refine ae ?_;refine rloW (ao := ro) (cs := iL rs) (v := .int .i64 (q : Int)) i (by simp) kr fun rb rof hrb => ?_;subst hrb;refine rlW (ao := co) (cs := iL cs) (v := .int .i64 (p : Int)) j (by simp) kc fun cb hcb => ?_;subst hcb;refine jj (L := L) (xs := xs) (b := bx) (o := ox) t (by simp) htx fun pv => ?_;have h01 : (i : Int) < (k1 : Int) := by omega
 have h02 : (j : Int) < (k2 : Int) := by omega
 have h03 : (t : Int) < (nm : Int) := by omega
 refine rW [] ?_;refine aW fun g7 => ?_;refine eW ?_;refine ae ?_;refine rW [] ?_;refine dW ?_;refine dW ?_;refine dW ?_;refine dW ?_;refine dW ?_;refine dW ?_;refine dW ?_;refine dW ?_;refine dE (jR (a := q) (b := m) (by omega)) ?_;refine dW ?_;refine dW ?_;refine dW ?_;refine dW ?_;refine dE ((oe (a := q * m) (b := p) (by omega)).trans (by rw [HT.out])) ?_;refine dW ?_;refine dW ?_;refine cN (fun w' H => fJ (av pv) (gi xs t) w' ((H.all (.at L (av pv) (gi xs t)) (by simp [av]) : aw ..).mono hL)) fun q2 => ?_;refine sW ?_;refine eW ?_;refine ae ?_;refine cQ fun w' H => ?_;exact ⟨_, gD (H.all (.row g7 27 [.bool q2.1, .slice q2.2.1 q2.2.2.1 q2.2.2.2]) (by simp)), ⟨_, rfl, H.all (.own w.heap.size (av q2) (gi xs t)) (by simp [av])⟩, H.below⟩
set_option maxRecDepth 100000 in
set_option maxHeartbeats 4000000 in
theorem wS (n m nm cap k1 c1 k2 c2 L : Nat) (ao ro co : Option Addr) (rs cs : List Nat) (xs : List Int) (w : World) (hR : mm ro (iL rs) w) (hC : rP co (iL cs) w) (hA : aI w L ao xs) (hL : L <= 17592186044415) (hk1 : rs.length = k1) (hk2 : cs.length = k2) (hs : xs.length = n * m) (hnm : xs.length = nm) (hr : ∀ i < k1, rs.getD i 0 < n) (hc : ∀ j < k2, cs.getD j 0 < m) (hn : n <= 64) (hm : m <= 64) (h1 : k1 <= 64) (h2 : k2 <= 64) :
 Calls Try.prog 36 #[.agg #[.int .i64 (n : Int), .int .i64 (m : Int), .slice ao nm cap], .slice ro k1 c1, .slice co k2 c2] w fun e w' => (∃ p : Option Addr × Nat, e = .returned (.tuple #[.agg #[.int .i64 (k1 : Int), .int .i64 (k2 : Int), .slice p.1 (k1 * k2) p.2], .int .i64 0]) /\ ea w' p.1 (aC k2 (bL m xs rs cs) (k1 * k2)) /\ True /\ ∀ b o, p.1 = some ⟨b, o, none⟩ -> w.heap.size <= b) /\ Below w.heap.size w w' := by
 have hCk : ∀ w', Calls Try.prog 14 #[.agg #[.int .i64 (n : Int), .int .i64 (m : Int), .slice ao nm cap]] w' fun e w'' => e = .returned (.int .i64 0) /\ Below w'.heap.size w' w'' := fun w' => by
  have := cF (n : Int) (m : Int) ao nm cap w' (by omega) (by omega);rw [dm (by unfold aR bB; rw [<- hnm, hs]; simp; omega)] at this; exact this
 have kr := fun i (hi : i < k1) q (hq : rs.getD i 0 = q) => kY [] (by rw [hk1]; exact hi) hq;have kc := fun i (hi : i < k2) q (hq : cs.getD i 0 = q) => kY [] (by rw [hk2]; exact hi) hq;simp only [List.append_nil] at kr kc;have HA : Fr (fun _ => False) w w [.rl co (iL cs), .xf ro (iL rs), .ls L ao xs] := (((Fr.nil _ w).l hA (by simp)).rloF hR (by simp [En.wr])).rlF hC (by simp [En.wr]);have HP := Lib.hid (fun i j ga gr gc (w' : World) a1 a2 a3 a4 a5 a6 a7 hi hj => wV i j ga gr gc n m nm cap k1 c1 k2 c2 L ao ro co rs cs xs w' a1 a2 a3 a4 a5 a6 a7 hL hk1 hk2 hs hnm hi hj (hr i hi) (hc j hj) hn hm);have HC := Lib.hid hCk;have HK := Lib.hid (And.intro kr (And.intro kc (And.intro hr hc)));clear hCk kr kc hR hC hA hs hnm hr hc hk1 hk2;refine aZ (S0 := fun _ => False) Try.func36 HA ?_;clear HA;refine ae ?_;refine rW [] ?_;refine aW fun g3 => ?_;refine aW fun g4 => ?_;refine aW fun g5 => ?_;refine aW fun g6 => ?_;refine dW ?_;refine eW ?_;refine ae ?_;refine rW [] ?_;refine dW ?_;refine cV (v := .int .i64 0) (fun w' H => HC.out w') ?_;refine dW ?_;refine eW ?_;refine ae ?_;refine rW [] ?_;refine dW ?_;refine dB false ?_;refine eW ?_;refine ae ?_;refine bX ?_;refine ae ?_;refine rW [] ?_;refine dW ?_;refine dW ?_;refine dW ?_;refine eW ?_;refine ae ?_;refine bF (X := Nat) (fun k => k <= k1) (fun k => k1 - k) (fun k => [(21, .int .i64 (k : Int)), (20, .int .i64 (k1 : Int)), (19, .slice ro k1 c1), (3, .pointer (some ⟨g3, 0, none⟩)), (4, .pointer (some ⟨g4, 0, none⟩)), (5, .pointer (some ⟨g5, 0, none⟩)), (6, .pointer (some ⟨g6, 0, none⟩))])
  (fun _ => [.row g6 24 [.int .i64 0, .int .i64 0, .slice none 0 0], .row g5 54 [.slice co k2 c2], .row g4 54 [.slice ro k1 c1], .row g3 24 [.int .i64 (n : Int), .int .i64 (m : Int), .slice ao nm cap], .rl co (iL cs), .xf ro (iL rs), .ls L ao xs]) 0 (Nat.zero_le _) fun k hk => ?_
 by_cases h : k < k1
 · have h01 : (k : Int) < (k1 : Int) := by omega
   refine ae ?_;refine rW [] ?_;refine dB true ?_;refine eW ?_;refine ae ?_;obtain ⟨q, hq⟩ : ∃ q, rs.getD k 0 = q := ⟨_, rfl⟩;have hqn : q < n := by rw [<- hq]; exact HK.out.2.2.1 k h
   have kr := HK.out.1 k h q hq;clear hq;refine rloW (ao := ro) (cs := iL rs) (v := .int .i64 (q : Int)) k (by simp) kr fun rb rof hrb => ?_;subst hrb;have h02 : ¬ (q : Int) < 0 := by omega
   have h03 : ¬ (n : Int) <= (q : Int) := by omega
   refine dO ?_;refine ae ?_;refine rW [] ?_;refine dW ?_;refine dW ?_;refine dW ?_;refine eW ?_;refine ae ?_;refine rW [] ?_;refine dW ?_;refine dB false ?_;refine dW ?_;refine dG ?_;refine dG ?_;refine dG ?_;refine j8 false ?_;refine dW ?_;refine eW ?_;refine ae ?_;refine bX ?_;refine ae ?_;refine rW [] ?_;refine dE (cd (a := k) (by omega)) ?_;refine dW ?_;refine eW ?_;refine ae ?_;exact bh (k + 1) ⟨h, by omega⟩
 · obtain rfl : k1 = k := by omega
   refine ae ?_;refine rW [] ?_;refine dB false ?_;refine eW ?_;refine ae ?_;refine bX ?_;refine ae ?_;refine rW [] ?_;refine dW ?_;refine dW ?_;refine dW ?_;refine eW ?_;refine ae ?_;refine bF (X := Nat) (fun k => k <= k2) (fun k => k2 - k) (fun k => [(37, .int .i64 (k : Int)), (36, .int .i64 (k2 : Int)), (35, .slice co k2 c2), (3, .pointer (some ⟨g3, 0, none⟩)), (4, .pointer (some ⟨g4, 0, none⟩)), (5, .pointer (some ⟨g5, 0, none⟩)), (6, .pointer (some ⟨g6, 0, none⟩))])
    (fun _ => [.row g6 24 [.int .i64 0, .int .i64 0, .slice none 0 0], .row g5 54 [.slice co k2 c2], .row g4 54 [.slice ro k1 c1], .row g3 24 [.int .i64 (n : Int), .int .i64 (m : Int), .slice ao nm cap], .rl co (iL cs), .xf ro (iL rs), .ls L ao xs]) 0 (Nat.zero_le _) fun k hk' => ?_
   by_cases h : k < k2
   · have h01 : (k : Int) < (k2 : Int) := by omega
     refine ae ?_;refine rW [] ?_;refine dB true ?_;refine eW ?_;refine ae ?_;obtain ⟨q, hq⟩ : ∃ q, cs.getD k 0 = q := ⟨_, rfl⟩;have hqn : q < m := by rw [<- hq]; exact HK.out.2.2.2 k h
     have kc := HK.out.2.1 k h q hq;clear hq;refine rlW (ao := co) (cs := iL cs) (v := .int .i64 (q : Int)) k (by simp) kc fun cb hcb => ?_;subst hcb;have h02 : ¬ (q : Int) < 0 := by omega
     have h03 : ¬ (m : Int) <= (q : Int) := by omega
     refine dO ?_;refine ae ?_;refine rW [] ?_;refine dW ?_;refine dW ?_;refine dW ?_;refine eW ?_;refine ae ?_;refine rW [] ?_;refine dW ?_;refine dB false ?_;refine dW ?_;refine dG ?_;refine dG ?_;refine dG ?_;refine j8 false ?_;refine dW ?_;refine eW ?_;refine ae ?_;refine bX ?_;refine ae ?_;refine rW [] ?_;refine dE (cd (a := k) (by omega)) ?_;refine dW ?_;refine eW ?_;refine ae ?_;exact bh (k + 1) ⟨h, by omega⟩
   · obtain rfl : k2 = k := by omega
     refine ae ?_;refine rW [] ?_;refine dB false ?_;have h04 : ¬ (64 : Int) < (k1 : Int) := by omega
     have h05 : ¬ (64 : Int) < (k2 : Int) := by omega
     refine eW ?_;refine ae ?_;refine bX ?_;refine ae ?_;refine rW [] ?_;refine dW ?_;refine dW ?_;refine dB false ?_;refine dW ?_;refine dG ?_;refine dG ?_;refine j8 false ?_;refine dW ?_;refine eW ?_;refine ae ?_;refine bX ?_;refine ae ?_;refine rW [] ?_;refine dW ?_;refine dW ?_;refine dW ?_;refine dW ?_;refine fW ?_;refine kJ (α := Option Addr × Nat) (mk := fun p => .agg #[.int .i64 (k1 : Int), .int .i64 (k2 : Int), .slice p.1 (k1 * k2) p.2]) (ao := fun p => p.1) (xs := fun _ => aC k2 (bL m xs rs cs) (k1 * k2)) (A := fun _ => True) (fun w' H => (j9 62 (fun _ _ => by go_simp) #[.pointer (some ⟨g3, 0, none⟩), .pointer (some ⟨g4, 0, none⟩), .pointer (some ⟨g5, 0, none⟩)] k1 k2 (bL m xs rs cs) w' h1 h2 (fun i j w2 hi hj hb => by
      have a1 : ah w' g3 24 [.int .i64 (n : Int), .int .i64 (m : Int), .slice ao nm cap] := H.all (.row g3 24 [.int .i64 (n : Int), .int .i64 (m : Int), .slice ao nm cap]) (by simp);have a2 : ah w' g4 54 [.slice ro k1 c1] := H.all (.row g4 54 [.slice ro k1 c1]) (by simp);have a3 : ah w' g5 54 [.slice co k2 c2] := H.all (.row g5 54 [.slice co k2 c2]) (by simp);have a4 : mm ro (iL rs) w' := H.all (.xf ro (iL rs)) (by simp);have a5 : rP co (iL cs) w' := H.all (.rl co (iL cs)) (by simp);have a6 : aI w' L ao xs := H.all (.ls L ao xs) (by simp);exact HP.out i j g3 g4 g5 w2 ((a1.below hb a1.lt).cell 1) ((a1.below hb a1.lt).cell 2) ((a2.below hb a2.lt).cell 0) ((a3.below hb a3.lt).cell 0) (a4.below hb) (a5.below hb) (a6.below hb) hi hj)).mono (by
      rintro e w3 ⟨⟨ao, cap', rfl, hl, _, hS⟩, hb⟩;exact ⟨⟨(ao, cap'), rfl, hl, trivial, hS⟩, hb⟩)) fun q => ?_
     refine sW ?_;refine dW ?_;refine eW ?_;refine ae ?_;refine dX fun w' H => ?_;exact ⟨_, _, lO (H.all (.row g6 24 [.int .i64 (k1 : Int), .int .i64 (k2 : Int), .slice q.1 (k1 * k2) q.2]) (by simp)), cX, ⟨q, rfl, H.m0, trivial, (show True /\ ∀ b o, q.1 = some ⟨b, o, none⟩ -> w.heap.size <= b from H.m1).2⟩, H.below⟩
theorem rP.xf {ao : Option Addr} {cs : List Value} {w : World} (h : rP ao cs w) : mm ao cs w := fun hl => by
 obtain ⟨b, e, hb, hc⟩ := h hl;exact ⟨b, 0, e, hb, fun i v hv => by rw [Nat.zero_add]; exact hc i v hv⟩
theorem nT (n m nm cap k1 c1 k2 c2 L : Nat) (ao ro co : Option Addr) (rs cs : List Nat) (xs : List Int) (w : World) (hR : rP ro (iL rs) w) (hC : rP co (iL cs) w) (hA : aI w L ao xs) (hL : L <= 17592186044415) (hk1 : rs.length = k1) (hk2 : cs.length = k2) (hs : xs.length = n * m) (hnm : xs.length = nm) (hr : ∀ i < k1, rs.getD i 0 < n) (hc : ∀ j < k2, cs.getD j 0 < m) (hn : n <= 64) (hm : m <= 64) (h1 : k1 <= 64) (h2 : k2 <= 64) :
 Calls Try.prog 36 #[.agg #[.int .i64 (n : Int), .int .i64 (m : Int), .slice ao nm cap], .slice ro k1 c1, .slice co k2 c2] w fun e w' => (∃ p : Option Addr × Nat, e = .returned (.tuple #[.agg #[.int .i64 (k1 : Int), .int .i64 (k2 : Int), .slice p.1 (k1 * k2) p.2], .int .i64 0]) /\ ea w' p.1 (aC k2 (bL m xs rs cs) (k1 * k2)) /\ True /\ ∀ b o, p.1 = some ⟨b, o, none⟩ -> w.heap.size <= b) /\ Below w.heap.size w w' := wS n m nm cap k1 c1 k2 c2 L ao ro co rs cs xs w hR.xf hC hA hL hk1 hk2 hs hnm hr hc hn hm h1 h2
structure ij where
 ro : Option Addr
 rc : Nat
 no : Option Addr
 nc : Nat
 gs : List Nat
 E : List (List Int)
 nu : List Nat
 tn : Bool
 lp : P4
 ls : Int
 tk : Nat
def vh (z : ij) : List Value := [.slice z.ro z.E.length z.rc, .slice z.no z.E.length z.nc, .bool z.tn, .bool z.lp.1, .slice z.lp.2.1 z.lp.2.2.1 z.lp.2.2.2, .int .i64 (z.tk : Int)]
def eI (gs : List Nat) (n : Nat) : Prop := ∀ a b, a < n -> b < n -> gs.getD a 0 = gs.getD b 0 -> a = b
theorem mT {gs : List Nat} {n g : Nat} (hl : gs.length = n) (h : eI gs n) (hg : ∀ t, t < n -> gs.getD t 0 ≠ g) : eI (gs ++ [g]) (n + 1) := fun a b ha hb e => by
 rw [fN, fN, hl] at e;by_cases h1 : a < n <;> by_cases h2 : b < n
 · rw [if_pos h1, if_pos h2] at e; exact h a b h1 h2 e
 · rw [if_pos h1, if_neg h2, if_pos (by omega)] at e; exact absurd e (hg a h1)
 · rw [if_neg h1, if_pos (by omega), if_pos h2] at e; exact absurd e.symm (hg b h2)
 · omega
abbrev yO (gF m : Nat) (z : ij) : List En := [.row gF 104 (vh z), .lg 22 1 z.ro z.E.length z.rc (hG m z.gs), .lg 3 1 z.no z.E.length z.nc (iL z.nu), .gM z.E.length z.gs z.E, .num (av z.lp) z.ls]
def eK (gF m : Nat) (z : ij) (w : World) : Prop := (ah w gF 104 (vh z) /\ kv 22 1 z.ro z.E.length z.rc (hG m z.gs) w /\ kv 3 1 z.no z.E.length z.nc (iL z.nu) w /\ wR z.E.length z.gs z.E w /\ aJ w (av z.lp) z.ls) /\ z.gs.length = z.E.length /\ eI z.gs z.E.length
def eA (gF : Nat) (z : ij) (g : Nat) : Prop := g = gF ∨ (∃ o, z.ro = some ⟨g, o, none⟩) ∨ (∃ o, z.no = some ⟨g, o, none⟩) ∨ ∃ t, t < z.E.length /\ t ≠ z.E.length /\ g = z.gs.getD t 0
theorem fa {te : TypeId} {sz : Nat} {ao : Option Addr} {k cap : Nat} {cs : List Value} {w : World} (h : kv te sz ao k cap cs w) {b : Nat} (hb : ∃ o, ao = some ⟨b, o, none⟩) : ∃ tl, aP tl /\ ah w b te (cs ++ tl) := by
 obtain ⟨o, hb⟩ := hb;obtain ⟨_, _, ⟨e, _⟩ | ⟨b', tl, e, hn, hr, _⟩⟩ := h
 · rw [hb] at e; cases e
 · rw [hb] at e; cases e; exact ⟨tl, hn, hr⟩
theorem eK.rows {gF m : Nat} {z : ij} {w : World} (h : eK gF m z w) {g : Nat} (hg : eA gF z g) : ∃ t cs, ah w g t cs /\ aP cs /\ t ≠ 51 := by
 obtain ⟨⟨h1, h2, h3, h4, h5⟩, _⟩ := h;rcases hg with rfl | hg | hg | ⟨t, ht, hx, rfl⟩
 · exact ⟨_, _, h1, aP.slice (aP.slice (aP.bool (aP.bool (aP.slice (aP.i64 aP.nil))))), by decide⟩
 · obtain ⟨tl, hn, hr⟩ := fa h2 hg;exact ⟨_, _, hr, (fx m z.gs).append hn, by decide⟩
 · obtain ⟨tl, hn, hr⟩ := fa h3 hg;exact ⟨_, _, hr, (fY z.nu).append hn, by decide⟩
 · obtain ⟨ps, tl, hn, hr, _⟩ := h4 t ht hx;exact ⟨_, _, hr, aP.rn hn, by decide⟩
abbrev En.oh (gF m : Nat) (z : ij) : En := .fact true true (eA gF z) (eK gF m z) (fun h g hg => by obtain ⟨t, cs, hr, _⟩ := h.rows hg; exact hr.lt)
 (fun {w w' T} ⟨⟨h1, h2, h3, h4, h5⟩, h6, h7⟩ hc hT hs => by
  refine ⟨⟨hc.row h1 (hs _ (.inl rfl)), ?_, ?_, fun t ht hx => ?_, hc.num (hT rfl).bS h5⟩, h6, h7⟩
  · exact ⟨h2.1, h2.2.1, h2.2.2.imp id fun ⟨b, tl, e, hn, hr, hl⟩ => ⟨b, tl, e, hn, hc.row hr (hs _ (.inr (.inl ⟨0, e⟩))), hl⟩⟩
  · exact ⟨h3.1, h3.2.1, h3.2.2.imp id fun ⟨b, tl, e, hn, hr, hl⟩ => ⟨b, tl, e, hn, hc.row hr (hs _ (.inr (.inr (.inl ⟨0, e⟩)))), hl⟩⟩
  · obtain ⟨ps, tl, hn, hr, h1', h2'⟩ := h4 t ht hx;exact ⟨ps, tl, hn, hc.row hr (hs _ (.inr (.inr (.inr ⟨t, ht, hx, rfl⟩)))), h1', fun i a => hc.num (hT rfl).bS (h2' i a)⟩)
theorem Fr.fldO {S0 : Nat -> Prop} {w0 w : World} {es : List En} {gF m : Nat} {z : ij} (h : Fr S0 w0 w (.oh gF m z :: es)) : Fr S0 w0 w (yO gF m z ++ es) /\ z.gs.length = z.E.length /\ eI z.gs z.E.length := by
 obtain ⟨⟨h1, h2, h3, h4, h5⟩, h6, h7⟩ := (h.m0 : eK gF m z w);have q12 : ∀ b, (∃ o, z.ro = some ⟨b, o, none⟩) -> b ≠ gF := fun b hb e => by
  obtain ⟨tl, _, hr⟩ := fa h2 hb; subst e; exact absurd rfl (hr.ne h1 (by decide))
 have q13 : ∀ b, (∃ o, z.no = some ⟨b, o, none⟩) -> b ≠ gF := fun b hb e => by
  obtain ⟨tl, _, hr⟩ := fa h3 hb; subst e; exact absurd rfl (hr.ne h1 (by decide))
 have q14 : ∀ b, (∃ t, t < z.E.length /\ t ≠ z.E.length /\ b = z.gs.getD t 0) -> b ≠ gF := fun b ⟨t, ht, hx, e'⟩ e => by
  obtain ⟨ps, tl, _, hr, _⟩ := h4 t ht hx; rw [<- e', e] at hr; exact absurd rfl (hr.ne h1 (by decide))
 have q23 : ∀ b, (∃ o, z.ro = some ⟨b, o, none⟩) -> ¬ ∃ o, z.no = some ⟨b, o, none⟩ := fun b hb hb' => by
  obtain ⟨tl, _, hr⟩ := fa h2 hb; obtain ⟨tl', _, hr'⟩ := fa h3 hb'; exact absurd rfl (hr.ne hr' (by decide))
 have q24 : ∀ b, (∃ o, z.ro = some ⟨b, o, none⟩) -> ¬ ∃ t, t < z.E.length /\ t ≠ z.E.length /\ b = z.gs.getD t 0 := fun b hb ⟨t, ht, hx, e'⟩ => by
  obtain ⟨tl, _, hr⟩ := fa h2 hb; obtain ⟨ps, tl', _, hr', _⟩ := h4 t ht hx; rw [<- e'] at hr'; exact absurd rfl (hr.ne hr' (by decide))
 have q34 : ∀ b, (∃ o, z.no = some ⟨b, o, none⟩) -> ¬ ∃ t, t < z.E.length /\ t ≠ z.E.length /\ b = z.gs.getD t 0 := fun b hb ⟨t, ht, hx, e'⟩ => by
  obtain ⟨tl, _, hr⟩ := fa h3 hb; obtain ⟨ps, tl', _, hr', _⟩ := h4 t ht hx; rw [<- e'] at hr'; exact absurd rfl (hr.ne hr' (by decide))
 refine ⟨h.lv rfl (fun x hx => ?_) ?_, h6, h7⟩
 · simp only [yO, List.mem_cons, List.mem_nil_iff, or_false] at hx;rcases hx with rfl | rfl | rfl | rfl | rfl
   · exact ⟨h1, fun b e => .inl e⟩
   · exact ⟨h2, fun b e => .inr (.inl e)⟩
   · exact ⟨h3, fun b e => .inr (.inr (.inl e))⟩
   · exact ⟨h4, fun b e => .inr (.inr (.inr e))⟩
   · exact ⟨h5, fun b e => e.elim⟩
 · refine .cons (fun x hx => ?_) (.cons (fun x hx => ?_) (.cons (fun x hx => ?_) (.cons (fun x hx => ?_) (.cons (fun x hx => (List.not_mem_nil hx).elim) .nil))))
   · simp only [List.mem_cons, List.mem_nil_iff, or_false] at hx;rcases hx with rfl | rfl | rfl | rfl
     · exact ⟨fun _ b hb hb' => q12 b hb' hb, fun _ b hb' hb => q12 b hb' hb⟩
     · exact ⟨fun _ b hb hb' => q13 b hb' hb, fun _ b hb' hb => q13 b hb' hb⟩
     · exact ⟨fun _ b hb hb' => q14 b hb' hb, fun _ b hb' hb => q14 b hb' hb⟩
     · exact ⟨fun _ _ _ h => h, fun q => nomatch q⟩
   · simp only [List.mem_cons, List.mem_nil_iff, or_false] at hx;rcases hx with rfl | rfl | rfl
     · exact ⟨fun _ b hb hb' => q23 b hb hb', fun _ b hb' hb => q23 b hb hb'⟩
     · exact ⟨fun _ b hb hb' => q24 b hb hb', fun _ b hb' hb => q24 b hb hb'⟩
     · exact ⟨fun _ _ _ h => h, fun q => nomatch q⟩
   · simp only [List.mem_cons, List.mem_nil_iff, or_false] at hx;rcases hx with rfl | rfl
     · exact ⟨fun _ b hb hb' => q34 b hb hb', fun _ b hb' hb => q34 b hb hb'⟩
     · exact ⟨fun _ _ _ h => h, fun q => nomatch q⟩
   · simp only [List.mem_cons, List.mem_nil_iff, or_false] at hx;rcases hx with rfl;exact ⟨fun _ _ _ h => h, fun q => nomatch q⟩
def bR (k c : Nat) (xs : List Int) : List (List Int) := (List.range k).map (rowOf xs c)
theorem dq (k c : Nat) (xs : List Int) : (bR k c xs).length = k := by simp [bR]
theorem qS (k c : Nat) (xs : List Int) : bR (k + 1) c xs = bR k c xs ++ [rowOf xs c k] := by simp [bR, List.range_succ]
theorem factI {l N : Nat} {P : Program} {n : Nat} {S0 : Nat -> Prop} {w0 : World} {c : Code} {Q : Exit -> Act -> World -> Prop} {ls : List (Nat × Value)} {es : List En} {A : Prop} (hA : ∀ w, Fr S0 w0 w es -> A) (k : A -> CI l N P n S0 w0 c Q ls es) : CI l N P n S0 w0 c Q ls es := fun a w ha hw => k (hA w hw) a w ha hw
structure OfX where
 k : Nat
 ro : Option Addr
 rc : Nat
 no : Option Addr
 nc : Nat
 gs : List Nat
structure OfI (k : Nat) (x : OfX) : Prop where
 hk : x.k = k
 hl : x.gs.length = k
 hi : eI x.gs k
set_option maxRecDepth 100000 in
set_option maxHeartbeats 4000000 in
theorem xR (r c nm L cap : Nat) (ao : Option Addr) (xs : List Int) (w : World) (hr : r <= 64) (hc : c <= 64) (hA : aI w L ao xs) (hL : L <= 17592186044415) (hs : xs.length = r * c) (hnm : xs.length = nm) (hb : ∀ x ∈ xs, ag x.natAbs <= 17592186044415) :
 Calls Try.prog 49 #[.agg #[.int .i64 (r : Int), .int .i64 (c : Int), .slice ao nm cap]] w fun e w' => ∃ q : Nat × ij, e = .returned (.pointer (some ⟨q.1, 0, none⟩)) /\ Nw w w' [.oh q.1 c q.2] /\ q.2.E = bR r c xs /\ q.2.ls = 1 /\ q.2.tn = false /\ q.2.tk = 0 /\ q.2.nu.length = r := by
 have cL := fun w' (h : aI w' L ao xs) => od r c nm ao cap xs w' hr hc (fun hl => by
  obtain ⟨b, o, e, hlt, hc⟩ := h hl;exact ⟨b, o, e, hlt, fun i hi => by obtain ⟨p, h0, h1, hn⟩ := hc i hi; exact ⟨p, h0, h1, hn.mono hL⟩⟩) hs hnm
 have HC := Lib.hid cL;have HS := Lib.hid (And.intro hs (And.intro hnm hb));clear cL hs hnm hb;refine y8 (S0 := fun _ => False) Try.func49 ((Fr.nil _ w).l hA (by simp)) ?_;refine ae ?_;refine rW [] ?_;refine aW fun g1 => ?_;refine dW ?_;refine eW ?_;refine ae ?_;refine rW [] ?_;refine cN (fun w' H => im 1 w' (by omega) (by omega)) fun p6 => ?_;refine dW ?_;refine aW fun g8 => ?_;refine aW fun g3 => ?_;refine sG ?_;refine eW ?_;refine ae ?_;refine rW [] ?_;refine dW ?_;refine cG (α := (Nat × Nat) × List P4 × List Value) (mk := fun q => .func (.func 55) #[] #[.pointer (some ⟨q.1.1, 0, none⟩)]) (ens := fun q => [.row q.1.1 24 [.int .i64 (r : Int), .int .i64 (c : Int), .slice (some ⟨q.1.2, 0, none⟩) nm nm], .row q.1.2 27 (rn q.2.1 q.2.2), .ns q.2.1 xs, .pr (aP q.2.2)]) (fun w' H => HC.out w' (H.all (.ls L ao xs) (by simp))) fun q => ?_;refine eW ?_;refine ae ?_;refine lJ (A := aP q.2.2) (by simp) fun hq => ?_;refine wk (te := 22) (sz := 1) ?_;refine wk (te := 3) (sz := 1) ?_;refine xO ?_;refine sD (X := OfX) (gb := q.1.1) (b := q.1.2) (r := r) (c := c) (m := nm) (ps := q.2.1) (tl := q.2.2) (xs := xs) OfI
  (fun x => [.row g8 104 [.slice x.ro x.k x.rc, .slice x.no x.k x.nc, .bool false, .bool p6.1, .slice p6.2.1 p6.2.2.1 p6.2.2.2, .int .i64 0], .lg 22 1 x.ro x.k x.rc (hG c x.gs), .lg 3 1 x.no x.k x.nc (iL (List.range x.k)), .gM x.k x.gs (bR x.k c xs), .row g3 85 [.pointer (some ⟨g8, 0, none⟩)], .own w.heap.size (av p6) 1])
  (fun D x => [.row g8 104 [.slice x.ro x.k x.rc, .slice x.no x.k x.nc, .bool false, .bool p6.1, .slice p6.2.1 p6.2.2.1 p6.2.2.2, .int .i64 0], .lg 22 1 x.ro x.k x.rc (hG c x.gs), .lg 3 1 x.no x.k x.nc (iL (List.range x.k)), .gM x.k x.gs (bR x.k c xs), .row g3 85 [.pointer (some ⟨g8, 0, none⟩)], .own w.heap.size (av p6) 1, .tt w.heap.size D])
  ⟨0, none, 0, none, 0, []⟩ (fun k g => [(4, .int .i64 (k : Int)), (5, .slice (some ⟨g, 0, none⟩) c c), (3, .pointer (some ⟨g3, 0, none⟩))]) hr hc HS.out.1 HS.out.2.1 HS.out.2.2 hq ⟨rfl, rfl, fun a b ha => absurd ha (Nat.not_lt_zero _)⟩ (fun l k g W => ?_) (fun l k x g qs tk S' W hx hk htk => ?_) (fun D x hx => ?_)
  (fun x => .cons .row .row (.cons .lg (.lg (fx _ _)) (.cons .lg (.lg (fY _)) (.cons .gM .gM (.cons .row .row (.cons .own (.no rfl) .nil))))))
 · refine vM ?_;refine rI [] ?_;refine dW ?_;refine eW ?_;refine vM ?_;refine rI [] ?_;refine dW ?_;refine eW ?_;refine vM ?_;exact asgE
 · obtain ⟨k0, ro, rc, no, nc, gs⟩ := x;obtain ⟨hk0, hgl, hgi⟩ := hx;obtain rfl : k0 = k := hk0
   replace hgl : gs.length = k0 := hgl
   replace hgi : eI gs k0 := hgi
   have hk64 : k0 <= 64 := by omega
   have HG := Lib.hid (And.intro hgl hgi);clear hgl hgi;refine vM ?_;refine factI (A := ∀ t, t < k0 -> gs.getD t 0 ≠ g) (fun w' h => by
    have h2 : Fr S' W w' (.row g 27 (rn qs tk) :: .ns qs (rowOf xs c k0) :: .gM k0 gs (bR k0 c xs) :: []) := h.pick (by repeat (first | exact Pk.n | refine Pk.c (by repeat (first | exact Rm.z | apply Rm.s)) ?_));have h3 := (h2.nM (x' := k0 + 1) (by rw [dq]; exact HG.out.1) (by rw [dq]; exact Nat.le_refl _) (by rw [dq]; omega) htk).2;rw [dq] at h3; exact h3) fun hne => ?_
   have HN := Lib.hid hne;clear hne;refine rI [[3]] ?_;refine dH ?_;refine dH ?_;refine dH ?_;refine dH ?_;refine dH ?_;refine dH ?_;refine bW (m := 1) fun g19 => ?_;refine xF (k := k0) (cap := rc) (g := g19) (c := 1) (ao := ro) (cs := hG c gs) (v := .slice (some ⟨g, 0, none⟩) c c) Try.underlying69 uD rfl (nL (.slice none 0 0) rfl (fun n h => nomatch h)) (by omega) (by omega) rfl ⟨fx c gs, by decide⟩ (by simp) fun u => ?_;refine dH ?_;refine dH ?_;refine sW ?_;refine eW ?_;refine vM ?_;refine rI [[5]] ?_;refine dH ?_;refine dH ?_;refine dH ?_;refine dH ?_;refine dH ?_;refine dH ?_;refine bW (m := 1) fun g29 => ?_;refine xF (k := k0) (cap := nc) (g := g29) (c := 1) (ao := no) (cs := iL (List.range k0)) (v := .int .i64 (k0 : Int)) Try.underlying54 rj rfl (nL (.int .i64 0) rfl (fun n h => nomatch h)) (by omega) (by omega) rfl ⟨fY _, by decide⟩ (by simp) fun v => ?_;refine dH ?_;refine dH ?_;refine sW ?_;refine eW ?_;refine vM ?_;exact rdE (⟨k0 + 1, u.1, u.2, v.1, v.2, gs ++ [g]⟩ : OfX) ⟨rfl, by show (gs ++ [g]).length = _; rw [List.length_append, HG.out.1]; rfl, mT HG.out.1 HG.out.2 HN.out⟩ (he := by
    intro w' h;rw [rN, s5, show List.range k0 ++ [k0] = List.range (k0 + 1) from List.range_succ.symm] at h;have h2 := h.pick (es' := .row g 27 (rn qs tk) :: .ns qs (rowOf xs c k0) :: .gM k0 gs (bR k0 c xs) :: [.row g8 104 [.slice u.1 (k0 + 1) u.2, .slice v.1 (k0 + 1) v.2, .bool false, .bool p6.1, .slice p6.2.1 p6.2.2.1 p6.2.2.2, .int .i64 0], .lg 22 1 u.1 (k0 + 1) u.2 (hG c (gs ++ [g])), .lg 3 1 v.1 (k0 + 1) v.2 (iL (List.range (k0 + 1))), .row g3 85 [.pointer (some ⟨g8, 0, none⟩)], .own w.heap.size (av p6) 1]) (by repeat (first | exact Pk.n | refine Pk.c (by repeat (first | exact Rm.z | apply Rm.s)) ?_));have h3 := (h2.nM (x' := k0 + 1) (by rw [dq]; exact HG.out.1) (by rw [dq]; exact Nat.le_refl _) (by rw [dq]; omega) htk).1;rw [<- qS] at h3;exact h3.pick (by repeat (first | exact Pk.n | refine Pk.c (by repeat (first | exact Rm.z | apply Rm.s)) ?_)))
 obtain ⟨k0, ro, rc, no, nc, gs⟩ := x;obtain ⟨hk0, hgl, hgi⟩ := hx;obtain rfl : k0 = r := hk0;have HG : Hid (gs.length = k0 /\ eI gs k0) := Lib.hid ⟨hgl, hgi⟩;clear hgl hgi;refine ae ?_;refine rW [] ?_;refine dW ?_;refine dW ?_;refine eW ?_;refine ae ?_;refine fin1M (D := D) (es' := [.row g8 104 [.slice ro k0 rc, .slice no k0 nc, .bool false, .bool p6.1, .slice p6.2.1 p6.2.2.1 p6.2.2.2, .int .i64 0], .lg 22 1 ro k0 rc (hG c gs), .lg 3 1 no k0 nc (iL (List.range k0)), .gM k0 gs (bR k0 c xs), .own w.heap.size (av p6) 1]) (fun w' H => ?_) (.cons .row .row (.cons .lg (.lg (fx _ _)) (.cons .lg (.lg (fY _)) (.cons .gM .gM (.cons .own (.no rfl) .nil))))) (by simp);have hE : (bR k0 c xs).length = k0 := dq ..;have hF : eK g8 c ⟨ro, rc, no, nc, gs, bR k0 c xs, List.range k0, false, p6, 1, 0⟩ w' := by
  refine ⟨⟨?_, ?_, ?_, ?_, ak.num H.m4⟩, HG.out.1.trans hE.symm, by show eI gs (bR k0 c xs).length; rw [hE]; exact HG.out.2⟩
  · show ah w' g8 _ [.slice ro (bR k0 c xs).length rc, .slice no (bR k0 c xs).length nc, _, _, _, _];rw [hE]; exact H.m0
  · show kv _ 1 ro (bR k0 c xs).length rc (hG c gs) w';rw [hE]; exact H.m1
  · show kv _ 1 no (bR k0 c xs).length nc (iL (List.range k0)) w';rw [hE]; exact H.m2
  · show wR (bR k0 c xs).length gs _ w';rw [hE]; exact H.m3
 have hS : ∀ b, eA g8 ⟨ro, rc, no, nc, gs, bR k0 c xs, List.range k0, false, p6, 1, 0⟩ b -> w.heap.size <= b := by
  rintro b (e | e | e | ⟨t, ht, _, e⟩)
  · exact (H.own _ (List.mem_cons_self ..) rfl b e).elim (fun h => h.elim) id
  · exact (H.own _ (List.mem_cons_of_mem _ (List.mem_cons_self ..)) rfl b e).elim (fun h => h.elim) id
  · exact (H.own _ (List.mem_cons_of_mem _ (List.mem_cons_of_mem _ (List.mem_cons_self ..))) rfl b e).elim (fun h => h.elim) id
  · exact (H.own _ (List.mem_cons_of_mem _ (List.mem_cons_of_mem _ (List.mem_cons_of_mem _ (List.mem_cons_self ..)))) rfl b ⟨t, ht, by rw [show t = t from rfl]; have := hE; have h : t < (bR k0 c xs).length := ht; omega, e⟩).elim (fun h => h.elim) id
 exact ⟨_, cX, (g8, ⟨ro, rc, no, nc, gs, bR k0 c xs, List.range k0, false, p6, 1, 0⟩), rfl, ⟨H.below, fun e he => by rcases List.mem_singleton.1 he with rfl; exact ⟨hF, hS⟩, List.pairwise_singleton ..⟩, rfl, rfl, rfl, rfl, by simp⟩
section
variable {ops : Array Oper} {Q : Exit -> Act -> World -> Prop} {ds : List Deferred} {S0 : Nat -> Prop} {w0 : World} {E0 : List En} {n j s : Nat} {l : List Nat} {G E : List En} {ls : List (Nat × Value)} {ty : TypeId} {pos : String} {af : Array Edge}
set_option maxRecDepth 100000 in
theorem slL {sx sl : Operand} (a : Option Addr) (len cap x : Nat) (v : Value) (hx : x <= len) (hv : sliced a x len cap 1 = v) (k : cW ds ⟨Try.prog, ops, Q, S0, w0, E0, []⟩ n l G E ((s, v) :: ls))
 (ho : ops[j]? = some ⟨some s, .slice 69 sx (some sl) none none, ty, pos, af, none⟩ := by rfl) (hk : (bE (.slice 69 sx (some sl) none none) && di ls (.slice 69 sx (some sl) none none) && Nat.blt s n) = true := by kernel_rfl)
 (h1 : cj ls sx = .slice a len cap := by (simp only [bN, Nat.reduceEqDiff, ↓reduceIte]) <;> rfl) (h2 : cj ls sl = .int .i64 (x : Int) := by (simp only [bN, Nat.reduceEqDiff, ↓reduceIte]) <;> rfl) : cW ds ⟨Try.prog, ops, Q, S0, w0, E0, []⟩ n (j :: l) G E ls := by
 refine dW k ho hk fun w _ => ?_;subst hv;have e := run_slice_l (P := Try.prog) w 69 a len cap Try.underlying69 .i64 (x : Int) (by omega) (by omega);have e2 := run_sliceAt_slice (P := Try.prog) w 69 (.slice a len cap) (some (.int .i64 (x : Int))) none none Try.underlying69;have e3 : (sizeOf (Try.prog.elem 69)).run Try.prog w = .ok 1 w := by go_simp <;> rfl
 rw [e3] at e;simp only [Int.toNat_natCast, Result.andThen] at e;simp [execOp, h1, h2, e2, e, Result.andThen]
end
theorem cn {α : Type} {l : List α} {i t : Nat} {x d : α} (hi : i < l.length) : (l.set i x).getD t d = if t = i then x else l.getD t d := by
 by_cases h : t = i
 · subst h; simp [hi]
 · rw [if_neg h]; simp [List.getElem?_set_ne (fun e => h e.symm)]
theorem jA {α : Type} {l : List α} {k p t : Nat} {d : α} (hk : k < l.length) (hp : p < l.length) : (nn l k p d).getD t d = l.getD (jV k p t) d := by
 unfold nn jV;rw [cn (by simpa using hk), cn hp];by_cases h1 : t = k
 · rw [if_pos h1, if_pos h1]
 · rw [if_neg h1, if_neg h1];by_cases h2 : t = p
   · rw [if_pos h2, if_pos h2]
   · rw [if_neg h2, if_neg h2]
theorem s4 {α β : Type} (f : α -> β) {l : List α} {k p : Nat} {d : α} (hk : k < l.length) (hp : p < l.length) (tl : List β) : (((l.map f ++ tl).set p (f (l.getD k d))).set k (f (l.getD p d))) = (nn l k p d).map f ++ tl := by
 rw [List.set_append_left _ _ (by simpa using hp), List.set_append_left _ _ (by simpa using hk)];congr 1;unfold nn;rw [List.map_set, List.map_set]
theorem fH {α : Type} {l : List α} {t : Nat} {d : α} (h : t < l.length) : l.set t (l.getD t d) = l := by
 rw [show l.getD t d = l[t] by simp [h]]; exact List.set_getElem_self h
def bw (E : List (List Int)) (i j : Nat) : Int := gi (E.getD i []) j
structure mu (n m mw : Nat) (A : Mx) (c k : Nat) (nu cs : Nat -> Nat) (z : ij) : Prop where
 El : z.E.length = n
 rl : ∀ t < n, (z.E.getD t []).length = m
 nl : z.nu.length = n
 tk : z.tk = k
 br : gA n m A c k nu cs (bw z.E) z.ls
 Ab : ∀ i j, (A i j).natAbs <= W ^ mw
 eb : ∀ t < n, ∀ j, ag (bw z.E t j).natAbs <= 64 * (mw + 1)
 lb : ag z.ls.natAbs <= 64 * (mw + 1)
def uf (n m mw : Nat) (A : Mx) (c k : Nat) (nu cs : Nat -> Nat) (z : ij) (b : Bool) (z' : ij) : Prop :=
 (b = false /\ z' = z /\ mu n m mw A (c + 1) k nu cs z' /\ ∀ i, k <= i -> i < n -> bw z.E i c = 0) ∨
 (b = true /\ k < n /\ ∃ nu', mu n m mw A (c + 1) (k + 1) nu' (kt cs k c) z' /\ ((z'.tn = z.tn /\ nu' = nu) ∨ (z'.tn = !z.tn /\ ∃ p, k < p /\ p < n /\ nu' = fun i => nu (jV k p i))))
theorem mu.skip {n m mw c k : Nat} {A : Mx} {nu cs : Nat -> Nat} {z : ij} (h : mu n m mw A c k nu cs z) (hc : c < m) (h0 : ∀ i, k <= i -> i < n -> bw z.E i c = 0) : mu n m mw A (c + 1) k nu cs z :=
 ⟨h.El, h.rl, h.nl, h.tk, h.br.skip hc h0, h.Ab, h.eb, h.lb⟩
theorem Fr.fldS {gF m : Nat} {z : ij} {w : World} (h : eK gF m z w) : Fr (eA gF z) w w [.oh gF m z] :=
 ⟨bZ.refl _ _, fun e he => by rcases List.mem_singleton.1 he with rfl; exact h, List.pairwise_singleton .., fun e he _ b hb => by rcases List.mem_singleton.1 he with rfl; exact .inl hb⟩
theorem zs0 {x : Int} (h : x = 0) : bb x = 0 := by subst h; rfl
theorem zs1 {x : Int} (h : x ≠ 0) : ¬ bb x = 0 := fun e => h (by unfold bb at e; (repeat' split at e) <;> omega)
set_option maxRecDepth 100000 in
set_option maxHeartbeats 1000000 in
theorem vY (gF m c k mw : Nat) (z : ij) (A : Mx) (nu cs : Nat -> Nat) (w : World) (hc : c < m) (hI : mu 0 m mw A c k nu cs z) (h : eK gF m z w) :
 Calls Try.prog 74 #[.pointer (some ⟨gF, 0, none⟩), .int .i64 (c : Int)] w fun e w' => ∃ (b : Bool) (z' : ij), e = .returned (.bool b) /\ bZ (eA gF z) w w' /\ eK gF m z' w' /\ (∀ g, eA gF z' g -> eA gF z g ∨ w.heap.size <= g) /\ uf 0 m mw A c k nu cs z b z' := by
 have HR : Hid (uf 0 m mw A c k nu cs z false z) := Lib.hid (.inl ⟨rfl, rfl, hI.skip hc fun i _ h => absurd h (Nat.not_lt_zero _), fun i _ h => absurd h (Nat.not_lt_zero _)⟩);have hk : k = 0 := by have := hI.br.kn; omega
 have El := hI.El;have tk := hI.tk;have HF := Lib.hid h;obtain ⟨ro, rc, no, nc, gs, E, nul, tn, lp, ls, tk'⟩ := z
 replace El : E.length = 0 := El
 replace tk : tk' = k := tk
 subst hk tk;have hcl : ∀ i v, (vh ⟨ro, rc, no, nc, gs, E, nul, tn, lp, ls, 0⟩)[i]? = some v -> w.cell? ⟨gF, i, none⟩ = some v := fun i v hv => by rw [h.1.1.cell]; exact hv
 have c0 : w.cell? ⟨gF, 0, none⟩ = some (.slice ro 0 rc) := hcl 0 _ (by show some (Value.slice ro E.length rc) = _; rw [El]);have c5 : w.cell? ⟨gF, 5, none⟩ = some (.int .i64 0) := hcl 5 _ rfl;clear hI h hcl;have HA : Fr (fun _ => False) w w [.cell ⟨gF, 0, none⟩ (.slice ro 0 rc), .cell ⟨gF, 5, none⟩ (.int .i64 0)] := Fr.cl (Fr.cl (Fr.nil _ w) c5 (by simp [En.wr])) c0 (by simp [En.wr]);have fin : ∀ w', Below w.heap.size w w' -> ∃ (z' : ij), bZ (eA gF ⟨ro, rc, no, nc, gs, E, nul, tn, lp, ls, 0⟩) w w' /\ eK gF m z' w' /\ (∀ g, eA gF z' g -> eA gF ⟨ro, rc, no, nc, gs, E, nul, tn, lp, ls, 0⟩ g ∨ w.heap.size <= g) /\ uf 0 m mw A c 0 nu cs ⟨ro, rc, no, nc, gs, E, nul, tn, lp, ls, 0⟩ false z' := fun w' hb =>
  ⟨_, bZ.cP hb, En.iG (e := .oh gF m ⟨ro, rc, no, nc, gs, E, nul, tn, lp, ls, 0⟩) HF.out (bZ.cP (S := fun _ => False) hb) (fun _ => Wl.none _) (fun _ _ h => h), fun g h => .inl h, HR.out⟩
 have HN := Lib.hid fin;clear fin c0 c5;refine aZ (S0 := fun _ => False) Try.func74 HA ?_;clear HA;refine ae ?_;refine rW [] ?_;refine dW ?_;refine eW ?_;refine ae ?_;refine rW [] ?_;refine dW ?_;refine dW ?_;refine dW ?_;refine dW ?_;refine dW ?_;refine eW ?_;refine ae ?_;refine rW [] ?_;refine dW ?_;refine dW ?_;refine eW ?_;refine ae ?_;refine bF (X := Unit) (fun _ => True) (fun _ => 0) (fun _ => [(6, .int .i64 0), (5, .int .i64 0), (1, .int .i64 (c : Int)), (0, .pointer (some ⟨gF, 0, none⟩)), (4, .bool false)]) (fun _ => [.cell ⟨gF, 0, none⟩ (.slice ro 0 rc), .cell ⟨gF, 5, none⟩ (.int .i64 0)]) () trivial fun _ _ => ?_;refine ae ?_;refine rW [] ?_;refine dW ?_;refine dW ?_;refine dW ?_;refine dW ?_;refine dW ?_;refine dW ?_;refine dB false ?_;refine dW ?_;refine uG ?_;refine uG ?_;refine uG ?_;refine uG ?_;refine uG ?_;refine uG ?_;refine uG ?_;refine uG ?_;refine uG ?_;refine uG ?_;refine uC ?_;refine uG ?_;refine dW ?_;refine eW ?_;refine ae ?_;refine bX ?_;refine ae ?_;refine rW [] ?_;refine dW ?_;refine dW ?_;refine dW ?_;refine dW ?_;refine dW ?_;refine dW ?_;refine dB true ?_;refine eW ?_;refine ae ?_;refine dO ?_;refine ae ?_;refine rW [] ?_;refine dW ?_;refine eW ?_;refine ae ?_;refine cQ fun w' H => ?_;obtain ⟨z', h1, h2, h3, h4⟩ := HN.out w' H.below;exact ⟨_, cX, false, z', rfl, h1, h2, h3, h4⟩
end Go.Proofs.Ytjjlmfmoihooiaa
