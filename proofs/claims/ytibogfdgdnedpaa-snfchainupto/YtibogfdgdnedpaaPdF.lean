/- Part 6 of 7 of the proof that the law SnfChain returns true for every input of bulk at most 1048576 and leaves its arguments as they were: here the contracts of the functions that it calls, and plain lemmas. -/
import Derived.Test.YtibogfdgdnedpaaPdE
set_option linter.all false
namespace Go.Proofs.Ytibogfdgdnedpaa
open Go.RowKit
theorem prodL_snoc : ∀ (l : List Nat) (x : Nat), prodL (l ++ [x]) = prodL l * x
 | [], x => by simp [prodL]
 | y :: l, x => by
  have := prodL_snoc l x;simp only [prodL, List.cons_append, List.foldr_cons] at this ⊢;rw [this, Nat.mul_assoc]
theorem prodL_take {l : List Nat} {i : Nat} (h : i < l.length) : prodL (l.take (i + 1)) = prodL (l.take i) * l.getD i 0 := by
 rw [List.take_add_one, List.getElem?_eq_getElem h];simp only [Option.toList_some];rw [prodL_snoc]; simp [h]
theorem prodL_le (B : Nat) : ∀ l : List Nat, (∀ x ∈ l, x < W ^ B) -> prodL l <= W ^ (B * l.length)
 | [], _ => by simp [prodL]
 | x :: l, h => by
  have h1 := prodL_le B l fun y hy => h y (List.mem_cons_of_mem _ hy);have h2 := h x (List.mem_cons_self ..);rw [List.length_cons, Nat.mul_succ, Nat.pow_add, Nat.mul_comm (W ^ (B * l.length))];exact Nat.mul_le_mul (by omega) h1
theorem prodL_wlen {B n i : Nat} {l : List Nat} (h : ∀ x ∈ l, x < W ^ B) (hi : i <= n) : wlen (prodL (l.take i)) <= B * n + 1 := by
 have h1 := prodL_le B (l.take i) fun x hx => h x (List.mem_of_mem_take hx);have h2 : B * (l.take i).length <= B * n := Nat.mul_le_mul_left _ (by rw [List.length_take]; omega);exact wlen_le_of_lt (Nat.lt_of_le_of_lt h1 (Nat.pow_lt_pow_right (by decide : 1 < W) (by omega)))
theorem prodNZ_wlen {B n : Nat} {l : List Nat} (h : ∀ x ∈ l, x < W ^ B) (hn : l.length <= n) : wlen (prodNZ l) <= B * n + 1 := by
 have h1 := prodNZ_lt B l h;have h2 : B * l.length <= B * n := Nat.mul_le_mul_left _ hn;exact wlen_le_of_lt (Nat.lt_of_le_of_lt h1 (Nat.pow_lt_pow_right (by decide : 1 < W) (by omega)))
theorem nt_natAbs (l : List Nat) : (nt l).map Int.natAbs = l := by
 unfold nt;rw [List.map_map];exact (List.map_congr_left fun x _ => Int.natAbs_natCast x).trans (List.map_id _)
theorem Chn.get : ∀ {l : List Nat} {i : Nat}, Chn l -> i + 1 < l.length -> l.getD i 0 ∣ l.getD (i + 1) 0
 | a :: b :: l, 0, h, _ => h.1
 | a :: b :: l, i + 1, h, hi => by
  have := Chn.get (l := b :: l) (i := i) h.2 (by simpa using hi);simpa using this
theorem head_getD {l : List Nat} {x : Nat} (h : l.head? = some x) : l.getD 0 0 = x := by
 cases l with
 | nil => cases h
 | cons a l => cases h; rfl
theorem gi_rev {xs : List Int} {n i : Nat} (hn : xs.length = n) (h : i < n) : gi xs.reverse i = gi xs (n - 1 - i) := by
 rw [gi_eq (by simpa [hn] using h), gi_eq (by omega), List.getElem_reverse];simp [hn]
theorem lt_ofLs {w : World} {ao : Option Addr} {xs : List Int} {B : Nat} (h : LsAt w B ao xs) : ∀ x ∈ xs, x.natAbs < W ^ B := fun x hx => by
 obtain ⟨i, hi, rfl⟩ := List.getElem_of_mem hx;obtain ⟨b, o, _, _, hc⟩ := h (by omega);obtain ⟨q, _, _, hI⟩ := hc i hi;exact Nat.lt_of_lt_of_le (lt_pow_wlen _) (Nat.pow_le_pow_right (by decide) hI.wlen)
theorem ia_snoc {w : World} {L i : Nat} {ps : List P4} {q : P4} {ys : List Int} (hl : ps.length = i) (h : ∀ k, k < i -> IntAt w L (av (gp ps k)) (gi ys k)) (hx : IntAt w L (av q) (gi ys i)) : ∀ k, k < i + 1 -> IntAt w L (av (gp (ps ++ [q]) k)) (gi ys k) := fun k hk => by
 by_cases e : k = i
 · subst e;have : gp (ps ++ [q]) k = q := by subst hl; simp [gp]
   rw [this]; exact hx
 · have hk2 : k < ps.length := by omega
   have := h k (by omega);rw [gp_eq (by simp; omega), List.getElem_append_left hk2, <- gp_eq hk2]; exact this
structure ScX where
 i : Nat
 pv : Nat
 qv : Nat
 pp : P4
 qp : P4
 ao : Option Addr
 cap : Nat
 ps : List P4
structure ScI (R ns : List Nat) (n : Nat) (z : ScX) : Prop where
 hi : z.i <= n
 hp : z.pv = prodL (R.take z.i)
 hq : z.qv = prodL (ns.take z.i)
 hl : z.ps.length = z.i
theorem zeroPw (M : Nat) : 0 < W ^ M := Nat.pow_pos (by decide)
theorem ltPw {a L M : Nat} (h : a < W ^ L) (hL : L <= M) : a < W ^ M := Nat.lt_of_lt_of_le h (Nat.pow_le_pow_right (by decide) hL)
set_option maxRecDepth 100000 in
set_option maxHeartbeats 8000000 in
theorem LChain_c (la : Option Addr) (cap L : Nat) (xs : List Int) (w : World) (hA : LsAt w L la xs) (hL : L <= 1048576) (hn : xs.length <= 1048576) (hs : (xs.map fun z => wlen z.natAbs).sum <= 1048576) :
 Calls Try.prog 3 #[.slice la xs.length cap] w fun e w' => e = .returned (.bool true) /\ Below w.heap.size w w' := by
 have hxb := lt_ofLs hA;obtain ⟨ns, hns⟩ : ∃ ns, xs.map Int.natAbs = ns := ⟨_, rfl⟩;have hnb : ∀ x ∈ ns, x < W ^ 1048576 := fun x hx => by
  rw [<- hns] at hx;obtain ⟨y, hy, rfl⟩ := List.mem_map.1 hx;exact ltPw (M := 1048576) (hxb y hy) hL
 have hPs : wlen (prodNZ ns) <= 1048577 := by
  rw [<- hns];exact Nat.le_trans (wlen_le_of_lt (Nat.lt_of_le_of_lt (prodNZ_sum xs) (Nat.pow_lt_pow_right (by decide : 1 < W) (Nat.lt_succ_self _)))) (by omega)
 obtain ⟨R, hR⟩ : ∃ R, chProg ns = R := ⟨_, rfl⟩;have hRb : ∀ y ∈ R, wlen y <= 1048577 := fun y hy => by
  rw [<- hR] at hy;exact Nat.le_trans (wlen_mono ((chProg_dv (fun z hz => Dv.of_mem hz) y hy).le (prodNZ_pos _))) hPs
 have hRb2 : ∀ y ∈ R, y < W ^ 1048577 := fun y hy => ltPw (M := 1048577) (lt_pow_wlen y) (hRb y hy);obtain ⟨n, hnn⟩ : ∃ n, xs.length = n := ⟨_, rfl⟩;have hnsl : ns.length = n := by rw [<- hns, <- hnn]; simp
 have hRl : R.length = n := by rw [<- hR, chProg_ref, chRef_length, hnsl]
 rw [hnn] at hn;have hRchn : Chn R := hR ▸ chProg_chn ns;have hRR : chProg R = R := chProg_of_chn hRchn;have hrev : chProg (xs.reverse.map Int.natAbs) = R := by
  rw [<- hR, <- hns]; exact chProg_perm ((List.reverse_perm xs).map _)
 have hprod : prodL R = prodL ns := by rw [<- hR]; exact chProg_prod ns
 have hhead : 0 < n -> R.getD 0 0 = ns.foldl Nat.gcd 0 := fun h => by
  cases ns with
  | nil => simp at hnsl; omega
  | cons x l => rw [<- hR]; exact head_getD (chProg_head x l)
 have hntl : (nt R).length = n := by rw [nt_length, hRl]
 have hntb : ∀ x ∈ nt R, wlen x.natAbs <= 17592186044415 := fun x hx => by
  unfold nt at hx;obtain ⟨y, hy, rfl⟩ := List.mem_map.1 hx;exact Nat.le_trans (hRb y hy) (by omega)
 have c1 : ∀ w', LsAt w' L la xs -> Calls Try.prog 5 #[.slice la n cap] w' fun e w'' => (∃ q : Nat, e = .returned (.slice (some ⟨q, 0, none⟩) n n) /\ LsN w'' (some ⟨q, 0, none⟩) (nt R) /\ True /\ ∀ b o, some (⟨q, 0, none⟩ : Addr) = some ⟨b, o, none⟩ -> w'.heap.size <= b) /\ Below w'.heap.size w' w'' := fun w' h => by
  have := SChain_c la cap L xs w' h (by omega) (by omega) (by rw [hns]; omega);rw [hns, hR, hnn] at this;exact this.mono fun e w'' ⟨⟨q, he, hq, hr⟩, hb⟩ => ⟨⟨q, he, hr.lsN, trivial, fun b o e => by cases e; exact hq⟩, hb⟩
 have c2 : ∀ w' q, LsN w' (some ⟨q, 0, none⟩) (nt R) -> Calls Try.prog 5 #[.slice (some ⟨q, 0, none⟩) n n] w' fun e w'' => (∃ q : Nat, e = .returned (.slice (some ⟨q, 0, none⟩) n n) /\ LsN w'' (some ⟨q, 0, none⟩) (nt R) /\ True /\ ∀ b o, some (⟨q, 0, none⟩ : Addr) = some ⟨b, o, none⟩ -> w'.heap.size <= b) /\ Below w'.heap.size w' w'' := fun w' q h => by
  have := SChain_c (some ⟨q, 0, none⟩) n 17592186044415 (nt R) w' (h.lsAt hntb) (Nat.le_refl _) (by omega) (by rw [nt_natAbs]; exact Nat.le_trans (prodNZ_wlen hRb2 (Nat.le_trans (Nat.le_of_eq hRl) hn)) (by omega));rw [nt_natAbs, hRR, hntl] at this;exact this.mono fun e w'' ⟨⟨q, he, hq, hr⟩, hb⟩ => ⟨⟨q, he, hr.lsN, trivial, fun b o e => by cases e; exact hq⟩, hb⟩
 have c3 : ∀ w' ao k, LsAt w' L ao xs.reverse -> Calls Try.prog 5 #[.slice ao n k] w' fun e w'' => (∃ q : Nat, e = .returned (.slice (some ⟨q, 0, none⟩) n n) /\ LsN w'' (some ⟨q, 0, none⟩) (nt R) /\ True /\ ∀ b o, some (⟨q, 0, none⟩ : Addr) = some ⟨b, o, none⟩ -> w'.heap.size <= b) /\ Below w'.heap.size w' w'' := fun w' ao k h => by
  have hlr : xs.reverse.length = n := by rw [List.length_reverse, hnn]
  have := SChain_c ao k L xs.reverse w' h (by omega) (by omega) (by
   refine Nat.le_trans (prodNZ_wlen (B := 1048576) (n := 1048576) (fun x hx => ?_) (by rw [List.length_map, hlr]; exact hn)) (by omega);obtain ⟨y, hy, rfl⟩ := List.mem_map.1 hx;exact ltPw (M := 1048576) (hxb y (List.mem_reverse.1 hy)) hL)
  rw [hrev, hlr] at this;exact this.mono fun e w'' ⟨⟨q, he, hq, hr⟩, hb⟩ => ⟨⟨q, he, hr.lsN, trivial, fun b o e => by cases e; exact hq⟩, hb⟩
 have c4 : ∀ w' ao bo ca cb, LsN w' ao (nt R) -> LsN w' bo (nt R) -> Calls Try.prog 13 #[.slice ao n ca, .slice bo n cb] w' fun e w'' => e = .returned (.bool true) /\ Below w'.heap.size w' w'' := fun w' ao bo ca cb h1 h2 => by
  have := KLikeRow_c ao bo ca cb (nt R) (nt R) w' h1 h2 (by omega) (by omega) hntb hntb;rw [decide_eq_true rfl, hntl] at this; exact this
 have c5 : ∀ w', LsAt w' L la xs -> Calls Try.prog 14 #[.slice la n cap] w' fun e w'' => (∃ v', e = .returned v' /\ OwnI w'' w'.heap.size v' ((ns.foldl Nat.gcd 0 : Nat) : Int)) /\ Below w'.heap.size w' w'' := fun w' h => by
  have := BGcdAll_c la cap L xs w' h (by omega) (by omega);rw [hns, hnn] at this; exact this
 have c6 : n <= 64 -> ∀ w', LsAt w' L la xs -> Calls Try.prog 15 #[.int .i64 (n : Int), .int .i64 (n : Int), .slice la n cap] w' fun e w'' => (∃ p : Option Addr × Nat, e = .returned (.tuple #[.agg #[.int .i64 (n : Int), .int .i64 (n : Int), .slice p.1 (n * n) p.2], .int .i64 0]) /\ LsN w'' p.1 (tabK n (diagF xs) (n * n)) /\ True /\ ∀ b o, p.1 = some ⟨b, o, none⟩ -> w'.heap.size <= b) /\ Below w'.heap.size w' w'' := fun h64 w' h => by
  have := MDiag_c n n la cap L xs w' h64 h64 (by omega) h (by omega);rw [hnn] at this; exact this
 have c7 : n <= 64 -> ∀ w' ao k, LsN w' ao (tabK n (diagF xs) (n * n)) -> Calls Try.prog 16 #[.agg #[.int .i64 (n : Int), .int .i64 (n : Int), .slice ao (n * n) k]] w' fun e w'' => (∃ q : Nat, e = .returned (.tuple #[.slice (some ⟨q, 0, none⟩) n n, .int .i64 0]) /\ LsN w'' (some ⟨q, 0, none⟩) (nt R) /\ True /\ ∀ b o, some (⟨q, 0, none⟩ : Addr) = some ⟨b, o, none⟩ -> w'.heap.size <= b) /\ Below w'.heap.size w' w'' := fun h64 w' ao k h => by
  have hb : ∀ x ∈ tabK n (diagF xs) (n * n), x.natAbs < W ^ 1048576 := fun x hx => by
   unfold tabK at hx;obtain ⟨q, hq, rfl⟩ := List.mem_map.1 hx;unfold diagF;split
   · rename_i h; exact ltPw (M := 1048576) (hxb _ (gi_mem h.2)) hL
   · exact zeroPw 1048576
  have := SFactors_c n n 1048576 ao k R (tabK n (diagF xs) (n * n)) w' h64 h64 (lsN_at h hb (by omega)) hb (Nat.le_refl _) (tabK_length ..) (by have := oneTurn_diag hnn; rw [hns, hR] at this; exact this) (fun y hy => Nat.le_trans (hRb y hy) (by omega));rw [Nat.min_self] at this; exact this
 have HC := Lib.hid (And.intro c1 (And.intro c2 (And.intro c3 (And.intro c4 (And.intro c5 (And.intro c6 c7))))));have HP : Hid (prodL R = prodL ns /\ R.length = n /\ ns.length = n /\ xs.length = n /\ (nt R).length = n /\ Chn R /\ (0 < n -> R.getD 0 0 = ns.foldl Nat.gcd 0)) := Lib.hid ⟨hprod, hRl, hnsl, hnn, hntl, hRchn, hhead⟩;have HB : Hid ((∀ y ∈ R, y < W ^ 1048577) /\ (∀ y ∈ ns, y < W ^ 1048576) /\ (∀ i, i < n -> ns.getD i 0 = (gi xs i).natAbs) /\ ∀ x ∈ xs, x.natAbs < W ^ L) := Lib.hid ⟨hRb2, hnb, fun i hi => by rw [<- hns]; simp [gi_eq (show i < xs.length by omega), show i < xs.length by omega], hxb⟩;rw [hnn];clear c1 c2 c3 c4 c5 c6 c7 hprod hRl hnsl hnn hntl hRchn hhead hRb2 hRb hnb hxb hns hPs hR hRR hrev hntb hs;refine funW (S0 := fun _ => False) Try.func3 ((Fr.nil _ w).l hA (by simp)) ?_;refine goW ?_;refine rW [] ?_;refine dW ?_;refine eW ?_;refine goW ?_;refine rW [] ?_;refine cV (fun w' H => LAwake_c w') ?_;refine dW ?_;refine eW ?_;refine goW ?_;refine cfW ?_;refine goW ?_;refine rW [] ?_;refine dW ?_;refine cLn (α := Nat) (mk := fun q => .slice (some ⟨q, 0, none⟩) n n) (ao := fun q => some ⟨q, 0, none⟩) (xs := fun _ => nt R) (A := fun _ => True) (fun w' H => HC.out.1 w' H.m0) fun cb => ?_;refine dW ?_;refine eW ?_;refine goW ?_;refine rW [] ?_;refine dW ?_;refine dW ?_;refine dW ?_;refine dW ?_;refine dB false ?_;refine eW ?_;refine goW ?_;refine cfW ?_;refine goW ?_;refine rW [] ?_;refine cN (x := ((1 : Nat) : Int)) (fun w' H => IOf_c 1 w' (by omega) (by omega)) fun pp => ?_;refine aW fun g4 => ?_;refine sG ?_;refine eW ?_;refine goW ?_;refine rW [] ?_;refine cN (x := ((1 : Nat) : Int)) (fun w' H => IOf_c 1 w' (by omega) (by omega)) fun qp => ?_;refine aW fun g5 => ?_;refine sG ?_;refine eW ?_;refine goW ?_;refine rW [] ?_;refine dW ?_;refine eW ?_;refine goW ?_;refine rW [] ?_;refine dW ?_;refine eW ?_;refine addW (e := .ia L 0 [] xs.reverse) (fun _ _ i h => absurd h (Nat.not_lt_zero i)) ?_;refine lst0W ?_;refine goW ?_;refine loopW (X := ScX) (ScI R ns n) (fun z => n - z.i) (fun z => [(7, .int .i64 (z.i : Int)), (3, .slice (some ⟨cb, 0, none⟩) n n), (0, .slice la n cap), (4, .pointer (some ⟨g4, 0, none⟩)), (5, .pointer (some ⟨g5, 0, none⟩)), (6, .slice z.ao z.i z.cap)])
  (fun z => [.row g4 27 [.bool z.pp.1, .slice z.pp.2.1 z.pp.2.2.1 z.pp.2.2.2], .row g5 27 [.bool z.qp.1, .slice z.qp.2.1 z.qp.2.2.1 z.qp.2.2.2], .lst z.ao z.i z.cap z.ps, .own w.heap.size (av z.pp) ((z.pv : Nat) : Int), .own w.heap.size (av z.qp) ((z.qv : Nat) : Int), .ia L z.i z.ps xs.reverse, .lsn (some ⟨cb, 0, none⟩) (nt R), .ls L la xs])
  ⟨0, 1, 1, pp, qp, none, 0, []⟩ ⟨Nat.zero_le _, rfl, rfl, rfl⟩ fun z hz => ?_
 clear pp qp;obtain ⟨i, pv, qv, pp, qp, ao, kc, ps⟩ := z;obtain ⟨hi, hpv, hqv, hpl⟩ := hz
 replace hi : i <= n := hi
 replace hpv : pv = prodL (R.take i) := hpv
 replace hqv : qv = prodL (ns.take i) := hqv
 replace hpl : ps.length = i := hpl
 by_cases h : i < n
 · have hpw : wlen pv <= 1099512676353 := by rw [hpv]; exact Nat.le_trans (prodL_wlen HB.out.1 (Nat.le_trans hi hn)) (by omega)
   have hqw : wlen qv <= 1099511627777 := by rw [hqv]; exact Nat.le_trans (prodL_wlen HB.out.2.1 (Nat.le_trans hi hn)) (by omega)
   obtain ⟨y, hy⟩ : ∃ y, R.getD i 0 = y := ⟨_, rfl⟩;have hyR : y ∈ R := by rw [<- hy, List.getD_eq_getElem?_getD, List.getElem?_eq_getElem (by rw [HP.out.2.1]; exact h)]; exact List.getElem_mem _
   have hyw : wlen y <= 1048577 := wlen_le_of_lt (HB.out.1 y hyR);obtain ⟨x, hx⟩ : ∃ x, gi xs i = x := ⟨_, rfl⟩;have hxw : wlen x.natAbs <= L := wlen_le_of_lt (HB.out.2.2.2 x (by rw [<- hx]; exact gi_mem (by rw [HP.out.2.2.2.1]; exact h)));have hgy : gi (nt R) i = (y : Int) := by rw [gi_nt, hy]
   obtain ⟨J, hJ⟩ : ∃ J, i - 1 = J := ⟨_, rfl⟩;have hJn : J < n := by omega
   obtain ⟨z, hz⟩ : ∃ z, R.getD J 0 = z := ⟨_, rfl⟩;have hgz : gi (nt R) J = (z : Int) := by rw [gi_nt, hz]
   have hzw : wlen z <= 1048577 := wlen_le_of_lt (HB.out.1 z (by rw [<- hz, List.getD_eq_getElem?_getD, List.getElem?_eq_getElem (by rw [HP.out.2.1]; exact hJn)]; exact List.getElem_mem _));have hdv : 0 < i -> (z : Int) ∣ (y : Int) := fun h0 => by
    have := HP.out.2.2.2.2.2.1.get (i := J) (by rw [HP.out.2.1]; omega);rw [hz, show J + 1 = i by omega, hy] at this;exact Int.natCast_dvd_natCast.2 this
   obtain ⟨K, hK⟩ : ∃ K, n - 1 - i = K := ⟨_, rfl⟩;have hKn : K < n := by omega
   have hrev : gi xs.reverse i = gi xs K := by rw [<- hK]; exact gi_rev HP.out.2.2.2.1 h
   have hpn : pv * y = prodL (R.take (i + 1)) := by rw [prodL_take (by rw [HP.out.2.1]; exact h), <- hpv, hy]
   have hqn : qv * x.natAbs = prodL (ns.take (i + 1)) := by rw [prodL_take (by rw [HP.out.2.2.1]; exact h), <- hqv, HB.out.2.2.1 i h, hx]
   have HZ : Hid (pv * y = prodL (R.take (i + 1)) /\ qv * x.natAbs = prodL (ns.take (i + 1)) /\ gi xs.reverse i = gi xs K /\ gi (nt R) i = (y : Int) /\ gi (nt R) J = (z : Int) /\ gi xs i = x /\ ps.length = i) := Lib.hid ⟨hpn, hqn, hrev, hgy, hgz, hx, hpl⟩;have hsy : ¬ zsign (y : Int) < 0 := fun q => by have := zsign_neg q; omega
   have h01 : (i : Int) < (n : Int) := by omega
   obtain ⟨bx, ox, rfl⟩ := hA.pos (i := i) (by rw [HP.out.2.2.2.1]; exact h);clear hpv hqv hpl hpn hqn hrev hgy hgz hx hy hz hyR;refine goW ?_;refine rW [] ?_;refine dW ?_;refine dW ?_;refine dW ?_;refine dB true ?_;refine eW ?_;refine goW ?_;refine ctW ?_;refine numW (L := L) (xs := xs) (b := bx) (o := ox) K (by simp) (by rw [HP.out.2.2.2.1]; exact hKn) fun pK => ?_;refine numW (L := L) (xs := xs) (b := bx) (o := ox) i (by simp) (by rw [HP.out.2.2.2.1]; exact h) fun px => ?_;refine numN0W (xs := nt R) (b := cb) J (by simp) (by rw [HP.out.2.2.2.2.1]; exact hJn) fun pz => ?_;refine numN0W (xs := nt R) (b := cb) i (by simp) (by rw [HP.out.2.2.2.2.1]; exact h) fun py => ?_;rw [HZ.out.2.2.2.1, HZ.out.2.2.2.2.1, HZ.out.2.2.2.2.2.1];refine goW ?_;refine rW [] ?_;refine dW ?_;refine dW ?_;refine dW ?_;refine dW ?_;refine cV (fun w' H => ISign_c (av py) (y : Int) w' ((H.all (.num (av py) (y : Int)) (by simp) : NumAt ..).int (by simp; omega))) ?_;refine dB false ?_;refine dW ?_;refine dG ?_;refine dG ?_;refine dG ?_;refine dG ?_;refine cVg (v := .bool true) (fun w' H => KLeast_c (av py) (y : Int) w' (H.all (.num (av py) (y : Int)) (by simp)) (by simp; omega)) ?_;refine dG ?_;refine dW ?_;refine dW ?_;refine dG ?_;rcases Nat.eq_zero_or_pos i with h0 | h0
   case' inl =>
    have h00 : ¬ 0 < i := by omega
    clear h0 hdv;refine dGB false ?_;refine dG ?_;refine uG ?_;refine uG ?_;refine uG ?_;refine uG ?_;refine uG ?_;refine uG ?_;refine uG ?_;refine uG ?_;refine uG ?_;refine uC ?_;refine uG ?_;refine dG ?_;refine dW ?_
   case' inr =>
    replace hdv := hdv h0
    refine dGB true ?_;refine dG ?_;refine dG ?_;refine dG ?_;refine dGE ((sub1I (a := i) h0 (by omega)).trans (by rw [hJ])) ?_;refine dG ?_;refine dG ?_;refine dG ?_;refine dG ?_;refine dG ?_;refine dG ?_;refine cVg (v := .bool true) (fun w' H => LDiv_c (av pz) (av py) (z : Int) (y : Int) w' ((H.all (.num (av pz) (z : Int)) (by simp) : NumAt ..).int (by simp; omega)) ((H.all (.num (av py) (y : Int)) (by simp) : NumAt ..).int (by simp; omega)) hdv) ?_;refine dG ?_;refine dG ?_;refine dW ?_
   all_goals
    refine eW ?_;refine goW ?_;refine cfW ?_;refine goW ?_;refine rW [] ?_;refine dW ?_;refine dW ?_;refine dW ?_;refine dW ?_;refine dW ?_;refine cN (x := ((pv * y : Nat) : Int)) (fun w' H => IMul_c (av pp) (av py) (pv : Int) (y : Int) 1099512676353 1048577 w' (OwnI.int (H.all (.own w.heap.size (av pp) ((pv : Nat) : Int)) (by simp)) hpw) ((H.all (.num (av py) (y : Int)) (by simp) : NumAt ..).int hyw) (by omega)) fun pp' => ?_;refine sW ?_;refine eW ?_;refine goW ?_;refine rW [] ?_;refine dW ?_;refine dW ?_;refine dW ?_;refine dW ?_;refine dW ?_;refine cN (x := ((x.natAbs : Nat) : Int)) (fun w' H => IAbs_c (av px) x w' ((H.all (.at L (av px) x) (by simp) : IntAt ..).mono (by omega))) fun pa => ?_;refine cN (x := ((qv * x.natAbs : Nat) : Int)) (fun w' H => IMul_c (av qp) (av pa) (qv : Int) (x.natAbs : Int) 1099511627777 1048577 w' (OwnI.int (H.all (.own w.heap.size (av qp) ((qv : Nat) : Int)) (by simp)) hqw) (OwnI.int (H.all (.own w.heap.size (av pa) ((x.natAbs : Nat) : Int)) (by simp)) (by simp; omega)) (by omega)) fun qp' => ?_;refine sW ?_;refine eW ?_;refine goW ?_;refine rW [] ?_;refine dW ?_;refine dW ?_;refine dW ?_;refine dW ?_;refine dE (sub1I (a := n) (by omega) (by omega)) ?_;refine dW ?_;refine dE ((subI (a := n - 1) (b := i) (by omega) (by omega)).trans (by rw [hK])) ?_;refine dW ?_;refine dW ?_;refine bW (m := 1) fun g82 => ?_;refine moreW (e := .ia L (i + 1) (ps ++ [pK]) xs.reverse) (fun w' H => ia_snoc HZ.out.2.2.2.2.2.2 (H.all (.ia L i ps xs.reverse) (by simp)) (by rw [HZ.out.2.2.1]; exact H.all (.at L (av pK) (gi xs K)) (by simp))) ?_;refine appN (g := g82) (t := 27) (c := 1) (ao := ao) (k := i) (cap := kc) (ps := ps) pK (by omega) (by simp) fun q => ?_;refine dW ?_;refine eW ?_;refine goW ?_;refine rW [] ?_;refine dW ?_;refine dE (incB (a := i) (by omega)) ?_;refine dW ?_;refine eW ?_;refine goW ?_;exact backW (⟨i + 1, pv * y, qv * x.natAbs, pp', qp', q.1, q.2, ps ++ [pK]⟩ : ScX) ⟨⟨h, HZ.out.1, HZ.out.2.1, by simp [HZ.out.2.2.2.2.2.2]⟩, by show n - (i + 1) < n - i; omega⟩
 · obtain rfl : i = n := by omega
   have hpq : pv = qv := by rw [hpv, hqv, List.take_of_length_le (by rw [HP.out.2.1]; omega), List.take_of_length_le (by rw [HP.out.2.2.1]; omega), HP.out.1]
   have hpw : wlen pv <= 1099512676353 := by rw [hpv]; exact Nat.le_trans (prodL_wlen HB.out.1 (Nat.le_trans hi hn)) (by omega)
   subst hpq;have HPL : Hid (ps.length = i) := Lib.hid hpl;clear hpv hqv hpl;refine goW ?_;refine rW [] ?_;refine dW ?_;refine dW ?_;refine dW ?_;refine dB false ?_;refine eW ?_;refine goW ?_;refine cfW ?_;refine goW ?_;refine rW [] ?_;refine dW ?_;refine dW ?_;refine cV (v := .bool true) (fun w' H => by have := KLike_c (av pp) (av qp) (pv : Int) (pv : Int) w' (OwnI.num H.m3) (OwnI.num H.m4) (by simp; omega) (by simp; omega); rw [decide_eq_true rfl] at this; exact this) ?_;refine dW ?_;refine dW ?_;refine dG ?_;refine cLng (α := Nat) (mk := fun q => .slice (some ⟨q, 0, none⟩) i i) (ao := fun q => some ⟨q, 0, none⟩) (xs := fun _ => nt R) (A := fun _ => True) (fun w' H => HC.out.2.1 w' cb (H.all (.lsn (some ⟨cb, 0, none⟩) (nt R)) (by simp))) fun q1 => ?_;refine dG ?_;refine cVg (v := .bool true) (fun w' H => HC.out.2.2.2.1 w' (some ⟨q1, 0, none⟩) (some ⟨cb, 0, none⟩) i i H.m0 (H.all (.lsn (some ⟨cb, 0, none⟩) (nt R)) (by simp))) ?_;refine dG ?_;refine dW ?_;refine dW ?_;refine dG ?_;refine cLng (α := Nat) (mk := fun q => .slice (some ⟨q, 0, none⟩) i i) (ao := fun q => some ⟨q, 0, none⟩) (xs := fun _ => nt R) (A := fun _ => True) (fun w' H => HC.out.2.2.1 w' ao kc (lst_lsAt (H.all (.lst ao i kc ps) (by simp)) (by rw [List.length_reverse]; exact HP.out.2.2.2.1) (H.all (.ia L i ps xs.reverse) (by simp)))) fun q2 => ?_;refine dG ?_;refine cVg (v := .bool true) (fun w' H => HC.out.2.2.2.1 w' (some ⟨q2, 0, none⟩) (some ⟨cb, 0, none⟩) i i H.m0 (H.all (.lsn (some ⟨cb, 0, none⟩) (nt R)) (by simp))) ?_;refine dG ?_;refine dW ?_;refine eW ?_;refine goW ?_;refine cfW ?_;refine pickW (es' := [.lsn (some ⟨cb, 0, none⟩) (nt R), .ls L la xs]) ?_;rcases Nat.eq_zero_or_pos i with h0 | h0
   case' inl =>
    refine goW ?_;refine rW [] ?_;refine dW ?_;refine dW ?_;refine dB false ?_;refine dW ?_;refine uG ?_;refine uG ?_;refine uG ?_;refine uG ?_;refine uC ?_;refine uC ?_;refine uG ?_;refine dW ?_;refine eW ?_
   case' inr =>
    have hh := HP.out.2.2.2.2.2.2 h0;obtain ⟨y, hy⟩ : ∃ y, R.getD 0 0 = y := ⟨_, rfl⟩;have hyw : wlen y <= 17592186044415 := Nat.le_trans (wlen_le_of_lt (HB.out.1 y (by rw [<- hy, List.getD_eq_getElem?_getD, List.getElem?_eq_getElem (by rw [HP.out.2.1]; exact h0)]; exact List.getElem_mem _))) (by omega);have hgy : gi (nt R) 0 = (y : Int) := by rw [gi_nt, hy]
    rw [hy] at hh;have c5 := HC.out.2.2.2.2.1;rw [<- hh] at c5;have HC5 := Lib.hid c5;clear c5 hh hy;refine numN00W (xs := nt R) (b := cb) (by simp) (by rw [HP.out.2.2.2.2.1]; exact h0) fun py => ?_;rw [hgy];clear hgy;refine goW ?_;refine rW [] ?_;refine dW ?_;refine dW ?_;refine dB true ?_;refine dW ?_;refine dG ?_;refine dG ?_;refine dG ?_;refine dG ?_;refine cGg (mk := av) (ens := fun p => [.own w.heap.size (av p) ((y : Nat) : Int)]) (fun w' H => cNo' (HC5.out w' (H.all (.ls L la xs) (by simp))) H.size) fun pg => ?_;simp only [av];refine cVg (v := .bool true) (fun w' H => by have := KLike_c (av py) (av pg) (y : Int) (y : Int) w' (H.all (.num (av py) (y : Int)) (by simp [av])) (OwnI.num H.m0) (by simp; omega) (by simp; omega); rw [decide_eq_true rfl] at this; exact this) ?_;refine dG ?_;refine dW ?_;refine eW ?_;refine pickW (es' := [.lsn (some ⟨cb, 0, none⟩) (nt R), .ls L la xs]) ?_
   all_goals
    refine goW ?_;refine cfW ?_;refine goW ?_;refine rW [] ?_;refine dW ?_;refine dW ?_;by_cases h64 : i <= 64
    · have HC6 := Lib.hid (And.intro (HC.out.2.2.2.2.2.1 h64) (HC.out.2.2.2.2.2.2 h64));refine dB false ?_;refine eW ?_;refine goW ?_;refine cfW ?_;refine goW ?_;refine rW [] ?_;refine dW ?_;refine dW ?_;refine dW ?_;refine dW ?_;refine dW ?_;refine cLn (α := Option Addr × Nat) (mk := fun p => .tuple #[.agg #[.int .i64 (i : Int), .int .i64 (i : Int), .slice p.1 (i * i) p.2], .int .i64 0]) (ao := fun p => p.1) (xs := fun _ => tabK i (diagF xs) (i * i)) (A := fun _ => True) (fun w' H => HC6.out.1 w' (H.all (.ls L la xs) (by simp))) fun q => ?_;refine dW ?_;refine dW ?_;refine dW ?_;refine aW fun g8 => ?_;refine sG ?_;refine dW ?_;refine eW ?_;refine goW ?_;refine rW [] ?_;refine dW ?_;refine cLn (α := Nat) (mk := fun q => .tuple #[.slice (some ⟨q, 0, none⟩) i i, .int .i64 0]) (ao := fun q => some ⟨q, 0, none⟩) (xs := fun _ => nt R) (A := fun _ => True) (fun w' H => HC6.out.2 w' q.1 q.2 (H.all (.lsn q.1 (tabK i (diagF xs) (i * i))) (by simp))) fun q2 => ?_;refine dW ?_;refine dW ?_;refine dW ?_;refine dW ?_;refine dW ?_;refine eW ?_;refine goW ?_;refine rW [] ?_;refine dW ?_;refine dW ?_;refine dW ?_;refine dG ?_;refine dG ?_;refine dW ?_;refine dW ?_;refine dG ?_;refine dG ?_;refine cVg (v := .bool true) (fun w' H => HC.out.2.2.2.1 w' (some ⟨q2, 0, none⟩) (some ⟨cb, 0, none⟩) i i (H.all (.lsn (some ⟨q2, 0, none⟩) (nt R)) (by simp)) (H.all (.lsn (some ⟨cb, 0, none⟩) (nt R)) (by simp))) ?_;refine dW ?_;refine dW ?_;refine eW ?_;refine goW ?_;refine fin1 fun w' H => ?_;exact ⟨_, rvT, rfl, H.below⟩
    · refine dB true ?_;refine eW ?_;refine goW ?_;refine ctW ?_;refine goW ?_;refine rW [] ?_;refine dW ?_;refine eW ?_;refine goW ?_;refine fin1 fun w' H => ?_;exact ⟨_, rvT, rfl, H.below⟩
end Go.Proofs.Ytibogfdgdnedpaa
