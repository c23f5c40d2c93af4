/- Part 8 of 9 of the proof that the law HnfVolume returns true for every input of bulk at most 1048576 and leaves its arguments as they were: here the contracts of the functions that it calls, and plain lemmas. -/
import Derived.Test.YtdgfhcaokigieaaGreatVlG
set_option linter.all false
namespace Go.Proofs.YtdgfhcaokigieaaGreat
open Go.RowKit
theorem StI.final {n c : Nat} {xs : List Int} (hs : xs.length = n * c) : ∀ (d i : Nat) (R : List (List Int)) (p : List Nat), i + d = n -> StI n c i (matE xs n c) R p -> ∃ R' p', StI n c n (matE xs n c) R' p' /\ R'.length <= R.length + d
 | 0, i, R, p, h, hst => by
  obtain rfl : i = n := by omega
  exact ⟨R, p, hst, by omega⟩
 | d + 1, i, R, p, h, hst => by
  have hl := rowOf_length hs (show i < n by omega);have hA : ∀ j, gi (rowOf xs c i) j = matE xs n c i j := fun j => by unfold gi; exact rowOf_gd13 hs (by omega) j
  by_cases hz : fst0 (r13 R p (rowOf xs c i) R.length).l < c
  · obtain ⟨R', p', h1, h2⟩ := StI.final hs d (i + 1) _ _ (by omega) (hst.put hl hA hz);exact ⟨R', p', h1, by simp at h2; omega⟩
  · have hz2 : fst0 (r13 R p (rowOf xs c i) R.length).l = (r13 R p (rowOf xs c i) R.length).l.length := by
     have := fst0_le (r13 R p (rowOf xs c i) R.length).l;rw [r13_length, hl] at this ⊢; omega
    obtain ⟨R', p', h1, h2⟩ := StI.final hs d (i + 1) _ _ (by omega) (hst.skip hl hA hz2);exact ⟨R', p', h1, by omega⟩
theorem StI.full {n : Nat} {xs hs : List Int} {lc : Nat -> Nat} (hx : xs.length = n * n) (hH : IsHnf n n xs hs n lc) {i : Nat} {R : List (List Int)} {p : List Nat} (h : StI n n i (matE xs n n) R p) (hi : i < n) (hk : R.length = i) : fst0 (r13 R p (rowOf xs n i) R.length).l < n := by
 refine Classical.byContradiction fun hz => ?_;have hl := rowOf_length hx hi;have hA : ∀ j, gi (rowOf xs n i) j = matE xs n n i j := fun j => by unfold gi; exact rowOf_gd13 hx hi j
 have hz2 : fst0 (r13 R p (rowOf xs n i) R.length).l = (r13 R p (rowOf xs n i) R.length).l.length := by
  have := fst0_le (r13 R p (rowOf xs n i) R.length).l;rw [r13_length, hl] at this ⊢; omega
 obtain ⟨R', p', h1, h2⟩ := StI.final hx (n - (i + 1)) (i + 1) R p (by omega) (h.skip hl hA hz2);have := h1.rank hH;omega
structure DtI (n m : Nat) (xs : List Int) (i : Nat) (hs : List (Option Addr × Nat)) (R : List (List Int)) (p : List Nat) (num den : Int) (up dn : Nat -> Int) : Prop where
 rw_ : RwI n n (matE xs n n) i ⟨none, 0, none, 0, hs, R, p⟩
 Rl : R.length = i
 rel : ∀ t < i, ∃ q : Nat -> Int, ∀ j, dn t * Rts R t j = up t * matE xs n n t j + sm t fun s => q s * Rts R s j
 une : ∀ t < i, up t ≠ 0
 nu : num = prodZ i fun t => Rts R t (pts p t) * dn t
 de : den = prodZ i up
 nw : wlen num.natAbs <= i * 17000000000 + 1
 dw : wlen den.natAbs <= i * 17000000000 + 1
theorem prodZ_congr : ∀ (n : Nat) {f g : Nat -> Int}, (∀ i < n, f i = g i) -> prodZ n f = prodZ n g
 | 0, _, _, _ => rfl
 | n + 1, f, g, h => by rw [prodZ, prodZ, prodZ_congr n (fun i hi => h i (by omega)), h n (by omega)]
theorem DtI.next {n m i : Nat} {xs : List Int} {hs : List (Option Addr × Nat)} {R : List (List Int)} {p : List Nat} {num den : Int} {up dn : Nat -> Int} (h : DtI n m xs i hs R p num den up dn) (hx : xs.length = n * n) (hi : i < n) (q : Option Addr × Nat) {o : Ro} (ho : r13 R p (rowOf xs n i) R.length = o) (hf : fst0 o.l < n) (hn : n <= 64) (hm : m <= 1048576) (hw : wlen (gi o.l (fst0 o.l)).natAbs <= bw m) (hu : wlen o.up.natAbs <= 64 * bw m + 1) (hd : wlen o.dn.natAbs <= 64 * (2 * bw m + 1) + 1) :
 DtI n m xs (i + 1) (hs ++ [q]) (R ++ [o.l]) (p ++ [fst0 o.l]) (num * (gi o.l (fst0 o.l) * o.dn)) (den * o.up) (fun t => if t < i then up t else o.up) (fun t => if t < i then dn t else o.dn) := by
 have hl := rowOf_length hx hi;have hA : ∀ j, gi (rowOf xs n i) j = matE xs n n i j := fun j => by unfold gi; exact rowOf_gd13 hx hi j
 have hst := h.rw_.st;have hRl : R.length = i := h.Rl;have hpl : p.length = R.length := hst.pl;have hR : ∀ t, t < R.length -> (R.getD t []).length = (rowOf xs n i).length := fun t ht => by rw [hst.cl t ht, hl]
 obtain ⟨q0, hq0⟩ := r13_rel (p := p) (l := rowOf xs n i) hR R.length (Nat.le_refl _);have hne := r13_ne (l := rowOf xs n i) hst.stair R.length (Nat.le_refl _);rw [ho] at hq0 hne;have eR : ∀ t < i, Rts (R ++ [o.l]) t = Rts R t := fun t ht => by
  funext j; unfold Rts; rw [getD_app, if_pos (by omega)]
 have eRi : Rts (R ++ [o.l]) i = gi o.l := by
  funext j; unfold Rts; rw [getD_app, if_neg (by omega), if_pos hRl.symm]
 have ep : ∀ t < i, pts (p ++ [fst0 o.l]) t = pts p t := fun t ht => by
  unfold pts; rw [getD_app, if_pos (by omega)]
 have epi : pts (p ++ [fst0 o.l]) i = fst0 o.l := by
  unfold pts; rw [getD_app, if_neg (by omega), if_pos (by omega)]
 have hbw : bw m <= 68157505 := by unfold bw; omega
 refine ⟨?_, by simp [hRl], fun t ht => ?_, fun t ht => ?_, ?_, ?_, ?_, ?_⟩
 · have := h.rw_.put (z' := ⟨none, 0, none, 0, hs ++ [q], R ++ [o.l], p ++ [fst0 o.l]⟩) hx hi (by show fst0 (r13 R p (rowOf xs n i) R.length).l < n; rw [ho]; exact hf) (by show R ++ [o.l] = R ++ [(r13 R p (rowOf xs n i) R.length).l]; rw [ho]) (by show p ++ [fst0 o.l] = p ++ [fst0 (r13 R p (rowOf xs n i) R.length).l]; rw [ho]) (by have := h.rw_.hl; simp at this ⊢; exact this);exact this
 · by_cases e : t < i
   · obtain ⟨q1, hq1⟩ := h.rel t e;refine ⟨q1, fun j => ?_⟩;show (if t < i then dn t else o.dn) * Rts (R ++ [o.l]) t j = (if t < i then up t else o.up) * _ + _;rw [if_pos e, if_pos e, eR t e, hq1];congr 1;exact sm_congr fun s hs' => by rw [eR s (by omega)]
   · obtain rfl : t = i := by omega
     refine ⟨q0, fun j => ?_⟩;show (if t < t then dn t else o.dn) * Rts (R ++ [o.l]) t j = (if t < t then up t else o.up) * _ + _;rw [if_neg e, if_neg e, eRi, hq0, hA, hRl];congr 1;exact sm_congr fun s hs' => by rw [eR s hs']
 · show (if t < i then up t else o.up) ≠ 0;split
   · rename_i e; exact h.une t e
   · exact hne.1
 · rw [prodZ];show _ = prodZ i (fun t => Rts (R ++ [o.l]) t (pts (p ++ [fst0 o.l]) t) * (if t < i then dn t else o.dn)) * (Rts (R ++ [o.l]) i (pts (p ++ [fst0 o.l]) i) * (if i < i then dn i else o.dn));rw [prodZ_congr i (g := fun t => Rts R t (pts p t) * dn t) fun t ht => by rw [eR t ht, ep t ht, if_pos ht], <- h.nu, eRi, epi, if_neg (Nat.lt_irrefl i)]
 · rw [prodZ];show _ = prodZ i (fun t => if t < i then up t else o.up) * (if i < i then up i else o.up);rw [prodZ_congr i (g := up) fun t ht => if_pos ht, <- h.de, if_neg (Nat.lt_irrefl i)]
 · rw [Int.natAbs_mul, Int.natAbs_mul];have h1 := wlen_mul num.natAbs ((gi o.l (fst0 o.l)).natAbs * o.dn.natAbs);have h2 := wlen_mul (gi o.l (fst0 o.l)).natAbs o.dn.natAbs;have h3 := h.nw;rw [Nat.succ_mul]; omega
 · rw [Int.natAbs_mul];have h1 := wlen_mul den.natAbs o.up.natAbs;have h3 := h.dw;rw [Nat.succ_mul]; omega
theorem DtI.done {n m : Nat} {xs hs' : List Int} {lc : Nat -> Nat} {hs : List (Option Addr × Nat)} {R : List (List Int)} {p : List Nat} {num den : Int} {up dn : Nat -> Int} (h : DtI n m xs n hs R p num den up dn) : den ≠ 0 /\ num.natAbs = den.natAbs * (det n (matE xs n n)).natAbs := by
 refine ⟨by rw [h.de]; exact prodZ_ne n h.une, ?_⟩;have := det13 h.rw_.st h.Rl (fun t ht => h.rw_.pc t (by have := h.Rl; show t < R.length; omega)) h.rel;rw [h.nu, h.de, prodZ_abs, prodZ_abs];exact this
theorem quo_abs {num den D : Int} (h0 : den ≠ 0) (h : num.natAbs = den.natAbs * D.natAbs) : den ∣ num /\ (num / den).natAbs = D.natAbs := by
 have hd : den ∣ num := Int.natAbs_dvd_natAbs.1 ⟨_, h⟩;refine ⟨hd, ?_⟩;obtain ⟨c, hc⟩ := hd;rw [hc, Int.mul_ediv_cancel_left _ h0];rw [hc, Int.natAbs_mul] at h;exact Nat.eq_of_mul_eq_mul_left (Int.natAbs_pos.2 h0) h
theorem Fr.lrsS {S0 : Nat -> Prop} {w0 w : World} {es : List En} {B : Nat} {hs : List (Option Addr × Nat)} {R : List (List Int)} {q : Option Addr × Nat} {l : List Int} (h : Fr S0 w0 w (.lrs B hs R :: .ls B q.1 l :: es)) (hl : hs.length = R.length) : Fr S0 w0 w (.lrs B (hs ++ [q]) (R ++ [l]) :: es) := by
 have p1 := List.pairwise_cons.1 h.sep;have p2 := List.pairwise_cons.1 p1.2;have hlt : ∀ t, t < (R ++ [l]).length -> ¬ t < R.length -> t = R.length := fun t ht h => by simp at ht; omega
 refine h.tl.tl.cons (e := .lrs B (hs ++ [q]) (R ++ [l])) (fun t ht => ?_) (fun e he => ⟨(fun q => nomatch q), fun hw b hb ⟨t, ht, hlen, o, e'⟩ => ?_⟩) (fun q => nomatch q)
 · rw [getD_app, getD_app, hl];by_cases q1 : t < R.length
   · rw [if_pos q1, if_pos q1]; exact (h.m0 : ∀ t, t < R.length -> LsAt w B (hs.getD t (none, 0)).1 (R.getD t [])) t q1
   · rw [if_neg q1, if_neg q1, if_pos (hlt t ht q1), if_pos (hlt t ht q1)]; exact (h.m1 : LsAt w B q.1 l)
 · rw [getD_app] at hlen e';rw [hl] at e';by_cases q1 : t < R.length
   · rw [if_pos q1] at hlen e';exact (p1.1 e (List.mem_cons_of_mem _ he)).2 hw b hb ⟨t, q1, hlen, o, e'⟩
   · rw [if_neg q1, if_pos (hlt t ht q1)] at hlen e';exact (p2.1 e he).2 hw b hb ⟨hlen, o, e'⟩
structure DtX where
 i : Nat
 ra : Option Addr
 rc : Nat
 la : Option Addr
 lc : Nat
 hs : List (Option Addr × Nat)
 R : List (List Int)
 p : List Nat
 pn : P4
 pd : P4
 num : Int
 den : Int
 up : Nat -> Int
 dn : Nat -> Int
structure DtJ (n m : Nat) (xs : List Int) (x : DtX) : Prop where
 hi : x.i <= n
 in_ : DtI n m xs x.i x.hs x.R x.p x.num x.den x.up x.dn
structure D2X where
 i : Nat
 pn : P4
 num : Int
structure D2J (n N : Nat) (x : D2X) : Prop where
 hi : x.i <= n
 ab : x.num.natAbs = N
set_option maxRecDepth 100000 in
set_option maxHeartbeats 8000000 in
theorem Det13_c (n m cap : Nat) (ao : Option Addr) (xs hs0 : List Int) (lc0 : Nat -> Nat) (w : World) (hn : n <= 64) (hA : LsAt w m ao xs) (hs : xs.length = n * n) (hcap : n * n <= cap) (hm : m <= 1048576) (hH : IsHnf n n xs hs0 n lc0) :
 Calls Tryz.prog 9 #[.agg #[.int .i64 (n : Int), .int .i64 (n : Int), .slice ao (n * n) cap]] w fun e w' => (∃ v' d, e = .returned (.tuple #[v', .int .i64 0]) /\ OwnI w' w.heap.size v' d /\ d.natAbs = (det n (matE xs n n)).natAbs /\ wlen d.natAbs <= 1099511627776) /\ Below w.heap.size w w' := by
 have hxb : ∀ x ∈ xs, x.natAbs <= W ^ m := fun x hx => Nat.le_of_lt (lt_ls13 hA x hx);have hck := fun w' => M9Check_c n n ao xs.length cap w' hn hn hs;rw [hs] at hck;have hmb : m <= bw m := by unfold bw; omega
 have hbw : bw m <= 68157505 := by unfold bw; omega
 have cRow := fun w' i (h : LsAt w' m ao xs) (hi : i < n) => Row13_c n n i (bw m) cap ao xs w' hn hn (h.up hmb) hs hcap hi;have hpt : ∀ i hs R p num den up dn, i < n -> DtI n m xs i hs R p num den up dn -> PtA n n m i (matE xs n n) ⟨none, 0, none, 0, hs, R, p⟩ (rowOf xs n i) := fun i hs' R p num den up dn hi h => h.rw_.pt hs hi hn hn hxb hm;have hrl : ∀ i, i < n -> (rowOf xs n i).length = n := fun i hi => rowOf_length hs hi;have hfull : ∀ i R p, StI n n i (matE xs n n) R p -> i < n -> R.length = i -> fst0 (r13 R p (rowOf xs n i) R.length).l < n := fun i R p h hi hk => h.full hs hH hi hk;have H0 : DtI n m xs 0 [] [] [] 1 1 (fun _ => 0) (fun _ => 0) := ⟨⟨StI.start n n _, rfl, fun t h => absurd h (Nat.not_lt_zero t)⟩, rfl, fun t h => by omega, fun t h => by omega, rfl, rfl, by simp [wlenOne (show 0 < 1 by omega) (show 1 < W by unfold W; omega)], by simp [wlenOne (show 0 < 1 by omega) (show 1 < W by unfold W; omega)]⟩;have H1 := Lib.hid (And.intro hck (And.intro cRow (And.intro hpt (And.intro hrl hfull))));have HS := Lib.hid hs;obtain ⟨nm, hnm⟩ : ∃ nm, n * n = nm := ⟨_, rfl⟩;have HNM := Lib.hid hnm;rw [hnm] at H1 ⊢;clear hxb hck hmb cRow hpt hrl hfull hs hcap hnm hH;refine funW (S0 := fun _ => False) Tryz.func9 ((Fr.nil _ w).l hA (by simp)) ?_;refine goW ?_;refine rW [] ?_;refine aW fun g1 => ?_;refine aW fun g2 => ?_;refine dW ?_;refine eW ?_;refine goW ?_;refine rW [] ?_;refine dW ?_;refine cV (v := .int .i64 0) (fun w' H => H1.out.1 w') ?_;refine dB false ?_;refine eW ?_;refine goW ?_;refine cfW ?_;refine goW ?_;refine rW [] ?_;refine dW ?_;refine dW ?_;refine dW ?_;refine dW ?_;refine dB false ?_;refine eW ?_;refine goW ?_;refine cfW ?_;refine goW ?_;refine rW [] ?_;refine dW ?_;refine aW fun g27 => ?_;refine dW ?_;refine eW ?_;refine goW ?_;refine rW [] ?_;refine cN (x := ((1 : Nat) : Int)) (fun w' H => One13_c w') fun pn => ?_;refine aW fun g5 => ?_;refine sG ?_;refine eW ?_;refine goW ?_;refine rW [] ?_;refine cN (x := ((1 : Nat) : Int)) (fun w' H => One13_c w') fun pd => ?_;refine aW fun g6 => ?_;refine sG ?_;refine eW ?_;refine goW ?_;refine rW [] ?_;refine dW ?_;refine eW ?_;refine goW ?_;refine addW (e := .lrs (bw m) [] []) (fun w' _ t ht => absurd ht (Nat.not_lt_zero t)) ?_ (hS := fun b ⟨t, ht, _⟩ => absurd ht (Nat.not_lt_zero t));refine lg0W (te := 3) (sz := 1) ?_;refine lg0W (te := 22) (sz := 1) ?_;refine loopW (X := DtX) (DtJ n m xs) (fun x => n - x.i) (fun x => [(7, .int .i64 (x.i : Int)), (1, .pointer (some ⟨g1, 0, none⟩)), (2, .pointer (some ⟨g2, 0, none⟩)), (4, .pointer (some ⟨g27, 0, none⟩)), (5, .pointer (some ⟨g5, 0, none⟩)), (6, .pointer (some ⟨g6, 0, none⟩))])
  (fun x => [.row g27 56 [.slice x.ra x.i x.rc, .slice x.la x.i x.lc], .lg 22 1 x.ra x.i x.rc (rcs n x.hs), .lg 3 1 x.la x.i x.lc (x.p.map fun y : Nat => Value.int .i64 (y : Int)), .row g5 37 [.bool x.pn.1, .slice x.pn.2.1 x.pn.2.2.1 x.pn.2.2.2], .row g6 37 [.bool x.pd.1, .slice x.pd.2.1 x.pd.2.2.1 x.pd.2.2.2], .row g1 24 [.int .i64 (n : Int), .int .i64 (n : Int), .slice ao nm cap], .row g2 37 [.bool false, .slice none 0 0], .own w.heap.size (av x.pn) x.num, .own w.heap.size (av x.pd) x.den, .ls m ao xs, .lrs (bw m) x.hs x.R])
  ⟨0, none, 0, none, 0, [], [], [], pn, pd, 1, 1, fun _ => 0, fun _ => 0⟩ ⟨Nat.zero_le _, H0⟩ fun x hx => ?_
 obtain ⟨i, ra, rc, la, lc, hs, R, p, pn1, pd1, num, den, up, dn⟩ := x;obtain ⟨hi, hin⟩ := hx
 replace hi : i <= n := hi
 replace hin : DtI n m xs i hs R p num den up dn := hin
 have hnw : wlen num.natAbs <= 1088000000001 := Nat.le_trans hin.nw (by have h6 : i <= 64 := Nat.le_trans hi hn; clear hin; omega);have hdw : wlen den.natAbs <= 1088000000001 := Nat.le_trans hin.dw (by have h6 : i <= 64 := Nat.le_trans hi hn; clear hin; omega);have HV := Lib.hid hin;clear hin;by_cases h : i < n
 · have h01 : (i : Int) < (n : Int) := by omega
   have hpt := H1.out.2.2.1 i hs R p num den up dn h HV.out;obtain ⟨o, ho⟩ : ∃ o, r13 R p (rowOf xs n i) i = o := ⟨_, rfl⟩;have ho2 : r13 R p (rowOf xs n i) R.length = o := by rw [HV.out.Rl]; exact ho
   have hol : o.l.length = n := by rw [<- ho, r13_length, H1.out.2.2.2.1 i h]
   have hoj : ∀ j, wlen (gi o.l j).natAbs <= bw m := fun j => by
    have := wlen_le_of_lt (hpt.st.bound hpt.kb hpt.ll hpt.Ab hpt.lb (Nat.le_refl _) j);have e : r13 R p (rowOf xs n i) R.length = o := ho2;rw [show (⟨none, 0, none, 0, hs, R, p⟩ : Sta).R = R from rfl, show (⟨none, 0, none, 0, hs, R, p⟩ : Sta).p = p from rfl, e] at this; exact this
   have hof : fst0 o.l < n := by rw [<- ho2]; exact H1.out.2.2.2.2 i R p HV.out.rw_.st h HV.out.Rl
   have hRest : ∀ w', w'.cell? ⟨g27, 0, none⟩ = some (.slice ra i rc) -> w'.cell? ⟨g27, 1, none⟩ = some (.slice la i lc) -> RlF ra (rcs n hs) w' -> RlF la (p.map fun x : Nat => Value.int .i64 (x : Int)) w' -> (∀ t, t < R.length -> LsAt w' (bw m) (hs.getD t (none, 0)).1 (R.getD t [])) -> ∀ qa qc, LsAt w' (bw m) qa (rowOf xs n i) -> Calls Tryz.prog 23 #[.pointer (some ⟨g27, 0, none⟩), .slice qa n qc] w' fun e w'' => (∃ (q : (Option Addr × Nat) × P4 × P4), e = .returned (.tuple #[.slice q.1.1 n q.1.2, av q.2.1, av q.2.2]) /\ LsAt w'' (bw m) q.1.1 o.l /\ OwnI w'' w'.heap.size (av q.2.1) o.up /\ OwnI w'' w'.heap.size (av q.2.2) o.dn /\ (q.1.1 = qa ∨ ∀ b o, q.1.1 = some ⟨b, o, none⟩ -> w'.heap.size <= b)) /\ Below w'.heap.size w' w'' := fun w' a1 a2 a3 a4 a5 qa qc a6 => by
    have hrs := hpt.rs (w := w') a5;have e : (⟨none, 0, none, 0, hs, R, p⟩ : Sta).R.length = i := HV.out.Rl;rw [e] at hrs;have := Rest13_c g27 i n (bw m) rc lc qc ra la qa hs R p (rowOf xs n i) w' hrs a1 a2 a3 a4 a5 a6;rw [ho] at this; exact this
   have hwd : ∀ w' : World, (∀ t, t < R.length -> LsAt w' (bw m) (hs.getD t (none, 0)).1 (R.getD t [])) -> wlen o.up.natAbs <= 64 * bw m + 1 /\ wlen o.dn.natAbs <= 64 * (2 * bw m + 1) + 1 := fun w' a5 => by
    have hrs := hpt.rs (w := w') a5;have e : (⟨none, 0, none, 0, hs, R, p⟩ : Sta).R.length = i := HV.out.Rl;rw [e] at hrs;have hwd := r13_words (fun t ht => by rw [hrs.cl t ht, hrs.ll]) hrs.Rb hrs.lb i (Nat.le_refl _);rw [show r13 (⟨none, 0, none, 0, hs, R, p⟩ : Sta).R (⟨none, 0, none, 0, hs, R, p⟩ : Sta).p (rowOf xs n i) i = o from ho] at hwd;have h1 := Nat.mul_le_mul_right (bw m) (show i <= 64 by omega);have h2 := Nat.mul_le_mul_right (2 * bw m + 1) (show i <= 64 by omega);exact ⟨Nat.le_trans hwd.1 (by omega), Nat.le_trans hwd.2 (by omega)⟩
   have HO := Lib.hid (And.intro ho2 (And.intro hol (And.intro hoj (And.intro hof (And.intro hRest hwd)))));clear hpt ho ho2 hol hoj hof hRest hwd;refine goW ?_;refine rW [] ?_;refine dW ?_;refine dW ?_;refine dW ?_;refine dB true ?_;refine eW ?_;refine goW ?_;refine ctW ?_;refine goW ?_;refine rW [] ?_;refine dW ?_;refine dW ?_;refine dW ?_;refine cR (α := Option Addr × Nat) (mk := fun q => .slice q.1 n q.2) (ens := fun q => [.ls (bw m) q.1 (rowOf xs n i)]) (fun w' H => (H1.out.2.1 w' i (H.all (.ls m ao xs) (by simp)) h).mono fun e w'' ⟨⟨q, he, q1, q2⟩, hb⟩ => ⟨q, he, hb, fun e he => by
    rcases List.mem_singleton.1 he with rfl;refine ⟨q1, rfl, fun b ⟨hl, o, e⟩ => .inr ⟨.ls m ao xs, by simp, rfl, ?_⟩⟩;rw [H1.out.2.2.2.1 i h] at hl;obtain ⟨o', e'⟩ := q2 hl b o e;refine ⟨?_, o', e'⟩;have := Nat.mul_le_mul (show 1 <= n by omega) (show 1 <= n by omega);rw [HS.out]; omega⟩) fun qr => ?_
   refine cR (α := (Option Addr × Nat) × P4 × P4) (mk := fun q => .tuple #[.slice q.1.1 n q.1.2, av q.2.1, av q.2.2]) (ens := fun q => [.ls (bw m) q.1.1 o.l, .own w.heap.size (av q.2.1) o.up, .own w.heap.size (av q.2.2) o.dn, .pr (wlen o.up.natAbs <= 64 * bw m + 1 /\ wlen o.dn.natAbs <= 64 * (2 * bw m + 1) + 1)]) (fun w' H => by
    have hr : RowAt w' g27 _ [.slice ra i rc, .slice la i lc] := H.all (.row g27 56 [.slice ra i rc, .slice la i lc]) (by simp);have l1 : LgF 22 1 ra i rc (rcs n hs) w' := H.all (.lg 22 1 ra i rc (rcs n hs)) (by simp);have l2 : LgF 3 1 la i lc (p.map fun x : Nat => Value.int .i64 (x : Int)) w' := H.all (.lg 3 1 la i lc (p.map fun y : Nat => Value.int .i64 (y : Int))) (by simp);refine (HO.out.2.2.2.2.1 w' (hr.cell 0) (hr.cell 1) l1.rl l2.rl (H.all (.lrs (bw m) hs R) (by simp)) qr.1 qr.2 (H.all (.ls (bw m) qr.1 (rowOf xs n i)) (by simp))).mono fun e w'' ⟨⟨q, he, q1, q2, q3, q4⟩, hb⟩ => ⟨q, he, hb, fun e he => ?_⟩;rcases List.mem_cons.1 he with rfl | he
    · refine ⟨q1, rfl, fun b ⟨hl, o', e⟩ => ?_⟩;rcases q4 with q4 | q4
      · exact .inr ⟨.ls (bw m) qr.1 (rowOf xs n i), by simp, rfl, by rw [H1.out.2.2.2.1 i h, <- HO.out.2.1]; exact hl, o', q4 ▸ e⟩
      · exact .inl (q4 b o' e)
    · rcases List.mem_cons.1 he with rfl | he
      · exact ⟨OwnI.mono q2 H.size, rfl, fun _ h => h.elim⟩
      · rcases List.mem_cons.1 he with rfl | he
        · exact ⟨OwnI.mono q3 H.size, rfl, fun _ h => h.elim⟩
        · rcases List.mem_singleton.1 he with rfl;exact ⟨HO.out.2.2.2.2.2 w' (H.all (.lrs (bw m) hs R) (by simp)), rfl, fun _ h => h.elim⟩) fun q => ?_
   simp only [av];refine dW ?_;refine dW ?_;refine dW ?_;refine dW ?_;refine aW fun g9 => ?_;refine aW fun g10 => ?_;refine dW ?_;refine sG ?_;refine sG ?_;refine eW ?_;refine goW ?_;refine prW (A := wlen o.up.natAbs <= 64 * bw m + 1 /\ wlen o.dn.natAbs <= 64 * (2 * bw m + 1) + 1) (by simp) fun hww => ?_;have HW := Lib.hid hww;clear hww;obtain ⟨f, hf⟩ : ∃ f, fst0 o.l = f := ⟨_, rfl⟩;have hfn : f < n := by rw [<- hf]; exact HO.out.2.2.2.1
   have hfn' : ¬ (f : Int) = (n : Int) := by omega
   have HF := Lib.hid hf;clear hf;refine rW [] ?_;refine dW ?_;refine cV (v := .int .i64 (f : Int)) (fun w' H => by have := First13_c q.1.1 q.1.2 (bw m) o.l w' (H.all (.ls (bw m) q.1.1 o.l) (by simp)) (by omega) (by rw [HO.out.2.1]; omega); rw [HO.out.2.1, HF.out] at this; exact this) ?_;refine dW ?_;refine eW ?_;refine goW ?_;refine rW [] ?_;refine dW ?_;refine dW ?_;refine dW ?_;refine dB false ?_;refine eW ?_;refine goW ?_;refine cfW ?_;refine goW ?_;refine rW [] ?_;refine dW ?_;refine dW ?_;refine dW ?_;refine dW ?_;refine dW ?_;refine dW ?_;refine bW (m := 1) fun g58 => ?_;refine appG (k := i) (cap := rc) (g := g58) (c := 1) (ao := ra) (cs := rcs n hs) (v := .slice q.1.1 n q.1.2) Tryz.underlying46 info_S rfl (zc_one (.slice none 0 0) rfl (fun n h => nomatch h)) (by omega) (by omega) rfl ⟨rcs_now n hs, by decide⟩ (by simp) fun u => ?_;refine dW ?_;refine dW ?_;refine sW ?_;refine eW ?_;refine goW ?_;refine rW [] ?_;refine dW ?_;refine dW ?_;refine dW ?_;refine dW ?_;refine dW ?_;refine dW ?_;refine bW (m := 1) fun g68 => ?_;refine appG (k := i) (cap := lc) (g := g68) (c := 1) (ao := la) (cs := p.map fun x : Nat => Value.int .i64 (x : Int)) (v := .int .i64 (f : Int)) Tryz.underlying30 info_I rfl (zc_one (.int .i64 0) rfl (fun n h => nomatch h)) (by omega) (by omega) rfl ⟨ils_now p, by decide⟩ (by simp) fun v => ?_;refine dW ?_;refine dW ?_;refine sW ?_;refine eW ?_;refine goW ?_;obtain ⟨⟨qa, qc⟩, qu, qd⟩ := q;refine posLW (L := bw m) (ao := qa) (xs := o.l) (by simp) (by rw [HO.out.2.1]; omega) fun bx ox e => ?_;subst e;refine numW (L := bw m) (xs := o.l) (b := bx) (o := ox) f (by simp) (by rw [HO.out.2.1]; exact hfn) fun pf => ?_;have hfn2 : (f : Int) < (n : Int) := by omega
   refine rW [] ?_;refine dW ?_;refine dW ?_;refine dW ?_;refine dW ?_;refine dW ?_;refine dW ?_;refine cN (x := gi o.l f * o.dn) (fun w' H => RMul_c (av pf) (av qd) (gi o.l f) o.dn 17000000000 w' ((H.all (.at (bw m) (av pf) (gi o.l f)) (by simp [av]) : IntAt ..).mono (by omega)) (OwnI.int (H.all (.own w.heap.size (av qd) o.dn) (by simp [av])) (Nat.le_trans HW.out.2 (by omega))) (by omega)) fun pt => ?_;refine cN (x := num * (gi o.l f * o.dn)) (fun w' H => RMul_c (av pn1) (av pt) num (gi o.l f * o.dn) 1088000000001 w' (OwnI.int (H.all (.own w.heap.size (av pn1) num) (by simp [av])) hnw) (OwnI.int (H.all (.own w.heap.size (av pt) (gi o.l f * o.dn)) (by simp [av])) (by rw [Int.natAbs_mul]; refine Nat.le_trans (wlen_mul _ _) ?_; have := HO.out.2.2.1 f; have := HW.out.2; omega)) (by omega)) fun pn2 => ?_;refine sW ?_;refine eW ?_;refine goW ?_;refine rW [] ?_;refine dW ?_;refine dW ?_;refine cN (x := den * o.up) (fun w' H => RMul_c (av pd1) (av qu) den o.up 1088000000001 w' (OwnI.int (H.all (.own w.heap.size (av pd1) den) (by simp [av])) hdw) (OwnI.int (H.all (.own w.heap.size (av qu) o.up) (by simp [av])) (Nat.le_trans HW.out.1 (by omega))) (by omega)) fun pd2 => ?_;refine sW ?_;refine eW ?_;refine goW ?_;have hnx := HV.out.next HS.out h (some ⟨bx, ox, none⟩, qc) HO.out.1 HO.out.2.2.2.1 hn hm (HO.out.2.2.1 _) HW.out.1 HW.out.2;rw [HF.out] at hnx;have HX := Lib.hid hnx;clear hnx;refine rW [] ?_;refine dW ?_;refine dE (incB (a := i) (by omega)) ?_;refine dW ?_;refine eW ?_;refine goW ?_;exact backW (⟨i + 1, u.1, u.2, v.1, v.2, hs ++ [(some ⟨bx, ox, none⟩, qc)], R ++ [o.l], p ++ [f], pn2, pd2, num * (gi o.l f * o.dn), den * o.up, fun t => if t < i then up t else o.up, fun t => if t < i then dn t else o.dn⟩ : DtX) ⟨⟨h, HX.out⟩, by show n - (i + 1) < n - i; omega⟩ (he := by
    intro w' h;have e1 : rcs n hs ++ [.slice (some ⟨bx, ox, none⟩) n qc] = rcs n (hs ++ [(some ⟨bx, ox, none⟩, qc)]) := by simp [rcs]
    have e2 : (p.map fun x : Nat => Value.int .i64 (x : Int)) ++ [.int .i64 (f : Int)] = (p ++ [f]).map fun x : Nat => Value.int .i64 (x : Int) := by simp
    rw [e1, e2] at h;have h3 : Fr _ _ w' (.lrs (bw m) hs R :: .ls (bw m) (some ⟨bx, ox, none⟩) o.l :: [.row g27 56 [.slice u.1 (i + 1) u.2, .slice v.1 (i + 1) v.2], .lg 22 1 u.1 (i + 1) u.2 (rcs n (hs ++ [(some ⟨bx, ox, none⟩, qc)])), .lg 3 1 v.1 (i + 1) v.2 ((p ++ [f]).map fun y : Nat => Value.int .i64 (y : Int)), .row g5 37 [.bool pn2.1, .slice pn2.2.1 pn2.2.2.1 pn2.2.2.2], .row g6 37 [.bool pd2.1, .slice pd2.2.1 pd2.2.2.1 pd2.2.2.2], .row g1 24 [.int .i64 (n : Int), .int .i64 (n : Int), .slice ao nm cap], .row g2 37 [.bool false, .slice none 0 0], .own w.heap.size (av pn2) (num * (gi o.l f * o.dn)), .own w.heap.size (av pd2) (den * o.up), .ls m ao xs]) := h.pick (by repeat (first | exact Pk.n | refine Pk.c (by repeat (first | exact Rm.z | apply Rm.s)) ?_));have h4 := h3.lrsS (q := (some ⟨bx, ox, none⟩, qc)) HV.out.rw_.hl;exact h4.pick (by repeat (first | exact Pk.n | refine Pk.c (by repeat (first | exact Rm.z | apply Rm.s)) ?_)))
 · obtain rfl : n = i := by omega
   have HD := Lib.hid (HV.out.done (hs' := []) (lc := fun _ => 0));have hpn : p.length = n := Eq.trans (show p.length = R.length from HV.out.rw_.st.pl) HV.out.Rl;refine goW ?_;refine rW [] ?_;refine dW ?_;refine dW ?_;refine dW ?_;refine dB false ?_;refine eW ?_;refine goW ?_;refine cfW ?_;refine goW ?_;refine rW [] ?_;refine dW ?_;refine eW ?_;refine goW ?_;refine pickW (es' := [.lg 3 1 la n lc (p.map fun y : Nat => Value.int .i64 (y : Int)), .row g27 56 [.slice ra n rc, .slice la n lc], .row g5 37 [.bool pn1.1, .slice pn1.2.1 pn1.2.2.1 pn1.2.2.2], .row g6 37 [.bool pd1.1, .slice pd1.2.1 pd1.2.2.1 pd1.2.2.2], .row g1 24 [.int .i64 (n : Int), .int .i64 (n : Int), .slice ao nm cap], .row g2 37 [.bool false, .slice none 0 0], .own w.heap.size (av pn1) num, .own w.heap.size (av pd1) den]) ?_;refine convW (e' := .rl la (p.map fun y : Nat => Value.int .i64 (y : Int))) (fun w' h => LgF.rl h) (fun b h => h.2) (fun q => nomatch q) ?_;refine loopW (X := D2X) (D2J n num.natAbs) (fun x => n - x.i) (fun x => [(12, .int .i64 (x.i : Int)), (1, .pointer (some ⟨g1, 0, none⟩)), (2, .pointer (some ⟨g2, 0, none⟩)), (4, .pointer (some ⟨g27, 0, none⟩)), (5, .pointer (some ⟨g5, 0, none⟩)), (6, .pointer (some ⟨g6, 0, none⟩))]) (fun x => [.rl la (p.map fun y : Nat => Value.int .i64 (y : Int)), .row g27 56 [.slice ra n rc, .slice la n lc], .row g5 37 [.bool x.pn.1, .slice x.pn.2.1 x.pn.2.2.1 x.pn.2.2.2], .row g6 37 [.bool pd1.1, .slice pd1.2.1 pd1.2.2.1 pd1.2.2.2], .row g1 24 [.int .i64 (n : Int), .int .i64 (n : Int), .slice ao nm cap], .row g2 37 [.bool false, .slice none 0 0], .own w.heap.size (av x.pn) x.num, .own w.heap.size (av pd1) den]) ⟨0, pn1, num⟩ ⟨Nat.zero_le _, rfl⟩ fun x hx => ?_;obtain ⟨i, pn2, nu⟩ := x;obtain ⟨hi, hab⟩ := hx
   replace hi : i <= n := hi
   replace hab : nu.natAbs = num.natAbs := hab
   by_cases h : i < n
   · have h02 : (i : Int) < (n : Int) := by omega
     refine goW ?_;refine rW [] ?_;refine dW ?_;refine dW ?_;refine dW ?_;refine dB true ?_;refine eW ?_;refine goW ?_;refine ctW ?_;refine goW ?_;refine rW [] ?_;refine dW ?_;refine eW ?_;refine goW ?_;refine loopW (X := D2X) (D2J i num.natAbs) (fun x => i - x.i) (fun x => [(13, .int .i64 (x.i : Int)), (12, .int .i64 (i : Int)), (1, .pointer (some ⟨g1, 0, none⟩)), (2, .pointer (some ⟨g2, 0, none⟩)), (4, .pointer (some ⟨g27, 0, none⟩)), (5, .pointer (some ⟨g5, 0, none⟩)), (6, .pointer (some ⟨g6, 0, none⟩))]) (fun x => [.rl la (p.map fun y : Nat => Value.int .i64 (y : Int)), .row g27 56 [.slice ra n rc, .slice la n lc], .row g5 37 [.bool x.pn.1, .slice x.pn.2.1 x.pn.2.2.1 x.pn.2.2.2], .row g6 37 [.bool pd1.1, .slice pd1.2.1 pd1.2.2.1 pd1.2.2.2], .row g1 24 [.int .i64 (n : Int), .int .i64 (n : Int), .slice ao nm cap], .row g2 37 [.bool false, .slice none 0 0], .own w.heap.size (av x.pn) x.num, .own w.heap.size (av pd1) den]) ⟨0, pn2, nu⟩ ⟨Nat.zero_le _, hab⟩ fun x hx => ?_;obtain ⟨j, pn3, nv⟩ := x;obtain ⟨hj, hav⟩ := hx
     replace hj : j <= i := hj
     replace hav : nv.natAbs = num.natAbs := hav
     have hvw : wlen nv.natAbs <= 1088000000001 := by rw [hav]; exact hnw
     by_cases h2 : j < i
     · have h03 : (j : Int) < (i : Int) := by omega
       obtain ⟨x, hx⟩ : ∃ x, p.getD i 0 = x := ⟨_, rfl⟩;obtain ⟨y, hy⟩ : ∃ y, p.getD j 0 = y := ⟨_, rfl⟩;have hix : (p.map (fun y : Nat => Value.int .i64 (y : Int)))[i]? = some (.int .i64 (x : Int)) := by
        have := ils_get (p := p) [] (t := i) (by omega);rw [List.append_nil, hx] at this; exact this
       have hjy : (p.map (fun y : Nat => Value.int .i64 (y : Int)))[j]? = some (.int .i64 (y : Int)) := by
        have := ils_get (p := p) [] (t := j) (by omega);rw [List.append_nil, hy] at this; exact this
       have HJ := Lib.hid (And.intro hix hjy);clear hx hy hix hjy;refine goW ?_;refine rW [] ?_;refine dW ?_;refine dW ?_;refine dB true ?_;refine eW ?_;refine goW ?_;refine rlW (ao := la) i (by simp) HJ.out.1 fun lb e => ?_;subst e;refine rlW (ao := some ⟨lb, 0, none⟩) j (by simp) HJ.out.2 fun lb2 e => ?_;cases e;have hjn : (j : Int) < (n : Int) := by omega
       by_cases h3 : x < y
       · have h04 : (y : Int) > (x : Int) := by omega
         refine goW ?_;refine ctW ?_;refine goW ?_;refine rW [] ?_;refine dW ?_;refine dW ?_;refine dW ?_;refine dW ?_;refine dW ?_;refine dW ?_;refine dW ?_;refine dW ?_;refine dW ?_;refine dW ?_;refine dW ?_;refine dW ?_;refine dW ?_;refine dW ?_;refine dB true ?_;refine eW ?_;refine goW ?_;refine ctW ?_;refine goW ?_;refine rW [] ?_;refine dW ?_;refine cN (x := -nv) (fun w' H => RNeg_c (av pn3) nv 1088000000001 w' (OwnI.int (H.all (.own w.heap.size (av pn3) nv) (by simp [av])) hvw) (by omega)) fun pn4 => ?_;refine sW ?_;refine eW ?_;refine goW ?_;refine rW [] ?_;refine dW ?_;refine dE (incB (a := j) (by omega)) ?_;refine dW ?_;refine eW ?_;refine goW ?_;exact backW (⟨j + 1, pn4, -nv⟩ : D2X) ⟨⟨h2, by show (-nv).natAbs = _; rw [Int.natAbs_neg]; exact hav⟩, by show i - (j + 1) < i - j; omega⟩
       · have h04 : ¬ (y : Int) > (x : Int) := by omega
         refine goW ?_;refine ctW ?_;refine goW ?_;refine rW [] ?_;refine dW ?_;refine dW ?_;refine dW ?_;refine dW ?_;refine dW ?_;refine dW ?_;refine dW ?_;refine dW ?_;refine dW ?_;refine dW ?_;refine dW ?_;refine dW ?_;refine dW ?_;refine dW ?_;refine dB false ?_;refine eW ?_;refine goW ?_;refine cfW ?_;refine goW ?_;refine rW [] ?_;refine dW ?_;refine dE (incB (a := j) (by omega)) ?_;refine dW ?_;refine eW ?_;refine goW ?_;exact backW (⟨j + 1, pn3, nv⟩ : D2X) ⟨⟨h2, hav⟩, by show i - (j + 1) < i - j; omega⟩
     · have h03 : ¬ (j : Int) < (i : Int) := by omega
       refine goW ?_;refine rW [] ?_;refine dW ?_;refine dW ?_;refine dB false ?_;refine eW ?_;refine goW ?_;refine cfW ?_;refine goW ?_;refine rW [] ?_;refine dW ?_;refine dE (incB (a := i) (by omega)) ?_;refine dW ?_;refine eW ?_;refine goW ?_;exact backW (⟨i + 1, pn3, nv⟩ : D2X) ⟨⟨h, hav⟩, by show n - (i + 1) < n - i; omega⟩
   · have h02 : ¬ (i : Int) < (n : Int) := by omega
     have hq := quo_abs HD.out.1 (hab.trans HD.out.2);have HQ := Lib.hid hq;refine goW ?_;refine rW [] ?_;refine dW ?_;refine dW ?_;refine dW ?_;refine dB false ?_;refine eW ?_;refine goW ?_;refine cfW ?_;refine goW ?_;refine rW [] ?_;refine dW ?_;refine dW ?_;refine cN1 (x := nu / den) (z := .int .i64 0) (fun w' H => RExact_c (av pn2) (av pd1) nu den w' ((OwnI.int (H.all (.own w.heap.size (av pn2) nu) (by simp [av])) (by rw [hab]; exact hnw)).mono (by omega)) ((OwnI.int (H.all (.own w.heap.size (av pd1) den) (by simp [av])) hdw).mono (by omega)) HD.out.1 HQ.out.1) fun pe => ?_;refine dW ?_;refine dW ?_;refine dW ?_;refine aW fun g14 => ?_;refine sG ?_;refine dW ?_;refine eW ?_;refine goW ?_;refine rW [] ?_;refine dW ?_;refine sW ?_;refine dW ?_;refine eW ?_;refine goW ?_;refine fin2 fun w' H => ?_;refine ⟨_, _, rvI (H.all (.row g2 37 [.bool pe.1, .slice pe.2.1 pe.2.2.1 pe.2.2.2]) (by simp)), rvT, ⟨av pe, nu / den, rfl, H.all (.own w.heap.size (av pe) (nu / den)) (by simp [av]), HQ.out.2, ?_⟩, H.below⟩;refine Nat.le_trans (wlen_mono (b := num.natAbs) ?_) (Nat.le_trans hnw (by omega));rw [HQ.out.2, HD.out.2];exact Nat.le_mul_of_pos_left _ (Int.natAbs_pos.2 HD.out.1)
end Go.Proofs.YtdgfhcaokigieaaGreat
