/- Part 6 of 6 of the proof that the law GroupTensors returns true for every input of bulk at most 1048576 and leaves its arguments as they were: the law itself. -/
import Derived.Test.YtghpbpclamfigaaGreatPgE
set_option linter.all false
namespace Go.Proofs.YtghpbpclamfigaaGreat
open Go.RowKit
theorem subI {a b : Nat} (h : b <= a) (ha : a < 9223372036854775808) : Value.int .i64 (IntKind.i64.wrap ((a : Int) - b)) = .int .i64 ((a - b : Nat) : Int) := by
 rw [Int.ofNat_sub h, wrap_small] <;> first | rfl | omega
theorem sub1I {a : Nat} (h : 1 <= a) (ha : a < 9223372036854775808) : Value.int .i64 (IntKind.i64.wrap ((a : Int) - 1)) = .int .i64 ((a - 1 : Nat) : Int) := subI h ha
section
variable {P : Program} {Q : Exit -> Act -> World -> Prop} {S0 : Nat -> Prop} {w0 : World} {n : Nat} {ls : List (Nat × Value)} {es : List En} {c : Code}
theorem numN0W {xs : List Int} {b : Nat} (i : Nat) (hm : En.lsn (some ⟨b, 0, none⟩) xs ∈ es) (hi : i < xs.length) (k : ∀ p : P4, CW P n S0 w0 c Q ls (.cell ⟨b, i * 2, none⟩ (.bool p.1) :: .cell ⟨b, i * 2 + 1, none⟩ (.slice p.2.1 p.2.2.1 p.2.2.2) :: .num (av p) (gi xs i) :: es)) : CW P n S0 w0 c Q ls es :=
 numNW i hm hi fun p => by rw [Nat.zero_add]; exact k p
end
theorem lst_lsAt {w : World} {L n cap : Nat} {ao : Option Addr} {ps : List P4} {ys : List Int} (h : LstF ao n cap ps w) (hl : ys.length = n) (hi : ∀ i, i < n -> IntAt w L (av (gp ps i)) (gi ys i)) : LsAt w L ao ys := fun hp => by
 obtain ⟨h1, _, ⟨_, h2⟩ | ⟨b, tl, rfl, ht, hr, _⟩⟩ := h
 · omega
 · exact lsAt_of hr (by omega) (fun i h => hi i (by omega)) hp
section
variable {P : Program} {ops : Array Oper} {Q : Exit -> Act -> World -> Prop} {S0 : Nat -> Prop} {w0 : World} {E0 : List En} {hd : List (List Nat)} {n j s sg g : Nat} {l : List Nat} {G E : List En} {ls : List (Nat × Value)} {op : Op} {ty : TypeId} {pos : String} {af : Array Edge} {f : FuncId} {args : Array Value} {want : Bool}
end
theorem prodL_snoc : ∀ (l : List Nat) (x : Nat), prodL (l ++ [x]) = prodL l * x
 | [], x => by simp [prodL]
 | y :: l, x => by
  have := prodL_snoc l x;simp only [prodL, List.cons_append, List.foldr_cons] at this ⊢;rw [this, Nat.mul_assoc]
theorem prodL_take {l : List Nat} {i : Nat} (h : i < l.length) : prodL (l.take (i + 1)) = prodL (l.take i) * l.getD i 0 := by
 rw [List.take_add_one, List.getElem?_eq_getElem h];simp only [Option.toList_some];rw [prodL_snoc]; simp [h]
theorem prodL_le (B : Nat) : ∀ l : List Nat, (∀ x ∈ l, x < W ^ B) -> prodL l <= W ^ (B * l.length)
 | [], _ => by simp [prodL]
 | x :: l, h => by
  have h1 := prodL_le B l fun y hy => h y (List.mem_cons_of_mem _ hy);have h2 := h x (List.mem_cons_self ..);rw [List.length_cons, Nat.mul_succ, Nat.pow_add, Nat.mul_comm (W ^ (B * l.length))];exact Nat.mul_le_mul (by omega) h1
theorem prodL_wlen {B n i : Nat} {l : List Nat} (h : ∀ x ∈ l, x < W ^ B) (hi : i <= n) : wlen (prodL (l.take i)) <= B * n + 1 := by
 have h1 := prodL_le B (l.take i) fun x hx => h x (List.mem_of_mem_take hx);have h2 : B * (l.take i).length <= B * n := Nat.mul_le_mul_left _ (by rw [List.length_take]; omega);exact wlen_le_of_lt (Nat.lt_of_le_of_lt h1 (Nat.pow_lt_pow_right (by decide : 1 < W) (by omega)))
theorem prodNZ_wlen {B n : Nat} {l : List Nat} (h : ∀ x ∈ l, x < W ^ B) (hn : l.length <= n) : wlen (prodNZ l) <= B * n + 1 := by
 have h1 := prodNZ_lt B l h;have h2 : B * l.length <= B * n := Nat.mul_le_mul_left _ hn;exact wlen_le_of_lt (Nat.lt_of_le_of_lt h1 (Nat.pow_lt_pow_right (by decide : 1 < W) (by omega)))
theorem nt_natAbs (l : List Nat) : (nt l).map Int.natAbs = l := by
 unfold nt;rw [List.map_map];exact (List.map_congr_left fun x _ => Int.natAbs_natCast x).trans (List.map_id _)
theorem Chn.get : ∀ {l : List Nat} {i : Nat}, Chn l -> i + 1 < l.length -> l.getD i 0 ∣ l.getD (i + 1) 0
 | a :: b :: l, 0, h, _ => h.1
 | a :: b :: l, i + 1, h, hi => by
  have := Chn.get (l := b :: l) (i := i) h.2 (by simpa using hi);simpa using this
theorem lt_ofLs {w : World} {ao : Option Addr} {xs : List Int} {B : Nat} (h : LsAt w B ao xs) : ∀ x ∈ xs, x.natAbs < W ^ B := fun x hx => by
 obtain ⟨i, hi, rfl⟩ := List.getElem_of_mem hx;obtain ⟨b, o, _, _, hc⟩ := h (by omega);obtain ⟨q, _, _, hI⟩ := hc i hi;exact Nat.lt_of_lt_of_le (lt_pow_wlen _) (Nat.pow_le_pow_right (by decide) hI.wlen)
theorem nt_append (l m : List Nat) : nt (l ++ m) = nt l ++ nt m := by simp [nt]
theorem nt_cons (x : Nat) (l : List Nat) : nt (x :: l) = (x : Int) :: nt l := rfl
theorem crz_nt (f g : List Nat) : crz (nt f) (nt g) = nt (crs f g) := by
 induction f with
 | nil => rfl
 | cons x f ih =>
  have e1 : crz (nt (x :: f)) (nt g) = gcz x (nt g) ++ crz (nt f) (nt g) := by simp [crz, nt]
  have e2 : crs (x :: f) g = g.map (Nat.gcd x) ++ crs f g := by simp [crs]
  have e3 : gcz x (nt g) = nt (g.map (Nat.gcd x)) := by simp [gcz, nt]
  rw [e1, e2, ih, nt_append, e3]
theorem abz_nt (l : List Nat) : abz (nt l) = nt (ab1 l) := by
 induction l with
 | nil => rfl
 | cons x l ih =>
  unfold abz ab1 at ih ⊢;rw [nt_cons, List.filter_cons, List.filter_cons, ih];by_cases h : 1 < x
  · rw [if_pos (decide_eq_true (show (1 : Int) < (x : Int) by omega)), if_pos (decide_eq_true h), nt_cons]
  · rw [if_neg (by simpa using (show ¬ (1 : Int) < (x : Int) by omega)), if_neg (by simpa using h)]
theorem cps_snoc (r : Nat) (g : List Nat) : cps r g ++ g = cps (r + 1) g := by
 induction r with
 | zero => simp [cps]
 | succ r ih => rw [cps_succ, List.append_assoc, ih, <- cps_succ]
theorem crs_lt {f g : List Nat} {B : Nat} (hp : Posi f) (h : ∀ x ∈ f, x < B) : ∀ x ∈ crs f g, x < B := fun z hz => by
 unfold crs at hz;obtain ⟨l, hl, hz⟩ := List.mem_flatten.1 hz;obtain ⟨x, hx, rfl⟩ := List.mem_map.1 hl;obtain ⟨y, _, rfl⟩ := List.mem_map.1 hz;exact Nat.lt_of_le_of_lt (Nat.gcd_le_left _ (hp x hx)) (h x hx)
theorem cps_lt {g : List Nat} {B : Nat} (r : Nat) (h : ∀ x ∈ g, x < B) : ∀ x ∈ cps r g, x < B := fun z hz => by
 unfold cps at hz;obtain ⟨l, hl, hz⟩ := List.mem_flatten.1 hz;rw [(List.mem_replicate.1 hl).2] at hz;exact h z hz
theorem crs_len (f g : List Nat) : (crs f g).length = f.length * g.length := by
 have := crz_length (nt f) (nt g);rw [crz_nt, nt_length, nt_length, nt_length] at this; exact this
theorem cps_len (r : Nat) (g : List Nat) : (cps r g).length = r * g.length := by
 induction r with
 | zero => simp [cps]
 | succ r ih => rw [cps_succ, List.length_append, ih, Nat.succ_mul, Nat.add_comm]
theorem chProg_length (l : List Nat) : (chProg l).length = l.length := by rw [chProg_ref, chRef_length]
theorem ends3 {L : Nat} {D : List Nat} (hL : L <= 67108865) (hn : D.length <= 12288) (hb : ∀ x ∈ D, x < W ^ L) :
 (∀ w ao k, LsAt w L ao (nt D) -> Calls Tryz.prog 20 #[.slice ao D.length k] w fun e w' => (∃ p : Option Addr × Nat, e = .returned (.slice p.1 (ab1 D).length p.2) /\ LsN w' p.1 (nt (ab1 D)) /\ True /\ ∀ b o, p.1 = some ⟨b, o, none⟩ -> w.heap.size <= b) /\ Below w.heap.size w w') /\
 (∀ w ao k, LsN w ao (nt (ab1 D)) -> Calls Tryz.prog 21 #[.slice ao (ab1 D).length k] w fun e w' => (∃ q : Nat, e = .returned (.slice (some ⟨q, 0, none⟩) (ab1 D).length (ab1 D).length) /\ LsN w' (some ⟨q, 0, none⟩) (nt (chProg (ab1 D))) /\ True /\ ∀ b o, some (⟨q, 0, none⟩ : Addr) = some ⟨b, o, none⟩ -> w.heap.size <= b) /\ Below w.heap.size w w') /\
 (∀ w ao k, LsN w ao (nt (chProg (ab1 D))) -> Calls Tryz.prog 20 #[.slice ao (ab1 D).length k] w fun e w' => (∃ p : Option Addr × Nat, e = .returned (.slice p.1 (nf (ab1 D)).length p.2) /\ LsN w' p.1 (nt (nf (ab1 D))) /\ (nf (ab1 D)).length <= p.2 /\ ∀ b o, p.1 = some ⟨b, o, none⟩ -> w.heap.size <= b) /\ Below w.heap.size w w') := by
 have hal : (ab1 D).length <= D.length := by unfold ab1; exact List.length_filter_le ..
 have hab : ∀ x ∈ ab1 D, x < W ^ L := fun x hx => hb x (by unfold ab1 at hx; exact (List.mem_filter.1 hx).1);have hP : wlen (prodNZ (ab1 D)) <= 8796093022207 := Nat.le_trans (prodNZ_wlen hab (Nat.le_trans hal hn)) (Nat.le_trans (Nat.add_le_add_right (Nat.mul_le_mul_right 12288 hL) 1) (by decide));have hcb : ∀ x ∈ nt (chProg (ab1 D)), wlen x.natAbs <= 17592186044415 := fun x hx => by
  unfold nt at hx;obtain ⟨y, hy, rfl⟩ := List.mem_map.1 hx;exact Nat.le_trans (wlen_mono ((chProg_dv (fun z hz => Dv.of_mem hz) y hy).le (prodNZ_pos _))) (Nat.le_trans hP (by omega))
 have hnb : ∀ x ∈ nt (ab1 D), wlen x.natAbs <= L := fun x hx => by
  unfold nt at hx;obtain ⟨y, hy, rfl⟩ := List.mem_map.1 hx;exact wlen_le_of_lt (hab y hy)
 refine ⟨fun w ao k h => ?_, fun w ao k h => ?_, fun w ao k h => ?_⟩
 · have := GAbove_c ao k L (nt D) w h (by omega) (by rw [nt_length]; omega);rw [abz_nt, nt_length, nt_length] at this;exact this.mono fun e w' ⟨⟨q, c, he, h1, _, h2⟩, hbl⟩ => ⟨⟨(q, c), he, h1, trivial, h2⟩, hbl⟩
 · have := SChain_c ao k L (nt (ab1 D)) w (h.lsAt hnb) (by omega) (by rw [nt_length]; omega) (by rw [nt_natAbs]; exact hP);rw [nt_natAbs, nt_length] at this;exact this.mono fun e w' ⟨⟨q, he, hq, hr⟩, hbl⟩ => ⟨⟨q, he, hr.lsN, trivial, fun b o e => by cases e; exact hq⟩, hbl⟩
 · have := GAbove_c ao k 17592186044415 (nt (chProg (ab1 D))) w (h.lsAt hcb) (by omega) (by rw [nt_length, chProg_length]; omega);rw [abz_nt, nt_length, nt_length, chProg_length] at this;exact this.mono fun e w' ⟨⟨q, c, he, h1, h3, h2⟩, hbl⟩ => ⟨⟨(q, c), he, h1, h3, h2⟩, hbl⟩
theorem fitB_nt {r : Nat} {f : List Nat} (hr : r <= 64) (hf : f.length <= 64) (hp : Posi f) : fitB (r : Int) (nt f) = true := by
 unfold fitB;rw [Bool.and_eq_true];refine ⟨decide_eq_true ⟨by omega, by omega, by rw [nt_length]; exact hf⟩, List.all_eq_true.2 fun x hx => ?_⟩;unfold nt at hx;obtain ⟨y, hy, rfl⟩ := List.mem_map.1 hx;have := hp y hy;exact decide_eq_true (show (0 : Int) < (y : Int) by omega)
theorem lt_ofNt {w : World} {ao : Option Addr} {f : List Nat} {B : Nat} (h : LsAt w B ao (nt f)) : ∀ x ∈ f, x < W ^ B := fun x hx => lt_ofLs h (x : Int) (by unfold nt; exact List.mem_map.2 ⟨x, hx, rfl⟩)
theorem ns_ia {w : World} {L k : Nat} {ps : List P4} {f : List Nat} (h : NsAt w ps (nt f)) (hk : ps.length = k) (hb : ∀ x ∈ f, x < W ^ L) : ∀ i, i < k -> IntAt w L (av (gp ps i)) (gi (nt f) i) := fun i hi => by
 have h1 := h.2 i (by omega);have hm := gi_mem (xs := nt f) (i := i) (by rw [<- h.1]; omega);unfold nt at hm;obtain ⟨y, hy, he⟩ := List.mem_map.1 hm;have hw : wlen (gi (nt f) i).natAbs <= L := by unfold nt; rw [<- he]; exact wlen_le_of_lt (hb y hy)
 exact h1.int hw
section
variable {r s : Int} {la lb : Option Addr} {ca cb L : Nat} {xs ys : List Int} {w : World}
set_option maxRecDepth 100000 in
set_option maxHeartbeats 1000000 in
theorem GTorN_c (hA : LsAt w L la xs) (hB : LsAt w L lb ys) (hL : L <= 17592186044415) (hn : xs.length <= 8796093022208) (hm : ys.length <= 8796093022208) (h : ¬ (fitB r xs = true /\ fitB s ys = true)) :
 Calls Tryz.prog 7 #[.int .i64 r, .slice la xs.length ca, .int .i64 s, .slice lb ys.length cb] w fun e w' => e = .returned (.tuple #[.int .i64 0, .slice none 0 0, .int .i64 3]) /\ Below w.heap.size w w' := by
 have HF := Lib.hid (fun w' h => GFit_c r la ca L xs w' h hL hn);have HG := Lib.hid (fun w' h => GFit_c s lb cb L ys w' h hL hm);obtain ⟨a, ha⟩ : ∃ a, fitB r xs = a := ⟨_, rfl⟩;obtain ⟨b, hb⟩ : ∃ b, fitB s ys = b := ⟨_, rfl⟩;rw [ha] at HF;rw [hb] at HG;rw [ha, hb] at h;obtain ⟨n, hnn⟩ : ∃ n, xs.length = n := ⟨_, rfl⟩;obtain ⟨m, hmm⟩ : ∃ m, ys.length = m := ⟨_, rfl⟩;rw [hnn] at HF ⊢;rw [hmm] at HG ⊢;clear ha hb hnn hmm hn hm;refine funW (S0 := fun _ => False) Tryz.func7 (((Fr.nil _ w).l hB (by simp)).l hA (by simp [En.wr])) ?_;by_cases ha : a = true
 · subst ha;obtain rfl : b = false := by cases b <;> simp_all
   clear h;refine goW ?_;refine rW [] ?_;refine dW ?_;refine dW ?_;refine dW ?_;refine eW ?_;refine goW ?_;refine rW [] ?_;refine dW ?_;refine dW ?_;refine cV (v := .bool true) (fun w' H => HF.out w' H.m0) ?_;refine dW ?_;refine dW ?_;refine dG ?_;refine dG ?_;refine cVg (v := .bool false) (fun w' H => HG.out w' H.m1) ?_;refine dG ?_;refine dW ?_;refine eW ?_;refine goW ?_;refine ctW ?_;refine goW ?_;refine rW [] ?_;refine dW ?_;refine dW ?_;refine dW ?_;refine eW ?_;refine goW ?_;refine fin3 fun w' H => ?_;exact ⟨_, _, _, rvT, rvT, rvT, rfl, H.below⟩
 · obtain rfl : a = false := by simpa using ha
   clear h ha;refine goW ?_;refine rW [] ?_;refine dW ?_;refine dW ?_;refine dW ?_;refine eW ?_;refine goW ?_;refine rW [] ?_;refine dW ?_;refine dW ?_;refine cV (v := .bool false) (fun w' H => HF.out w' H.m0) ?_;refine dW ?_;refine dW ?_;refine uG ?_;refine uG ?_;refine uC ?_;refine uG ?_;refine dW ?_;refine eW ?_;refine goW ?_;refine ctW ?_;refine goW ?_;refine rW [] ?_;refine dW ?_;refine dW ?_;refine dW ?_;refine eW ?_;refine goW ?_;refine fin3 fun w' H => ?_;exact ⟨_, _, _, rvT, rvT, rvT, rfl, H.below⟩
set_option maxRecDepth 100000 in
set_option maxHeartbeats 1000000 in
theorem GTenN_c (hA : LsAt w L la xs) (hB : LsAt w L lb ys) (hL : L <= 17592186044415) (hn : xs.length <= 8796093022208) (hm : ys.length <= 8796093022208) (h : ¬ (fitB r xs = true /\ fitB s ys = true)) :
 Calls Tryz.prog 6 #[.int .i64 r, .slice la xs.length ca, .int .i64 s, .slice lb ys.length cb] w fun e w' => e = .returned (.tuple #[.int .i64 0, .slice none 0 0, .int .i64 3]) /\ Below w.heap.size w w' := by
 have HF := Lib.hid (fun w' h => GFit_c r la ca L xs w' h hL hn);have HG := Lib.hid (fun w' h => GFit_c s lb cb L ys w' h hL hm);obtain ⟨a, ha⟩ : ∃ a, fitB r xs = a := ⟨_, rfl⟩;obtain ⟨b, hb⟩ : ∃ b, fitB s ys = b := ⟨_, rfl⟩;rw [ha] at HF;rw [hb] at HG;rw [ha, hb] at h;obtain ⟨n, hnn⟩ : ∃ n, xs.length = n := ⟨_, rfl⟩;obtain ⟨m, hmm⟩ : ∃ m, ys.length = m := ⟨_, rfl⟩;rw [hnn] at HF ⊢;rw [hmm] at HG ⊢;clear ha hb hnn hmm hn hm;refine funW (S0 := fun _ => False) Tryz.func6 (((Fr.nil _ w).l hB (by simp)).l hA (by simp [En.wr])) ?_;by_cases ha : a = true
 · subst ha;obtain rfl : b = false := by cases b <;> simp_all
   clear h;refine goW ?_;refine rW [] ?_;refine dW ?_;refine dW ?_;refine dW ?_;refine eW ?_;refine goW ?_;refine rW [] ?_;refine dW ?_;refine dW ?_;refine cV (v := .bool true) (fun w' H => HF.out w' H.m0) ?_;refine dW ?_;refine dW ?_;refine dG ?_;refine dG ?_;refine cVg (v := .bool false) (fun w' H => HG.out w' H.m1) ?_;refine dG ?_;refine dW ?_;refine eW ?_;refine goW ?_;refine ctW ?_;refine goW ?_;refine rW [] ?_;refine dW ?_;refine dW ?_;refine dW ?_;refine eW ?_;refine goW ?_;refine fin3 fun w' H => ?_;exact ⟨_, _, _, rvT, rvT, rvT, rfl, H.below⟩
 · obtain rfl : a = false := by simpa using ha
   clear h ha;refine goW ?_;refine rW [] ?_;refine dW ?_;refine dW ?_;refine dW ?_;refine eW ?_;refine goW ?_;refine rW [] ?_;refine dW ?_;refine dW ?_;refine cV (v := .bool false) (fun w' H => HF.out w' H.m0) ?_;refine dW ?_;refine dW ?_;refine uG ?_;refine uG ?_;refine uC ?_;refine uG ?_;refine dW ?_;refine eW ?_;refine goW ?_;refine ctW ?_;refine goW ?_;refine rW [] ?_;refine dW ?_;refine dW ?_;refine dW ?_;refine eW ?_;refine goW ?_;refine fin3 fun w' H => ?_;exact ⟨_, _, _, rvT, rvT, rvT, rfl, H.below⟩
end
section
variable {r s : Nat} {la lb : Option Addr} {ca cb L : Nat} {f g : List Nat} {w : World}
set_option maxRecDepth 100000 in
set_option maxHeartbeats 1000000 in
theorem GTor_c (hA : LsAt w L la (nt f)) (hB : LsAt w L lb (nt g)) (hL : L <= 67108865) (hr : r <= 64) (hs : s <= 64) (hf : f.length <= 64) (hg : g.length <= 64) (hpf : Posi f) (hpg : Posi g) :
 Calls Tryz.prog 7 #[.int .i64 (r : Int), .slice la f.length ca, .int .i64 (s : Int), .slice lb g.length cb] w fun e w' => (∃ p : Option Addr × Nat, e = .returned (.tuple #[.int .i64 0, .slice p.1 (tor f g).length p.2, .int .i64 0]) /\ LsN w' p.1 (nt (tor f g)) /\ (tor f g).length <= p.2 /\ ∀ b o, p.1 = some ⟨b, o, none⟩ -> w.heap.size <= b) /\ Below w.heap.size w w' := by
 have c1 := fun w' h => GFit_c (r : Int) la ca L (nt f) w' h (by omega) (by rw [nt_length]; omega);have c2 := fun w' h => GFit_c (s : Int) lb cb L (nt g) w' h (by omega) (by rw [nt_length]; omega);rw [fitB_nt hr hf hpf, nt_length] at c1;rw [fitB_nt hs hg hpg, nt_length] at c2;have c3 : ∀ w', LsAt w' L la (nt f) -> LsAt w' L lb (nt g) -> Calls Tryz.prog 19 #[.slice la f.length ca, .slice lb g.length cb] w' fun e w'' => (∃ p : Option Addr × Nat, e = .returned (.slice p.1 (crs f g).length p.2) /\ LsN w'' p.1 (nt (crs f g)) /\ True /\ ∀ b o, p.1 = some ⟨b, o, none⟩ -> w'.heap.size <= b) /\ Below w'.heap.size w' w'' := fun w' h1 h2 => by
  have := GCrossed_c la lb ca cb L (nt f) (nt g) w' h1 h2 (by omega) (by rw [nt_length]; exact hf) (by rw [nt_length]; exact hg);rw [crz_nt, nt_length, nt_length, <- crs_len] at this;exact this.mono fun e w'' ⟨⟨p, he, hl, hn, hb⟩, hbl⟩ => ⟨⟨(p.1, p.2.1), he, lst_lsN hl hn, trivial, hb⟩, hbl⟩
 have hD := crs_lt (g := g) hpf (lt_ofNt hA);have hDl : (crs f g).length <= 12288 := by have := Nat.mul_le_mul hf hg; rw [crs_len]; omega
 obtain ⟨c4, c5, c6⟩ := ends3 hL hDl hD;have hDn : ∀ x ∈ nt (crs f g), wlen x.natAbs <= L := fun x hx => by
  unfold nt at hx;obtain ⟨y, hy, rfl⟩ := List.mem_map.1 hx;exact wlen_le_of_lt (hD y hy)
 have c4' := fun w' ao k (h : LsN w' ao (nt (crs f g))) => c4 w' ao k (h.lsAt hDn);show Calls _ _ _ w fun e w' => (∃ p : Option Addr × Nat, e = .returned (.tuple #[.int .i64 0, .slice p.1 (nf (ab1 (crs f g))).length p.2, .int .i64 0]) /\ LsN w' p.1 (nt (nf (ab1 (crs f g)))) /\ (nf (ab1 (crs f g))).length <= p.2 /\ ∀ b o, p.1 = some ⟨b, o, none⟩ -> w.heap.size <= b) /\ Below w.heap.size w w';have HC := Lib.hid (And.intro c1 (And.intro c2 (And.intro c3 (And.intro c4' (And.intro c5 c6)))));clear c1 c2 c3 c4 c4' c5 c6 hD hDl hDn;obtain ⟨n, hnn⟩ : ∃ n, f.length = n := ⟨_, rfl⟩;obtain ⟨m, hmm⟩ : ∃ m, g.length = m := ⟨_, rfl⟩;obtain ⟨D, hDD⟩ : ∃ D, crs f g = D := ⟨_, rfl⟩;obtain ⟨d1, hd1⟩ : ∃ d, D.length = d := ⟨_, rfl⟩;obtain ⟨d2, hd2⟩ : ∃ d, (ab1 D).length = d := ⟨_, rfl⟩;obtain ⟨d3, hd3⟩ : ∃ d, (nf (ab1 D)).length = d := ⟨_, rfl⟩;rw [hnn, hmm, hDD, hd1, hd2, hd3] at HC;rw [hnn, hmm, hDD, hd3];clear hnn hmm hDD hd1 hd2 hd3 hf hg hr hs;refine funW (S0 := fun _ => False) Tryz.func7 (((Fr.nil _ w).l hB (by simp)).l hA (by simp [En.wr])) ?_;refine goW ?_;refine rW [] ?_;refine dW ?_;refine dW ?_;refine dW ?_;refine eW ?_;refine goW ?_;refine rW [] ?_;refine dW ?_;refine dW ?_;refine cV (v := .bool true) (fun w' H => HC.out.1 w' H.m0) ?_;refine dW ?_;refine dW ?_;refine dG ?_;refine dG ?_;refine cVg (v := .bool true) (fun w' H => HC.out.2.1 w' H.m1) ?_;refine dG ?_;refine dW ?_;refine eW ?_;refine goW ?_;refine cfW ?_;refine goW ?_;refine rW [] ?_;refine dW ?_;refine dW ?_;refine cLn (α := Option Addr × Nat) (mk := fun p => .slice p.1 d1 p.2) (ao := fun p => p.1) (xs := fun _ => nt D) (A := fun _ => True) (fun w' H => HC.out.2.2.1 w' H.m0 H.m1) fun p => ?_;refine cLn (α := Option Addr × Nat) (mk := fun p => .slice p.1 d2 p.2) (ao := fun p => p.1) (xs := fun _ => nt (ab1 D)) (A := fun _ => True) (fun w' H => HC.out.2.2.2.1 w' p.1 p.2 H.m0) fun q => ?_;refine cLn (α := Nat) (mk := fun q => .slice (some ⟨q, 0, none⟩) d2 d2) (ao := fun q => some ⟨q, 0, none⟩) (xs := fun _ => nt (chProg (ab1 D))) (A := fun _ => True) (fun w' H => HC.out.2.2.2.2.1 w' q.1 q.2 H.m0) fun t => ?_;refine cLn (α := Option Addr × Nat) (mk := fun p => .slice p.1 d3 p.2) (ao := fun p => p.1) (xs := fun _ => nt (nf (ab1 D))) (A := fun p => d3 <= p.2) (fun w' H => HC.out.2.2.2.2.2 w' (some ⟨t, 0, none⟩) d2 H.m0) fun u => ?_;refine dW ?_;refine dW ?_;refine dW ?_;refine eW ?_;refine goW ?_;refine fin3 fun w' H => ?_;exact ⟨_, _, _, rvT, rvT, rvT, ⟨u, rfl, H.m0, (show d3 <= u.2 /\ _ from H.m1).1, (show d3 <= u.2 /\ _ from H.m1).2⟩, H.below⟩
structure TnX where
 i : Nat
 K : Nat
 ao : Option Addr
 cap : Nat
 ps : List P4
structure TnI (r : Nat) (D : Nat -> List Nat) (z : TnX) : Prop where
 hi : z.i <= r
 hK : (D z.i).length = z.K
 hp : z.ps.length = z.K
theorem ia_next {w : World} {L k n : Nat} {ps qs : List P4} {d g : List Nat} (h0 : ps.length = k) (hd : d.length = k) (hn : g.length = n) (hq : qs.length = (nt g).length) (h : ∀ i, i < k -> IntAt w L (av (gp ps i)) (gi (nt d) i)) (h2 : ∀ i, i < (nt g).length -> IntAt w L (av (gp qs i)) (gi (nt g) i)) : ∀ i, i < k + (nt g).length -> IntAt w L (av (gp (ps ++ qs) i)) (gi (nt (d ++ g)) i) := by
 rw [nt_append];exact ia_app h0 (by rw [nt_length]; exact hd) h h2 hq rfl
set_option maxRecDepth 100000 in
set_option maxHeartbeats 2000000 in
theorem GTen_c (hA : LsAt w L la (nt f)) (hB : LsAt w L lb (nt g)) (hL : L <= 67108865) (hr : r <= 64) (hs : s <= 64) (hf : f.length <= 64) (hg : g.length <= 64) (hpf : Posi f) (hpg : Posi g) :
 Calls Tryz.prog 6 #[.int .i64 (r : Int), .slice la f.length ca, .int .i64 (s : Int), .slice lb g.length cb] w fun e w' => (∃ p : Option Addr × Nat, e = .returned (.tuple #[.int .i64 ((r * s : Nat) : Int), .slice p.1 (ten r f s g).length p.2, .int .i64 0]) /\ LsN w' p.1 (nt (ten r f s g)) /\ (ten r f s g).length <= p.2 /\ ∀ b o, p.1 = some ⟨b, o, none⟩ -> w.heap.size <= b) /\ Below w.heap.size w w' := by
 have c1 := fun w' h => GFit_c (r : Int) la ca L (nt f) w' h (by omega) (by rw [nt_length]; omega);have c2 := fun w' h => GFit_c (s : Int) lb cb L (nt g) w' h (by omega) (by rw [nt_length]; omega);rw [fitB_nt hr hf hpf] at c1;rw [fitB_nt hs hg hpg] at c2;have hD1 := crs_lt (g := g) hpf (lt_ofNt hA);have c3 : ∀ w', LsAt w' L la (nt f) -> LsAt w' L lb (nt g) -> Calls Tryz.prog 19 #[.slice la (nt f).length ca, .slice lb (nt g).length cb] w' fun e w'' => ∃ p : Option Addr × Nat × List P4, e = .returned (.slice p.1 (crs f g).length p.2.1) /\ Nw w' w'' [.lst p.1 (crs f g).length p.2.1 p.2.2, .ia L (crs f g).length p.2.2 (nt (crs f g)), .pr (p.2.2.length = (crs f g).length)] := fun w' h1 h2 => by
  have := GCrossed_c la lb ca cb L (nt f) (nt g) w' h1 h2 (by omega) (by rw [nt_length]; exact hf) (by rw [nt_length]; exact hg);rw [crz_nt, show (nt f).length * (nt g).length = (crs f g).length by rw [nt_length, nt_length, crs_len]] at this;refine this.mono fun e w'' ⟨⟨p, he, hl, hn, hb⟩, hbl⟩ => ⟨p, he, hbl, fun e he => ?_, ?_⟩
  · have hpl : p.2.2.length = (crs f g).length := by rw [hn.1, nt_length]
    rcases List.mem_cons.1 he with rfl | he
    · exact ⟨hl, fun b ⟨o, q⟩ => hb b o q⟩
    · rcases List.mem_cons.1 he with rfl | he
      · exact ⟨ns_ia hn hpl hD1, fun _ h => h.elim⟩
      · rcases List.mem_singleton.1 he with rfl;exact ⟨hpl, fun _ h => h.elim⟩
  · refine List.pairwise_cons.2 ⟨fun e he => ?_, List.pairwise_pair.2 ⟨(fun h => nomatch h), (fun h => nomatch h)⟩⟩;rcases List.mem_cons.1 he with rfl | he
    · exact ⟨fun _ b _ h => h, fun h => nomatch h⟩
    · rcases List.mem_singleton.1 he with rfl;exact ⟨fun _ b _ h => h, fun h => nomatch h⟩
 have hgl := lt_ofNt hB;have hfl := lt_ofNt hA;have hDl : (crs f g ++ cps r g ++ cps s f).length <= 12288 := by
  have h1 := Nat.mul_le_mul hf hg;have h2 := Nat.mul_le_mul hr hg;have h3 := Nat.mul_le_mul hs hf;rw [List.length_append, List.length_append, crs_len, cps_len, cps_len]; omega
 have hmi : ∀ i, i <= r -> (crs f g ++ cps i g).length <= 12288 := fun i hi => by
  have h1 := Nat.mul_le_mul hf hg;have h2 := Nat.mul_le_mul (Nat.le_trans hi hr) hg;rw [List.length_append, crs_len, cps_len]; omega
 have hmj : ∀ i, i <= s -> (crs f g ++ cps r g ++ cps i f).length <= 12288 := fun i hi => by
  have h1 := Nat.mul_le_mul hf hg;have h2 := Nat.mul_le_mul hr hg;have h3 := Nat.mul_le_mul (Nat.le_trans hi hs) hf;rw [List.length_append, List.length_append, crs_len, cps_len, cps_len]; omega
 have hDb : ∀ x ∈ crs f g ++ cps r g ++ cps s f, x < W ^ L := fun x hx => by
  rcases List.mem_append.1 hx with hx | hx
  · rcases List.mem_append.1 hx with hx | hx
    · exact hD1 x hx
    · exact cps_lt r hgl x hx
  · exact cps_lt s hfl x hx
 obtain ⟨c4, c5, c6⟩ := ends3 hL hDl hDb;have hs1 : ∀ i, nt (crs f g ++ cps (i + 1) g) = nt (crs f g ++ cps i g ++ g) := fun i => by rw [List.append_assoc, cps_snoc]
 have hs2 : ∀ i, nt (crs f g ++ cps r g ++ cps (i + 1) f) = nt (crs f g ++ cps r g ++ cps i f ++ f) := fun i => by rw [List.append_assoc _ (cps i f), cps_snoc]
 show Calls _ _ _ w fun e w' => (∃ p : Option Addr × Nat, e = .returned (.tuple #[.int .i64 ((r * s : Nat) : Int), .slice p.1 (nf (ab1 (crs f g ++ cps r g ++ cps s f))).length p.2, .int .i64 0]) /\ LsN w' p.1 (nt (nf (ab1 (crs f g ++ cps r g ++ cps s f)))) /\ (nf (ab1 (crs f g ++ cps r g ++ cps s f))).length <= p.2 /\ ∀ b o, p.1 = some ⟨b, o, none⟩ -> w.heap.size <= b) /\ Below w.heap.size w w';have e0 : crs f g ++ cps 0 g = crs f g := by simp [cps]
 have e1 : crs f g ++ cps r g ++ cps 0 f = crs f g ++ cps r g := by simp [cps]
 have hl1 : ∀ i, (crs f g ++ cps (i + 1) g).length = (crs f g ++ cps i g).length + (nt g).length := fun i => by rw [<- cps_snoc, <- List.append_assoc, List.length_append, nt_length]
 have hl2 : ∀ i, (crs f g ++ cps r g ++ cps (i + 1) f).length = (crs f g ++ cps r g ++ cps i f).length + (nt f).length := fun i => by rw [<- cps_snoc, <- List.append_assoc, List.length_append, nt_length]
 have HC := Lib.hid (And.intro c1 (And.intro c2 (And.intro c3 (And.intro c4 (And.intro c5 c6)))));have HM := Lib.hid (And.intro hmi (And.intro hmj (And.intro hs1 (And.intro hs2 (And.intro hl1 hl2)))));rw [show f.length = (nt f).length from (nt_length f).symm, show g.length = (nt g).length from (nt_length g).symm];clear c1 c2 c3 c4 c5 c6 hD1 hgl hfl hDl hmi hmj hDb hs1 hs2 hl1 hl2;obtain ⟨n, hnn⟩ : ∃ n, (nt f).length = n := ⟨_, rfl⟩;obtain ⟨m, hmm⟩ : ∃ m, (nt g).length = m := ⟨_, rfl⟩;have HN := Lib.hid (And.intro hnn hmm);obtain ⟨D1, hD1⟩ : ∃ D : Nat -> List Nat, (fun i => crs f g ++ cps i g) = D := ⟨_, rfl⟩;obtain ⟨D2, hD2⟩ : ∃ D : Nat -> List Nat, (fun i => crs f g ++ cps r g ++ cps i f) = D := ⟨_, rfl⟩;have ed1 : ∀ i, crs f g ++ cps i g = D1 i := fun i => by rw [<- hD1]
 have ed2 : ∀ i, crs f g ++ cps r g ++ cps i f = D2 i := fun i => by rw [<- hD2]
 have e0' : crs f g = D1 0 := by rw [<- ed1]; exact e0.symm
 have e1' : D2 0 = D1 r := by rw [<- ed1, <- ed2]; exact e1
 simp only [ed2] at HC HM ⊢;simp only [ed1] at HC HM ⊢;rw [e0'] at HC;have HE := Lib.hid e1';obtain ⟨d2, hd2⟩ : ∃ d, (ab1 (D2 s)).length = d := ⟨_, rfl⟩;obtain ⟨d3, hd3⟩ : ∃ d, (nf (ab1 (D2 s))).length = d := ⟨_, rfl⟩;obtain ⟨d0, hd0⟩ : ∃ d, (D1 0).length = d := ⟨_, rfl⟩;obtain ⟨d1, hd1⟩ : ∃ d, (D2 s).length = d := ⟨_, rfl⟩;have HL := Lib.hid (And.intro hd0 hd1);rw [hd2, hd3, hd0, hd1, hnn, hmm] at HC;rw [hnn, hmm, hd3];clear hnn hmm hD1 hD2 ed1 ed2 e0' e1' e0 e1 hd0 hd1 hd2 hd3 hf hg;refine funW (S0 := fun _ => False) Tryz.func6 (((Fr.nil _ w).l hB (by simp)).l hA (by simp [En.wr])) ?_;refine goW ?_;refine rW [] ?_;refine dW ?_;refine dW ?_;refine dW ?_;refine eW ?_;refine goW ?_;refine rW [] ?_;refine dW ?_;refine dW ?_;refine cV (v := .bool true) (fun w' H => HC.out.1 w' H.m0) ?_;refine dW ?_;refine dW ?_;refine dG ?_;refine dG ?_;refine cVg (v := .bool true) (fun w' H => HC.out.2.1 w' H.m1) ?_;refine dG ?_;refine dW ?_;refine eW ?_;refine goW ?_;refine cfW ?_;refine goW ?_;refine rW [] ?_;refine dW ?_;refine dW ?_;refine cG (α := Option Addr × Nat × List P4) (mk := fun p => .slice p.1 d0 p.2.1) (ens := fun p => [.lst p.1 d0 p.2.1 p.2.2, .ia L d0 p.2.2 (nt (D1 0)), .pr (p.2.2.length = d0)]) (fun w' H => HC.out.2.2.1 w' H.m0 H.m1) fun p => ?_;refine dW ?_;refine eW ?_;refine goW ?_;refine prW (A := p.2.2.length = d0) (by simp) fun hp0 => ?_;have HP := Lib.hid hp0;clear hp0;refine rW [] ?_;refine dW ?_;refine dW ?_;refine eW ?_;refine goW ?_;refine loopW (X := TnX) (TnI r D1) (fun z => r - z.i) (fun z => [(26, .int .i64 (z.i : Int)), (25, .int .i64 (r : Int)), (11, .slice z.ao z.K z.cap), (0, .int .i64 (r : Int)), (1, .slice la n ca), (2, .int .i64 (s : Int)), (3, .slice lb m cb)]) (fun z => [.lst z.ao z.K z.cap z.ps, .ia L z.K z.ps (nt (D1 z.i)), .ls L lb (nt g), .ls L la (nt f)]) ⟨0, d0, p.1, p.2.1, p.2.2⟩ ⟨Nat.zero_le _, HL.out.1, HP.out⟩ fun z hz => ?_;obtain ⟨i, K, ao, cap, ps⟩ := z;obtain ⟨hi, hK, hps⟩ := hz
 replace hi : i <= r := hi
 replace hK : (D1 i).length = K := hK
 replace hps : ps.length = K := hps
 have HK := Lib.hid (And.intro hK hps);by_cases h : i < r
 · have h01 : (i : Int) < (r : Int) := by omega
   have hKm : K + m <= 100000000 := by
    have h1 := HM.out.1 (i + 1) h;rw [HM.out.2.2.2.2.1 i, hK, HN.out.2] at h1;omega
   clear hK hps;refine goW ?_;refine rW [] ?_;refine dB true ?_;refine eW ?_;refine goW ?_;refine ctW ?_;refine goW ?_;refine rW [] ?_;refine dW ?_;refine dW ?_;refine appL (L := L) (ao := ao) (k := K) (cap := cap) (cg := cb) (go := lb) (ps := ps) (ys := nt g) (by rw [HN.out.2]; exact hKm) (fun w' H => H.m2) (hv := by rw [HN.out.2]; (simp only [evlN, Nat.reduceEqDiff, ↓reduceIte]) <;> rfl) fun q => ?_;rw [HN.out.2];refine moreW (e := .ia L (K + m) (ps ++ q.2.2) (nt (D1 (i + 1)))) (fun w' H => by
    have h1 := ia_next (n := m) HK.out.2 HK.out.1 (by rw [<- nt_length]; exact HN.out.2) (show q.2.2.length = (nt g).length from (show q.2.2.length = m from H.m0).trans HN.out.2.symm) H.m3 (fun i hi => H.m1 i (by rw [<- HN.out.2]; exact hi));rw [HN.out.2] at h1;show ∀ i', i' < K + m -> _;rw [HM.out.2.2.1 i]; exact h1) ?_
   refine moreW (e := .pr (q.2.2.length = m)) (fun w' H => H.m1) ?_;refine dW ?_;refine eW ?_;refine goW ?_;refine prW (A := q.2.2.length = m) (by simp) fun hq => ?_;have HQ := Lib.hid hq;clear hq;refine rW [] ?_;refine dE (incB (a := i) (by omega)) ?_;refine dW ?_;refine eW ?_;refine goW ?_;exact backW (⟨i + 1, K + m, q.1, q.2.1, ps ++ q.2.2⟩ : TnX) ⟨⟨h, by show (D1 (i + 1)).length = K + m; rw [HM.out.2.2.2.2.1 i, HK.out.1, HN.out.2], by show (ps ++ q.2.2).length = K + m; rw [List.length_append, HK.out.2, HQ.out]⟩, by show r - (i + 1) < r - i; omega⟩
 · obtain rfl : i = r := by omega
   clear hK hps;refine goW ?_;refine rW [] ?_;refine dB false ?_;refine eW ?_;refine goW ?_;refine cfW ?_;refine goW ?_;refine rW [] ?_;refine dW ?_;refine dW ?_;refine eW ?_;refine goW ?_;refine loopW (X := TnX) (TnI s D2) (fun z => s - z.i) (fun z => [(33, .int .i64 (z.i : Int)), (32, .int .i64 (s : Int)), (11, .slice z.ao z.K z.cap), (0, .int .i64 (i : Int)), (1, .slice la n ca), (2, .int .i64 (s : Int))]) (fun z => [.lst z.ao z.K z.cap z.ps, .ia L z.K z.ps (nt (D2 z.i)), .ls L la (nt f)]) ⟨0, K, ao, cap, ps⟩ ⟨Nat.zero_le _, by show (D2 0).length = K; rw [HE.out]; exact HK.out.1, HK.out.2⟩ (he := by
    intro w h;show Fr _ _ w [.lst ao K cap ps, .ia L K ps (nt (D2 0)), .ls L la (nt f)];rw [HE.out];exact h.pick (by repeat (first | exact Pk.n | refine Pk.c (by repeat (first | exact Rm.z | apply Rm.s)) ?_))) fun z hz => ?_
   clear HK;obtain ⟨j, K, ao, cap, ps⟩ := z;obtain ⟨hj, hK, hps⟩ := hz
   replace hj : j <= s := hj
   replace hK : (D2 j).length = K := hK
   replace hps : ps.length = K := hps
   have HK := Lib.hid (And.intro hK hps);by_cases h : j < s
   · have h01 : (j : Int) < (s : Int) := by omega
     have hKm : K + n <= 100000000 := by
      have h1 := HM.out.2.1 (j + 1) h;rw [HM.out.2.2.2.2.2 j, hK, HN.out.1] at h1;omega
     clear hK hps;refine goW ?_;refine rW [] ?_;refine dB true ?_;refine eW ?_;refine goW ?_;refine ctW ?_;refine goW ?_;refine rW [] ?_;refine dW ?_;refine dW ?_;refine appL (L := L) (ao := ao) (k := K) (cap := cap) (cg := ca) (go := la) (ps := ps) (ys := nt f) (by rw [HN.out.1]; exact hKm) (fun w' H => H.m2) (hv := by rw [HN.out.1]; (simp only [evlN, Nat.reduceEqDiff, ↓reduceIte]) <;> rfl) fun q => ?_;rw [HN.out.1];refine moreW (e := .ia L (K + n) (ps ++ q.2.2) (nt (D2 (j + 1)))) (fun w' H => by
      have h1 := ia_next (n := n) HK.out.2 HK.out.1 (by rw [<- nt_length]; exact HN.out.1) (show q.2.2.length = (nt f).length from (show q.2.2.length = n from H.m0).trans HN.out.1.symm) H.m3 (fun i hi => H.m1 i (by rw [<- HN.out.1]; exact hi));rw [HN.out.1] at h1;show ∀ i', i' < K + n -> _;rw [HM.out.2.2.2.1 j]; exact h1) ?_
     refine moreW (e := .pr (q.2.2.length = n)) (fun w' H => H.m1) ?_;refine dW ?_;refine eW ?_;refine goW ?_;refine prW (A := q.2.2.length = n) (by simp) fun hq => ?_;have HQ := Lib.hid hq;clear hq;refine rW [] ?_;refine dE (incB (a := j) (by omega)) ?_;refine dW ?_;refine eW ?_;refine goW ?_;exact backW (⟨j + 1, K + n, q.1, q.2.1, ps ++ q.2.2⟩ : TnX) ⟨⟨h, by show (D2 (j + 1)).length = K + n; rw [HM.out.2.2.2.2.2 j, HK.out.1, HN.out.1], by show (ps ++ q.2.2).length = K + n; rw [List.length_append, HK.out.2, HQ.out]⟩, by show s - (j + 1) < s - j; omega⟩
   · obtain rfl : j = s := by omega
     obtain rfl : K = d1 := hK.symm.trans HL.out.2;clear hK hps;refine goW ?_;refine rW [] ?_;refine dB false ?_;refine eW ?_;refine goW ?_;refine cfW ?_;refine goW ?_;refine rW [] ?_;refine dW ?_;refine dW ?_;refine dE (mulI (a := i) (b := j) (by have := Nat.mul_le_mul hr hs; omega)) ?_;refine dW ?_;refine cLn (α := Option Addr × Nat) (mk := fun p => .slice p.1 d2 p.2) (ao := fun p => p.1) (xs := fun _ => nt (ab1 (D2 j))) (A := fun _ => True) (fun w' H => HC.out.2.2.2.1 w' ao cap (lst_lsAt H.m0 (by rw [nt_length]; exact HK.out.1) H.m1)) fun q => ?_;refine cLn (α := Nat) (mk := fun q => .slice (some ⟨q, 0, none⟩) d2 d2) (ao := fun q => some ⟨q, 0, none⟩) (xs := fun _ => nt (chProg (ab1 (D2 j)))) (A := fun _ => True) (fun w' H => HC.out.2.2.2.2.1 w' q.1 q.2 H.m0) fun t => ?_;refine cLn (α := Option Addr × Nat) (mk := fun p => .slice p.1 d3 p.2) (ao := fun p => p.1) (xs := fun _ => nt (nf (ab1 (D2 j)))) (A := fun p => d3 <= p.2) (fun w' H => HC.out.2.2.2.2.2 w' (some ⟨t, 0, none⟩) d2 H.m0) fun u => ?_;refine dW ?_;refine dW ?_;refine dW ?_;refine eW ?_;refine goW ?_;refine fin3 fun w' H => ?_;exact ⟨_, _, _, rvT, rvT, rvT, ⟨u, rfl, H.m0, (show d3 <= u.2 /\ _ from H.m1).1, (show d3 <= u.2 /\ _ from H.m1).2⟩, H.below⟩
end
theorem getD_lt {l : List Nat} {i : Nat} (h : i < l.length) : l.getD i 0 = l[i] := by simp [h]
set_option maxRecDepth 100000 in
set_option maxHeartbeats 1000000 in
theorem L22Of_c (n : Nat) (w : World) (h0 : n ≠ 0) (h : n < W) :
 Calls Tryz.prog 14 #[.int .u64 (n : Int)] w fun e w' => (∃ v', e = .returned v' /\ OwnI w' w.heap.size v' (n : Int)) /\ Below w.heap.size w w' := by
 refine funW (S0 := fun _ => False) Tryz.func14 (Fr.nil _ w) ?_;refine goW ?_;refine rW [] ?_;refine aW fun g2 => ?_;refine eW ?_;refine goW ?_;refine rW [] ?_;refine dW ?_;refine bW (m := 1) fun g4 => ?_;refine dW ?_;refine sW ?_;refine eW ?_;refine goW ?_;refine fin1 fun w' H => ?_;have hown := RowAt.own (ws := [n]) (B := w.heap.size) (n := 1) (cap := 1) H.m0 (Ok.one h) ((H.own _ (List.mem_cons_self ..) rfl _ rfl).elim (fun h => h.elim) id) (by simp) rfl (by unfold maxLen; omega);have h1 := OwnI.mk (m := n) false (by rw [wlenOne (by omega) h, digOne (by omega) h]; exact hown);rw [wlenOne (by omega) h] at h1;exact ⟨_, rvI H.m1, ⟨_, rfl, h1⟩, H.below⟩
set_option maxRecDepth 100000 in
set_option maxHeartbeats 1000000 in
theorem L22Div_c (v u : Value) (d a : Int) (w : World) (hA : IntAt w 17592186044415 v d) (hB : IntAt w 17592186044415 u a) (hd : d ≠ 0) :
 Calls Tryz.prog 17 #[v, u] w fun e w' => e = .returned (.bool (decide (d ∣ a))) /\ Below w.heap.size w w' := by
 have hw : wlen (a % d).natAbs <= 17592186044415 := Nat.le_trans (wlen_mono (show (a % d).natAbs <= d.natAbs by
  have h1 := Int.emod_nonneg a hd;have h2 := Int.emod_lt a hd;omega)) hA.wlen
 obtain ⟨p, rfl⟩ := hA.parts;obtain ⟨q, rfl⟩ := hB.parts;refine funW (S0 := fun _ => False) Tryz.func17 (((Fr.nil _ w).i hB).i hA) ?_;refine goW ?_;refine rW [] ?_;refine aW fun g2 => ?_;refine aW fun g3 => ?_;refine dW ?_;refine eW ?_;refine goW ?_;refine rW [] ?_;refine dW ?_;refine dW ?_;refine cN2 (x := a / d) (y := a % d) (fun w' H => IEuclid_c _ _ a d w' H.m3 H.m2 hd) fun p q => ?_;refine dW ?_;refine dW ?_;refine dW ?_;refine dW ?_;refine aW fun g5 => ?_;refine aW fun g6 => ?_;refine sG ?_;refine sG ?_;refine dW ?_;refine eW ?_;refine goW ?_;refine rW [] ?_;refine dW ?_;refine dB true ?_;refine dW ?_;refine dG ?_;refine cVg (v := .int .i64 (zsign (a % d))) (fun w' H => ISign_c _ _ w' (OwnI.int H.m3 hw)) ?_;by_cases h : d ∣ a
 · have hz : zsign (a % d) = 0 := zsign_zero.2 (Int.emod_eq_zero_of_dvd h);rw [hz];refine dGB true ?_;refine dW ?_;refine dW ?_;refine eW ?_;refine goW ?_;refine fin1 fun w' H => ?_;exact ⟨_, rvT, by rw [decide_eq_true h], H.below⟩
 · have hz : ¬ zsign (a % d) = 0 := fun q => h (Int.dvd_of_emod_eq_zero (zsign_zero.1 q));refine dGB false ?_;refine dW ?_;refine dW ?_;refine eW ?_;refine goW ?_;refine fin1 fun w' H => ?_;exact ⟨_, rvT, by rw [decide_eq_false h], H.below⟩
structure PrX where
 i : Nat
 pv : Nat
 pp : P4
structure PrJ (f : List Nat) (n : Nat) (z : PrX) : Prop where
 hi : z.i <= n
 hp : z.pv = prodL (f.take z.i)
set_option maxRecDepth 100000 in
set_option maxHeartbeats 1000000 in
theorem L22Prod_c (la : Option Addr) (ca L : Nat) (f : List Nat) (w : World) (hA : LsAt w L la (nt f)) (hL : L <= 67108865) (hf : f.length <= 12288) :
 Calls Tryz.prog 12 #[.slice la f.length ca] w fun e w' => (∃ v', e = .returned v' /\ OwnI w' w.heap.size v' ((prodL f : Nat) : Int)) /\ Below w.heap.size w w' := by
 obtain ⟨n, hnn⟩ : ∃ n, f.length = n := ⟨_, rfl⟩;have hfb := lt_ofNt hA;have hpb : ∀ i, i <= n -> wlen (prodL (f.take i)) <= 824633733121 := fun i hi => Nat.le_trans (prodL_wlen (B := L) (n := n) hfb hi) (Nat.le_trans (Nat.add_le_add_right (Nat.mul_le_mul hL (hnn ▸ hf)) 1) (by decide));have hst : ∀ i, i < n -> gi (nt f) i = ((f.getD i 0 : Nat) : Int) := fun i hi => by
  rw [gi_eq (by rw [nt_length]; omega)]; simp [nt, show i < f.length by omega]
 have hsu : ∀ i, i < n -> prodL (f.take (i + 1)) = prodL (f.take i) * f.getD i 0 := fun i hi => prodL_take (by omega);have HF := Lib.hid (And.intro hpb (And.intro hst (And.intro hsu (And.intro (show (nt f).length = n by rw [nt_length]; exact hnn) (show f.take n = f from List.take_of_length_le (by omega))))));rw [hnn] at hf ⊢;clear hnn hfb hpb hst hsu;refine funW (S0 := fun _ => False) Tryz.func12 ((Fr.nil _ w).l hA (by simp)) ?_;refine goW ?_;refine rW [] ?_;refine aW fun g2 => ?_;refine eW ?_;refine goW ?_;refine rW [] ?_;refine cN (x := ((1 : Nat) : Int)) (fun w' H => IOf_c 1 w' (by omega) (by omega)) fun pp => ?_;refine aW fun g3 => ?_;refine sG ?_;refine eW ?_;refine goW ?_;refine rW [] ?_;refine dW ?_;refine eW ?_;refine goW ?_;refine loopW (X := PrX) (PrJ f n) (fun z => n - z.i) (fun z => [(4, .int .i64 (z.i : Int)), (0, .slice la n ca), (3, .pointer (some ⟨g3, 0, none⟩)), (2, .pointer (some ⟨g2, 0, none⟩))]) (fun z => [.row g3 37 [.bool z.pp.1, .slice z.pp.2.1 z.pp.2.2.1 z.pp.2.2.2], .own w.heap.size (av z.pp) ((z.pv : Nat) : Int), .row g2 37 [.bool false, .slice none 0 0], .ls L la (nt f)]) ⟨0, 1, pp⟩ ⟨Nat.zero_le _, rfl⟩ fun z hz => ?_;obtain ⟨i, pv, pp⟩ := z;obtain ⟨hi, hp⟩ := hz
 replace hi : i <= n := hi
 replace hp : pv = prodL (f.take i) := hp
 have hpw : wlen pv <= 824633733121 := by rw [hp]; exact HF.out.1 i hi
 by_cases h : i < n
 · obtain ⟨bx, ox, rfl⟩ := hA.pos (i := i) (by rw [HF.out.2.2.2.1]; exact h);have h01 : (i : Int) < (n : Int) := by omega
   have HT : Hid (pv * f.getD i 0 = prodL (f.take (i + 1))) := Lib.hid (by rw [HF.out.2.2.1 i h, hp]);clear hp;refine goW ?_;refine rW [] ?_;refine dW ?_;refine dW ?_;refine dW ?_;refine dB true ?_;refine eW ?_;refine goW ?_;refine numW (L := L) (xs := nt f) (b := bx) (o := ox) i (by simp) (by rw [HF.out.2.2.2.1]; exact h) fun p => ?_;refine ctW ?_;refine goW ?_;refine rW [] ?_;refine dW ?_;refine dW ?_;refine dW ?_;refine dW ?_;refine dW ?_;refine cN (x := ((pv * f.getD i 0 : Nat) : Int)) (fun w' H => by have := IMul_c (av pp) (av p) pv (gi (nt f) i) 824633733121 L w' (OwnI.int H.m4 hpw) H.m2 (by omega); rw [HF.out.2.1 i h] at this; rw [Int.natCast_mul]; exact this) fun q => ?_;refine sW ?_;refine eW ?_;refine goW ?_;refine rW [] ?_;refine dW ?_;refine dE (incB (a := i) (by omega)) ?_;refine dW ?_;refine eW ?_;refine goW ?_;exact backW (⟨i + 1, pv * f.getD i 0, q⟩ : PrX) ⟨⟨h, HT.out⟩, by show n - (i + 1) < n - i; omega⟩
 · obtain rfl : i = n := by omega
   have HT : Hid (pv = prodL f) := Lib.hid (by rw [hp, HF.out.2.2.2.2]);clear hp;refine goW ?_;refine rW [] ?_;refine dW ?_;refine dW ?_;refine dW ?_;refine dB false ?_;refine eW ?_;refine goW ?_;refine cfW ?_;refine goW ?_;refine rW [] ?_;refine dW ?_;refine sW ?_;refine eW ?_;refine goW ?_;refine fin1 fun w' H => ?_;exact ⟨_, rvI H.m2, ⟨_, rfl, by rw [<- HT.out]; exact H.m1⟩, H.below⟩
set_option maxRecDepth 100000 in
set_option maxHeartbeats 1000000 in
theorem L22Chain_c (la : Option Addr) (ca L : Nat) (f : List Nat) (w : World) (hA : LsAt w L la (nt f)) (hL : L <= 17592186044415) (hf : f.length <= 8796093022208) (hc : Chn f) (hg : ∀ x ∈ f, 1 < x) :
 Calls Tryz.prog 9 #[.slice la f.length ca] w fun e w' => e = .returned (.bool true) /\ Below w.heap.size w w' := by
 obtain ⟨n, hnn⟩ : ∃ n, f.length = n := ⟨_, rfl⟩;have hst : ∀ i, i < n -> gi (nt f) i = ((f.getD i 0 : Nat) : Int) := fun i hi => by
  rw [gi_eq (by rw [nt_length]; omega)]; simp [nt, show i < f.length by omega]
 have h1 : ∀ i, i < n -> 1 < gi (nt f) i := fun i hi => by
  have := hg (f.getD i 0) (by rw [getD_lt (by omega)]; exact List.getElem_mem _);rw [hst i hi]; omega
 have h2 : ∀ i, i + 1 < n -> gi (nt f) i ∣ gi (nt f) (i + 1) := fun i hi => by
  rw [hst i (by omega), hst (i + 1) hi]; exact Int.natCast_dvd_natCast.2 (hc.get (by omega))
 have HF := Lib.hid (And.intro h1 (And.intro h2 (show (nt f).length = n by rw [nt_length]; exact hnn)));rw [hnn] at hf ⊢;clear hnn hst h1 h2 hc hg;refine funW (S0 := fun _ => False) Tryz.func9 ((Fr.nil _ w).l hA (by simp)) ?_;refine goW ?_;refine rW [] ?_;refine dW ?_;refine eW ?_;refine goW ?_;refine rW [] ?_;refine dW ?_;refine eW ?_;refine goW ?_;refine loopW (X := Nat) (fun i => i <= n) (fun i => n - i) (fun i => [(3, .int .i64 (i : Int)), (0, .slice la n ca)]) (fun _ => [.ls L la (nt f)]) 0 (Nat.zero_le _) fun i hi => ?_;by_cases h : i < n
 · obtain ⟨bx, ox, rfl⟩ := hA.pos (i := i) (by rw [HF.out.2.2]; exact h);have h01 : (i : Int) < (n : Int) := by omega
   have hz1 := HF.out.1 i h;have ez : zcmp (gi (nt f) i) 1 = 1 := by unfold zcmp; rw [if_neg (by omega), if_neg (by omega)]
   refine goW ?_;refine rW [] ?_;refine dW ?_;refine dW ?_;refine dW ?_;refine dB true ?_;refine eW ?_;refine goW ?_;refine numW (L := L) (xs := nt f) (b := bx) (o := ox) i (by simp) (by rw [HF.out.2.2]; exact h) fun p => ?_;refine ctW ?_;refine goW ?_;refine rW [] ?_;refine dW ?_;refine dW ?_;refine dW ?_;refine dW ?_;refine cN (x := 1) (fun w' H => IOf_c 1 w' (by omega) (by omega)) fun p14 => ?_;refine cV (v := .int .i64 1) (fun w' H => by have := ICmp_c _ _ (gi (nt f) i) 1 w' (H.m3.mono hL) (OwnI.int H.m0 one_w); rw [ez] at this; exact this) ?_;refine dB false ?_;by_cases h0 : 0 < i
   · obtain ⟨k, hk⟩ : ∃ k, i - 1 = k := ⟨_, rfl⟩;have HK := Lib.hid hk;have hki : k + 1 = i := by omega
     have h0' : (0 : Int) < (i : Int) := by omega
     have hkn : (k : Int) < (n : Int) := by omega
     have hne : gi (nt f) k ≠ 0 := by have := HF.out.1 k (by omega); omega
     have hdv := HF.out.2.1 k (by omega);rw [hki] at hdv;have HD := Lib.hid hdv;have HKI := Lib.hid hki;clear hk hdv hki;refine eW ?_;refine goW ?_;refine numW (L := L) (xs := nt f) (b := bx) (o := ox) k (by simp) (by rw [HF.out.2.2]; omega) fun q => ?_;refine cfW ?_;refine goW ?_;refine rW [] ?_;refine dW ?_;refine dB true ?_;refine dW ?_;refine dG ?_;refine dG ?_;refine dGE (sub1I (a := i) (by omega) (by omega)) ?_;rw [HK.out];refine dG ?_;refine dG ?_;refine dG ?_;refine dG ?_;refine dG ?_;refine dG ?_;refine cVg (v := .bool true) (fun w' H => by have := L22Div_c (av q) (av p) (gi (nt f) k) (gi (nt f) i) w' (H.m2.mono hL) ((H.all (.at L (av p) (gi (nt f) i)) (by simp) : IntAt ..).mono hL) hne; rw [decide_eq_true HD.out] at this; exact this) ?_;refine dG ?_;refine dW ?_;refine eW ?_;refine goW ?_;refine cfW ?_;refine goW ?_;refine rW [] ?_;refine dW ?_;refine dE (incB (a := i) (by omega)) ?_;refine dW ?_;refine eW ?_;refine goW ?_;exact backW (i + 1) ⟨h, by show n - (i + 1) < n - i; omega⟩
   · have h0' : ¬ (0 : Int) < (i : Int) := by omega
     refine eW ?_;refine goW ?_;refine cfW ?_;refine goW ?_;refine rW [] ?_;refine dW ?_;refine dB false ?_;refine dW ?_;refine uG ?_;refine uG ?_;refine uG ?_;refine uG ?_;refine uG ?_;refine uG ?_;refine uG ?_;refine uG ?_;refine uG ?_;refine uC ?_;refine uG ?_;refine dW ?_;refine eW ?_;refine goW ?_;refine cfW ?_;refine goW ?_;refine rW [] ?_;refine dW ?_;refine dE (incB (a := i) (by omega)) ?_;refine dW ?_;refine eW ?_;refine goW ?_;exact backW (i + 1) ⟨h, by show n - (i + 1) < n - i; omega⟩
 · obtain rfl : i = n := by omega
   refine goW ?_;refine rW [] ?_;refine dW ?_;refine dW ?_;refine dW ?_;refine dB false ?_;refine eW ?_;refine goW ?_;refine cfW ?_;refine goW ?_;refine rW [] ?_;refine dW ?_;refine eW ?_;refine goW ?_;refine fin1 fun w' H => ?_;exact ⟨_, rvT, rfl, H.below⟩
set_option maxRecDepth 100000 in
set_option maxHeartbeats 1000000 in
theorem L22Sound_c (r : Int) (la : Option Addr) (ca L : Nat) (xs : List Int) (w : World) (hA : LsAt w L la xs) (hL : L <= 17592186044415) (hn : xs.length <= 8796093022208) :
 Calls Tryz.prog 8 #[.int .i64 r, .slice la xs.length ca] w fun e w' => e = .returned (.bool (fitB r xs)) /\ Below w.heap.size w w' := by
 obtain ⟨R, hR⟩ : ∃ R, fitB r xs = R := ⟨_, rfl⟩;rw [hR];unfold fitB at hR;obtain ⟨n, hnn⟩ : ∃ n, xs.length = n := ⟨_, rfl⟩;rw [hnn] at hn hR ⊢;have HR := Lib.hid hR;have HN := Lib.hid hnn;clear hnn hR;refine funW (S0 := fun _ => False) Tryz.func8 ((Fr.nil _ w).l hA (by simp)) ?_;by_cases h0 : r < 0
 · refine goW ?_;refine rW [] ?_;refine dW ?_;refine eW ?_;refine goW ?_;refine rW [] ?_;refine dW ?_;refine dB true ?_;refine dW ?_;refine uG ?_;refine uG ?_;refine dW ?_;refine dW ?_;refine uG ?_;refine uG ?_;refine uG ?_;refine dW ?_;refine eW ?_;refine goW ?_;refine ctW ?_;refine goW ?_;refine rW [] ?_;refine dW ?_;refine eW ?_;refine goW ?_;refine fin1 fun w' H => ?_;exact ⟨_, rvT, by rw [<- HR.out, decide_eq_false (fun q => by omega)]; rfl, H.below⟩
 · refine goW ?_;refine rW [] ?_;refine dW ?_;refine eW ?_;refine goW ?_;refine rW [] ?_;refine dW ?_;refine dB false ?_;by_cases h1 : 64 < r
   · refine dW ?_;refine dG ?_;refine dGB true ?_;refine dW ?_;refine dW ?_;refine uG ?_;refine uG ?_;refine uG ?_;refine dW ?_;refine eW ?_;refine goW ?_;refine ctW ?_;refine goW ?_;refine rW [] ?_;refine dW ?_;refine eW ?_;refine goW ?_;refine fin1 fun w' H => ?_;exact ⟨_, rvT, by rw [<- HR.out, decide_eq_false (fun q => by omega)]; rfl, H.below⟩
   · refine dW ?_;refine dG ?_;refine dGB false ?_;by_cases h2 : 64 < n
     · have h2' : (64 : Int) < (n : Int) := by omega
       refine dW ?_;refine dW ?_;refine dG ?_;refine dG ?_;refine dGB true ?_;refine dW ?_;refine eW ?_;refine goW ?_;refine ctW ?_;refine goW ?_;refine rW [] ?_;refine dW ?_;refine eW ?_;refine goW ?_;refine fin1 fun w' H => ?_;exact ⟨_, rvT, by rw [<- HR.out, decide_eq_false (fun q => by omega)]; rfl, H.below⟩
     · have h2' : ¬ (64 : Int) < (n : Int) := by omega
       have HD := Lib.hid (show decide (0 <= r /\ r <= 64 /\ n <= 64) = true from decide_eq_true ⟨by omega, by omega, by omega⟩);refine dW ?_;refine dW ?_;refine dG ?_;refine dG ?_;refine dGB false ?_;refine dW ?_;refine eW ?_;refine goW ?_;refine cfW ?_;refine goW ?_;refine rW [] ?_;refine dW ?_;refine eW ?_;refine goW ?_;refine loopW (X := Nat) (fun i => i <= n /\ (xs.take i).all (fun x => decide (0 < x)) = true) (fun i => n - i) (fun i => [(5, .int .i64 (i : Int)), (1, .slice la n ca)]) (fun _ => [.ls L la xs]) 0 ⟨Nat.zero_le _, by simp⟩ fun i hx => ?_;obtain ⟨hi, hb⟩ := hx;have HB := Lib.hid hb;clear hb;by_cases h : i < n
       · obtain ⟨bx, ox, rfl⟩ := hA.pos (i := i) (by rw [HN.out]; exact h);have h01 : (i : Int) < (n : Int) := by omega
         have HT := Lib.hid (all_take (p := fun x => decide (0 < x)) (xs := xs) (i := i) (by rw [HN.out]; exact h));refine goW ?_;refine rW [] ?_;refine dW ?_;refine dW ?_;refine dW ?_;refine dB true ?_;refine eW ?_;refine goW ?_;refine numW (L := L) (xs := xs) (b := bx) (o := ox) i (by simp) (by rw [HN.out]; exact h) fun p => ?_;refine ctW ?_;refine goW ?_;refine rW [] ?_;refine dW ?_;refine dW ?_;refine dW ?_;refine dW ?_;refine cV (v := .int .i64 (zsign (gi xs i))) (fun w' H => ISign_c _ _ w' (H.m2.mono hL)) ?_;by_cases hp : 0 < gi xs i
         · have hs : ¬ zsign (gi xs i) <= 0 := by unfold zsign; rw [if_neg (by omega), if_neg (by omega)]; decide
           refine dB false ?_;refine eW ?_;refine goW ?_;refine cfW ?_;refine goW ?_;refine rW [] ?_;refine dW ?_;refine dE (incB (a := i) (by omega)) ?_;refine dW ?_;refine eW ?_;refine goW ?_;exact backW (i + 1) ⟨⟨h, by rw [HT.out, HB.out, decide_eq_true hp]; rfl⟩, by show n - (i + 1) < n - i; omega⟩
         · have hs : zsign (gi xs i) <= 0 := by unfold zsign; split; omega; split <;> omega
           refine dB true ?_;refine eW ?_;refine goW ?_;refine ctW ?_;refine goW ?_;refine rW [] ?_;refine dW ?_;refine eW ?_;refine goW ?_;refine fin1 fun w' H => ?_;have hall : xs.all (fun x => decide (0 < x)) = false := Bool.eq_false_iff.2 fun q => hp (of_decide_eq_true (List.all_eq_true.1 q _ (gi_mem (by rw [HN.out]; exact h))));exact ⟨_, rvT, by rw [<- HR.out, HD.out, hall]; rfl, H.below⟩
       · obtain rfl : i = n := by omega
         refine goW ?_;refine rW [] ?_;refine dW ?_;refine dW ?_;refine dW ?_;refine dB false ?_;refine eW ?_;refine goW ?_;refine cfW ?_;refine goW ?_;refine rW [] ?_;refine dW ?_;refine eW ?_;refine goW ?_;refine fin1 fun w' H => ?_;have hall := HB.out;rw [List.take_of_length_le (by rw [HN.out]; exact Nat.le_refl _)] at hall;exact ⟨_, rvT, by rw [<- HR.out, HD.out, hall]; rfl, H.below⟩
set_option maxRecDepth 100000 in
set_option maxHeartbeats 1000000 in
theorem RSameInt_c (v u : Value) (x y : Int) (w : World) (h1 : NumAt w v x) (h2 : NumAt w u y) (hx : wlen x.natAbs <= 17592186044415) (hy : wlen y.natAbs <= 17592186044415) :
 Calls Tryz.prog 23 #[v, u] w fun e w' => e = .returned (.bool (decide (x = y))) /\ Below w.heap.size w w' := by
 obtain ⟨ao1, cap1, rfl, hW1, _⟩ := h1.least;obtain ⟨ao2, cap2, rfl, hW2, _⟩ := h2.least;have hAL := alike_bool x y;obtain ⟨n1, hn1⟩ : ∃ n1, decide (x < 0) = n1 := ⟨_, rfl⟩;obtain ⟨n2, hn2⟩ : ∃ n2, decide (y < 0) = n2 := ⟨_, rfl⟩;obtain ⟨m, hm⟩ : ∃ m, decide (dig x.natAbs = dig y.natAbs) = m := ⟨_, rfl⟩;have hS := fun w' => RSame_c ao1 ao2 (wlen x.natAbs) cap1 (wlen y.natAbs) cap2 (dig x.natAbs) (dig y.natAbs) w';simp only [hm] at hS;obtain ⟨r, hr⟩ : ∃ r, decide (x = y) = r := ⟨_, rfl⟩;rw [hn1, hn2, hm, hr] at hAL;rw [hn1, hn2, hr];refine funW (S0 := fun _ => False) Tryz.func23 (Fr.nil _ w) ?_;refine goW ?_;refine rW [] ?_;refine aW fun g2 => ?_;refine aW fun g3 => ?_;refine dW ?_;refine eW ?_;refine goW ?_;refine rW [] ?_;refine dW ?_;refine dW ?_;refine dW ?_;refine dW ?_;clear hn1 hn2 hm hr;by_cases e : n1 = n2
 · subst e;have hAL : m = r := by simpa using hAL
   subst hAL;refine dB true ?_;refine dW ?_;refine dG ?_;refine dG ?_;refine dG ?_;refine dG ?_;refine cVg (fun w' H => hS w' (hW1.below H.below) (hW2.below H.below) rfl rfl hx hy) ?_;refine dW ?_;refine dW ?_;refine eW ?_;refine goW ?_;refine fin1 fun w' H => ?_;exact ⟨_, rvT, rfl, H.below⟩
 · have hr : r = false := by rw [<- hAL]; cases n1 <;> cases n2 <;> simp_all
   subst hr;refine dB false ?_;refine dW ?_;refine uG ?_;refine uG ?_;refine uG ?_;refine uG ?_;refine uC ?_;refine dW ?_;refine dW ?_;refine eW ?_;refine goW ?_;refine fin1 fun w' H => ?_;exact ⟨_, rvT, rfl, H.below⟩
set_option maxRecDepth 100000 in
set_option maxHeartbeats 2000000 in
theorem RSameRow_c (aoA aoB : Option Addr) (cA cB : Nat) (xs ys : List Int) (w : World) (hA : LsN w aoA xs) (hB : LsN w aoB ys) (hmA : xs.length <= 8796093022208) (hmB : ys.length <= 8796093022208)
 (hx : ∀ x ∈ xs, wlen x.natAbs <= 17592186044415) (hy : ∀ x ∈ ys, wlen x.natAbs <= 17592186044415) :
 Calls Tryz.prog 10 #[.slice aoA xs.length cA, .slice aoB ys.length cB] w fun e w' => e = .returned (.bool (decide (xs = ys))) /\ Below w.heap.size w w' := by
 refine funW (S0 := fun _ => False) Tryz.func10 (((Fr.nil _ w).ln hA (by simp)).ln hB (by simp [En.wr, En.lsn])) ?_;refine goW ?_;refine rW [] ?_;refine dW ?_;refine eW ?_;refine goW ?_;refine rW [] ?_;refine dW ?_;refine dW ?_;refine dW ?_;refine dW ?_;by_cases hs : xs.length = ys.length
 · have HS := Lib.hid hs;have hne : ((xs.length : Int) != (ys.length : Int)) = false := by rw [hs]; simp
   clear hs;refine dB false ?_;refine eW ?_;refine goW ?_;refine cfW ?_;refine goW ?_;refine rW [] ?_;refine dW ?_;refine eW ?_;refine goW ?_;refine loopW (X := Nat) (fun i => i <= xs.length /\ ∀ k, k < i -> gi xs k = gi ys k) (fun i => xs.length - i) (fun i => [(5, .int .i64 (i : Int)), (0, .slice aoA xs.length cA), (1, .slice aoB ys.length cB)]) (fun _ => [.lsn aoB ys, .lsn aoA xs]) 0 ⟨Nat.zero_le _, fun k h => absurd h (Nat.not_lt_zero k)⟩ fun i hz => ?_;obtain ⟨hi, hag⟩ := hz;by_cases h : i < xs.length
   · have h' : i < ys.length := by have := HS.out; omega
     obtain ⟨bx, ox, rfl⟩ := hA.pos h;obtain ⟨b_, oy, rfl⟩ := hB.pos h';have HX := Lib.hid (hx _ (gi_mem h));have HY := Lib.hid (hy _ (gi_mem h'));have HH := Lib.hid h;refine goW ?_;refine rW [] ?_;refine dW ?_;refine dW ?_;refine dW ?_;refine dB true ?_;refine eW ?_;refine goW ?_;refine ctW ?_;refine numNW (xs := xs) (b := bx) (o := ox) i (by simp) h fun p => ?_;refine numNW (xs := ys) (b := b_) (o := oy) i (by simp) h' fun q => ?_;refine goW ?_;refine rW [] ?_;refine dW ?_;refine dW ?_;refine dW ?_;refine dW ?_;refine dW ?_;refine dW ?_;refine dW ?_;refine dW ?_;refine cV (fun w' H => RSameInt_c (av p) (av q) _ _ w' H.m5 H.m2 HX.out HY.out) ?_;by_cases e : gi xs i = gi ys i
     · have HE := Lib.hid e;rw [decide_eq_true e];clear e;refine dW ?_;refine eW ?_;refine goW ?_;refine cfW ?_;refine goW ?_;refine rW [] ?_;refine dW ?_;refine dE (incB (a := i) (by omega)) ?_;refine dW ?_;refine eW ?_;refine goW ?_;exact backW (i + 1) ⟨⟨h, fun k hk => by
        by_cases e : k = i
        · subst e; exact HE.out
        · exact hag k (by omega)⟩, by omega⟩
     · have hd : decide (xs = ys) = false := by
        rw [decide_eq_false_iff_not]; intro h; exact e (by rw [h])
       rw [decide_eq_false e, hd];refine dW ?_;refine eW ?_;refine goW ?_;refine ctW ?_;refine goW ?_;refine rW [] ?_;refine dW ?_;refine eW ?_;refine goW ?_;refine fin1 fun w' H => ?_;exact ⟨_, rvT, rfl, H.below⟩
   · obtain rfl : i = xs.length := by omega
     have hd : decide (xs = ys) = true := by
      rw [decide_eq_true_iff];refine List.ext_getElem HS.out fun j h1 h2 => ?_;have := hag j h1
      rwa [gi_eq h1, gi_eq h2] at this
     rw [hd];refine goW ?_;refine rW [] ?_;refine dW ?_;refine dW ?_;refine dW ?_;refine dB false ?_;refine eW ?_;refine goW ?_;refine cfW ?_;refine goW ?_;refine rW [] ?_;refine dW ?_;refine eW ?_;refine goW ?_;refine fin1 fun w' H => ?_;exact ⟨_, rvT, rfl, H.below⟩
 · have hne : ((xs.length : Int) != (ys.length : Int)) = true := by rw [bne_iff_ne]; omega
   have hd : decide (xs = ys) = false := by
    rw [decide_eq_false_iff_not]; intro h; exact hs (by rw [h])
   rw [hd];clear hs;refine dB true ?_;refine eW ?_;refine goW ?_;refine ctW ?_;refine goW ?_;refine rW [] ?_;refine dW ?_;refine eW ?_;refine goW ?_;refine fin1 fun w' H => ?_;exact ⟨_, rvT, rfl, H.below⟩
section
variable {P : Program} {ops : Array Oper} {Q : Exit -> Act -> World -> Prop} {S0 : Nat -> Prop} {w0 : World} {E0 : List En} {n j s sg g : Nat} {l : List Nat} {G E : List En} {ls : List (Nat × Value)} {op : Op} {ty : TypeId} {pos : String} {af : Array Edge} {v v' : Value} {want : Bool}
theorem dgE (hv : v' = v) (k : RWs ⟨P, ops, Q, S0, w0, E0, []⟩ n l G E ((s, v) :: ls))
 (ho : ops[j]? = some ⟨some s, op, ty, pos, af, some (g, want)⟩ := by rfl) (hk : (isDet op && chkO ls op && Nat.blt s n) = true := by kernel_rfl)
 (hg : (ops[g]?).bind (·.dst) = some sg := by rfl) (hi : inLs ls (.tmp sg) = true := by kernel_rfl) (hb : evl ls (.tmp sg) = .bool want := by (simp only [evlN, Nat.reduceEqDiff, ↓reduceIte]) <;> first | rfl | simp [*])
 (hr : ∀ w, (isLd op = true -> Fr S0 w0 w E0) -> (execOp (evl ls) ⟨some s, op, ty, pos, af, some (g, want)⟩).run P w = .ok (.value v') w := by intro w H; (first | (have c := (H rfl).c; try simp only [celN, cl, List.cons_append, List.nil_append] at c) | skip); clear H; go_simp <;> with_reducible rfl) : RWs ⟨P, ops, Q, S0, w0, E0, []⟩ n (j :: l) G E ls :=
 dG k ho hk hg hi hb (by rw [<- hv]; exact hr)
end
theorem remU {a b : Nat} : Value.int .u64 (Int.tmod (a : Int) (b : Int)) = .int .u64 ((a % b : Nat) : Int) := by
 rw [<- Int.ofNat_tmod]
theorem mulU {a b : Nat} (h : a * b < W) : Value.int .u64 (IntKind.u64.wrap ((a : Int) * b)) = .int .u64 ((a * b : Nat) : Int) := by
 rw [<- Int.natCast_mul]; exact u64I h
theorem addU {a b : Nat} (h : a + b < W) : Value.int .u64 (IntKind.u64.wrap ((a : Int) + b)) = .int .u64 ((a + b : Nat) : Int) := by
 rw [<- Int.natCast_add]; exact u64I h
structure PrI (n d : Nat) : Prop where
 six : d % 6 = 5
 none : ∀ e, 2 <= e -> e < d -> ¬ e ∣ n
 small : d <= 46353
theorem sq_small {n d : Nat} (hn : n < 2147483648) (h : d * d <= n) : d < 46347 := by
 refine Classical.byContradiction fun hc => ?_;have := Nat.mul_le_mul (show 46347 <= d by omega) (show 46347 <= d by omega);omega
set_option maxRecDepth 100000 in
set_option maxHeartbeats 1000000 in
theorem MPrime_c (n : Nat) (w : World) (hn : n < W) :
 Calls Tryz.prog 15 #[.int .u64 (n : Int)] w fun e w' => (∃ (b : Bool) (c : Nat), e = .returned (.tuple #[.bool b, .int .i64 (c : Int)]) /\ (b = true -> c = 0 -> n < 2147483648 /\ IsPr n)) /\ Below w.heap.size w w' := by
 refine funW (S0 := fun _ => False) Tryz.func15 (Fr.nil _ w) ?_;refine goW ?_;refine rW [] ?_;refine dW ?_;refine dW ?_;refine eW ?_;refine goW ?_;refine rW [] ?_;refine dW ?_;by_cases h31 : 2147483648 <= n
 · have h31' : (2147483648 : Int) <= (n : Int) := by omega
   refine dB true ?_;refine eW ?_;refine goW ?_;refine ctW ?_;refine goW ?_;refine rW [] ?_;refine dW ?_;refine dW ?_;refine eW ?_;refine goW ?_;refine fin2 fun w' H => ?_;exact ⟨_, _, rvT, rvT, ⟨false, 5, rfl, fun h => by cases h⟩, H.below⟩
 have h31' : ¬ (2147483648 : Int) <= (n : Int) := by omega
 refine dB false ?_;refine eW ?_;refine goW ?_;refine cfW ?_;refine goW ?_;refine rW [] ?_;refine dW ?_;by_cases h4 : n < 4
 · have h4' : (n : Int) < 4 := by omega
   refine dB true ?_;refine eW ?_;refine goW ?_;refine ctW ?_;refine goW ?_;refine rW [] ?_;refine dW ?_;by_cases h2 : 2 <= n
   · have h2' : (2 : Int) <= (n : Int) := by omega
     refine dB true ?_;refine dW ?_;refine dW ?_;refine eW ?_;refine goW ?_;refine fin2 fun w' H => ?_;exact ⟨_, _, rvT, rvT, ⟨true, 0, rfl, fun _ _ => ⟨by omega, pr_small h2 h4⟩⟩, H.below⟩
   · have h2' : ¬ (2 : Int) <= (n : Int) := by omega
     refine dB false ?_;refine dW ?_;refine dW ?_;refine eW ?_;refine goW ?_;refine fin2 fun w' H => ?_;exact ⟨_, _, rvT, rvT, ⟨false, 0, rfl, fun h => by cases h⟩, H.below⟩
 have h4' : ¬ (n : Int) < 4 := by omega
 refine dB false ?_;refine eW ?_;refine goW ?_;refine cfW ?_;refine goW ?_;refine rW [] ?_;refine dW ?_;refine dE (remU (a := n) (b := 2)) ?_;by_cases h2 : 2 ∣ n
 · have h2' : ((n % 2 : Nat) : Int) = 0 := by omega
   refine dB true ?_;refine dW ?_;refine uG ?_;refine uG ?_;refine uG ?_;refine dW ?_;refine eW ?_;refine goW ?_;refine ctW ?_;refine goW ?_;refine rW [] ?_;refine dW ?_;refine dW ?_;refine eW ?_;refine goW ?_;refine fin2 fun w' H => ?_;exact ⟨_, _, rvT, rvT, ⟨false, 0, rfl, fun h => by cases h⟩, H.below⟩
 have h2' : ¬ ((n % 2 : Nat) : Int) = 0 := by omega
 refine dB false ?_;refine dW ?_;refine dG ?_;refine dgE (remU (a := n) (b := 3)) ?_;by_cases h3 : 3 ∣ n
 · have h3' : ((n % 3 : Nat) : Int) = 0 := by omega
   refine dGB true ?_;refine dW ?_;refine eW ?_;refine goW ?_;refine ctW ?_;refine goW ?_;refine rW [] ?_;refine dW ?_;refine dW ?_;refine eW ?_;refine goW ?_;refine fin2 fun w' H => ?_;exact ⟨_, _, rvT, rvT, ⟨false, 0, rfl, fun h => by cases h⟩, H.below⟩
 have h3' : ¬ ((n % 3 : Nat) : Int) = 0 := by omega
 refine dGB false ?_;refine dW ?_;refine eW ?_;refine goW ?_;refine cfW ?_;clear h2' h3' h4' h31';refine goW ?_;refine rW [] ?_;refine dW ?_;refine eW ?_;refine goW ?_;refine loopW (X := Nat) (PrI n) (fun d => 46360 - d) (fun d => [(4, .int .u64 (d : Int)), (0, .int .u64 (n : Int))]) (fun _ => []) 5 ⟨by decide, pr_start h2 h3, by omega⟩ fun d hd => ?_;have hW : d * d < W := by
  have := Nat.mul_le_mul hd.small hd.small;unfold W; omega
 have h6 := hd.six;have hle := hd.small;refine goW ?_;refine rW [] ?_;refine dW ?_;refine dW ?_;refine dE (mulU (a := d) (b := d) hW) ?_;refine dW ?_;by_cases hs : d * d <= n
 · have hs' : ((d * d : Nat) : Int) <= (n : Int) := Int.ofNat_le.2 hs;have hd7 := sq_small (by omega) hs;refine dB true ?_;refine eW ?_;refine goW ?_;refine ctW ?_;clear hs' hW;have hdz : ¬ (d : Int) = 0 := by omega
   refine goW ?_;refine rW [] ?_;refine dW ?_;refine dW ?_;refine dE (remU (a := n) (b := d)) ?_ (hr := by intro w H; clear H; go_simp <;> first | with_reducible rfl | omega);by_cases ha : d ∣ n
   · have ha' : ((n % d : Nat) : Int) = 0 := by rw [Nat.mod_eq_zero_of_dvd ha]; rfl
     refine dB true ?_;refine dW ?_;refine uG ?_;refine uG ?_;refine uG ?_;refine uG ?_;refine uG ?_;refine dW ?_;refine eW ?_;refine goW ?_;refine ctW ?_;refine goW ?_;refine rW [] ?_;refine dW ?_;refine dW ?_;refine eW ?_;refine goW ?_;refine fin2 fun w' H => ?_;exact ⟨_, _, rvT, rvT, ⟨false, 0, rfl, fun h => by cases h⟩, H.below⟩
   have ha' : ¬ ((n % d : Nat) : Int) = 0 := fun h => ha (Nat.dvd_of_mod_eq_zero (Int.ofNat_eq_zero.1 h));refine dB false ?_;refine dW ?_;refine dG ?_;refine dG ?_;refine dgE (addU (a := d) (b := 2) (by unfold W; omega)) ?_;have hdz2 : ¬ ((d + 2 : Nat) : Int) = 0 := by omega
   refine dgE (remU (a := n) (b := d + 2)) ?_ (hr := by intro w H; clear H; go_simp <;> first | with_reducible rfl | omega);by_cases hb : (d + 2) ∣ n
   · have hb' : ((n % (d + 2) : Nat) : Int) = 0 := by rw [Nat.mod_eq_zero_of_dvd hb]; rfl
     refine dGB true ?_;refine dW ?_;refine eW ?_;refine goW ?_;refine ctW ?_;refine goW ?_;refine rW [] ?_;refine dW ?_;refine dW ?_;refine eW ?_;refine goW ?_;refine fin2 fun w' H => ?_;exact ⟨_, _, rvT, rvT, ⟨false, 0, rfl, fun h => by cases h⟩, H.below⟩
   have hb' : ¬ ((n % (d + 2) : Nat) : Int) = 0 := fun h => hb (Nat.dvd_of_mod_eq_zero (Int.ofNat_eq_zero.1 h));obtain ⟨r, hr⟩ : ∃ r, n % (d + 2) = r := ⟨_, rfl⟩;rw [hr] at hb' ⊢;clear hr;refine dGB false ?_;refine dW ?_;refine eW ?_;refine goW ?_;refine cfW ?_;refine goW ?_;refine rW [] ?_;refine dW ?_;refine dE (addU (a := d) (b := 6) (by unfold W; omega)) ?_;refine dW ?_;refine eW ?_;refine goW ?_;exact backW (d + 6) ⟨⟨by omega, pr_step h2 h3 h6 hd.none ha hb, by omega⟩, by omega⟩
 · have hs' : ¬ ((d * d : Nat) : Int) <= (n : Int) := fun h => hs (Int.ofNat_le.1 h);refine dB false ?_;refine eW ?_;refine goW ?_;refine cfW ?_;refine goW ?_;refine rW [] ?_;refine dW ?_;refine dW ?_;refine eW ?_;refine goW ?_;refine fin2 fun w' H => ?_;exact ⟨_, _, rvT, rvT, ⟨true, 0, rfl, fun _ _ => ⟨by omega, pr_end (by omega) hd.none (by omega)⟩⟩, H.below⟩
def cnz (R : List Nat) : Nat := R.countP fun x => decide (x ≠ 0)
theorem countP_take {p : Nat -> Bool} {f : List Nat} {i : Nat} (h : i < f.length) : (f.take (i + 1)).countP p = (f.take i).countP p + if p (f.getD i 0) then 1 else 0 := by
 rw [List.take_succ_eq_append_getElem h, List.countP_append, getD_lt h];simp [List.countP_cons]
structure OfX where
 i : Nat
 rk : Nat
structure OfI (c k : Nat) (R : List Nat) (z : OfX) : Prop where
 hi : z.i <= k
 hr : z.rk + cnz (R.take z.i) = c
set_option maxRecDepth 100000 in
set_option maxHeartbeats 1000000 in
theorem GOf_c (r c n cap : Nat) (ao : Option Addr) (R : List Nat) (w : World) (hc : c <= 64) (hk : R.length <= c) (hRb : ∀ y ∈ R, wlen y <= 17592186044415)
 (HF0 : ∀ w', Below w.heap.size w w' -> Calls Tryz.prog 26 #[.agg #[.int .i64 (r : Int), .int .i64 (c : Int), .slice ao n cap]] w' fun e w'' => (∃ q : Nat, e = .returned (.tuple #[.slice (some ⟨q, 0, none⟩) R.length R.length, .int .i64 0]) /\ LsN w'' (some ⟨q, 0, none⟩) (nt R) /\ True /\ ∀ b o, some (⟨q, 0, none⟩ : Addr) = some ⟨b, o, none⟩ -> w'.heap.size <= b) /\ Below w'.heap.size w' w'') :
 Calls Tryz.prog 13 #[.agg #[.int .i64 (r : Int), .int .i64 (c : Int), .slice ao n cap]] w fun e w' => (∃ p : Option Addr × Nat, e = .returned (.tuple #[.int .i64 ((c - cnz R : Nat) : Int), .slice p.1 (ab1 R).length p.2, .int .i64 0]) /\ LsN w' p.1 (nt (ab1 R)) /\ True /\ ∀ b o, p.1 = some ⟨b, o, none⟩ -> w.heap.size <= b) /\ Below w.heap.size w w' := by
 obtain ⟨k, hkk⟩ : ∃ k, R.length = k := ⟨_, rfl⟩;obtain ⟨d, hd⟩ : ∃ d, (ab1 R).length = d := ⟨_, rfl⟩;have hnb : ∀ x ∈ nt R, wlen x.natAbs <= 17592186044415 := fun x hx => by
  unfold nt at hx;obtain ⟨y, hy, rfl⟩ := List.mem_map.1 hx;exact hRb y hy
 have c2 : ∀ w' q, LsN w' (some ⟨q, 0, none⟩) (nt R) -> Calls Tryz.prog 20 #[.slice (some ⟨q, 0, none⟩) R.length R.length] w' fun e w'' => (∃ p : Option Addr × Nat, e = .returned (.slice p.1 (ab1 R).length p.2) /\ LsN w'' p.1 (nt (ab1 R)) /\ True /\ ∀ b o, p.1 = some ⟨b, o, none⟩ -> w'.heap.size <= b) /\ Below w'.heap.size w' w'' := fun w' q h => by
  have := GAbove_c (some ⟨q, 0, none⟩) R.length 17592186044415 (nt R) w' (h.lsAt hnb) (by omega) (by rw [nt_length]; omega);rw [abz_nt, nt_length, nt_length] at this;exact this.mono fun e w'' ⟨⟨p, cp, he, h1, _, h2⟩, hbl⟩ => ⟨⟨(p, cp), he, h1, trivial, h2⟩, hbl⟩
 have hst : ∀ i, i < k -> gi (nt R) i = ((R.getD i 0 : Nat) : Int) := fun i hi => by
  rw [gi_eq (by rw [nt_length]; omega)]; simp [nt, show i < R.length by omega]
 have hct : ∀ i, i < k -> cnz (R.take (i + 1)) = cnz (R.take i) + if decide (R.getD i 0 ≠ 0) then 1 else 0 := fun i hi => countP_take (by omega);have hcl : ∀ i, i <= k -> cnz (R.take i) <= i := fun i hi => Nat.le_trans List.countP_le_length (by rw [List.length_take]; omega);have hbi : ∀ i, i < k -> wlen (gi (nt R) i).natAbs <= 17592186044415 := fun i hi => hnb _ (gi_mem (by rw [nt_length]; omega));have HF := Lib.hid HF0;have HC := Lib.hid (And.intro c2 (And.intro hst (And.intro hct (And.intro hcl (And.intro hbi (show (nt R).length = k by rw [nt_length]; exact hkk))))));have HT : Hid (R.take k = R) := Lib.hid (List.take_of_length_le (by omega));rw [hkk, hd] at HC;rw [hkk] at HF hk;rw [hd];clear HF0 hnb c2 hst hct hcl hbi hkk hRb hd;refine funW (S0 := fun _ => False) Tryz.func13 (Fr.nil _ w) ?_;refine goW ?_;refine rW [] ?_;refine aW fun g1 => ?_;refine dW ?_;refine dW ?_;refine dW ?_;refine eW ?_;refine goW ?_;refine rW [] ?_;refine dW ?_;refine cLn (α := Nat) (mk := fun q => .tuple #[.slice (some ⟨q, 0, none⟩) k k, .int .i64 0]) (ao := fun q => some ⟨q, 0, none⟩) (xs := fun _ => nt R) (A := fun _ => True) (fun w' H => HF.out w' H.below) fun q => ?_;refine dW ?_;refine dW ?_;refine dW ?_;refine dW ?_;refine dW ?_;refine eW ?_;refine goW ?_;refine rW [] ?_;refine dW ?_;refine dB false ?_;refine eW ?_;refine goW ?_;refine cfW ?_;refine goW ?_;refine rW [] ?_;refine dW ?_;refine dW ?_;refine dW ?_;refine eW ?_;refine goW ?_;refine rW [] ?_;refine dW ?_;refine dW ?_;refine dW ?_;refine eW ?_;refine goW ?_;refine loopW (X := OfX) (OfI c k R) (fun z => k - z.i) (fun z => [(20, .int .i64 (z.i : Int)), (19, .int .i64 (k : Int)), (18, .slice (some ⟨q, 0, none⟩) k k), (5, .slice (some ⟨q, 0, none⟩) k k), (2, .int .i64 (z.rk : Int))]) (fun _ => [.lsn (some ⟨q, 0, none⟩) (nt R)]) ⟨0, c⟩ ⟨Nat.zero_le _, rfl⟩ fun z hz => ?_;obtain ⟨i, rk⟩ := z;obtain ⟨hi, hr⟩ := hz
 replace hi : i <= k := hi
 replace hr : rk + cnz (R.take i) = c := hr
 have hcl := HC.out.2.2.2.1 i hi;by_cases h : i < k
 · have h01 : (i : Int) < (k : Int) := by omega
   have hrk : rk <= 64 := by omega
   have HR := Lib.hid (And.intro hr hcl);clear hr hcl;refine goW ?_;refine rW [] ?_;refine dB true ?_;refine eW ?_;refine goW ?_;refine numN0W (xs := nt R) (b := q) i (by simp) (by rw [HC.out.2.2.2.2.2]; exact h) fun p => ?_;refine ctW ?_;refine goW ?_;refine rW [] ?_;refine dW ?_;refine dW ?_;refine aW fun g7 => ?_;refine sG ?_;refine eW ?_;refine goW ?_;refine rW [] ?_;refine dW ?_;refine cV (v := .int .i64 (zsign (gi (nt R) i))) (fun w' H => ISign_c _ _ w' (NumAt.int H.m3 (HC.out.2.2.2.2.1 i h))) ?_;by_cases h0 : gi (nt R) i = 0
   · have hz : zsign (gi (nt R) i) = 0 := zsign_zero.2 h0;rw [hz];have hg : R.getD i 0 = 0 := by have := HC.out.2.1 i h; rw [h0] at this; omega
     have HG : Hid (rk + cnz (R.take (i + 1)) = c) := Lib.hid (by rw [HC.out.2.2.1 i h, hg]; exact HR.out.1);clear h0 hz hg;refine dB false ?_;refine eW ?_;refine goW ?_;refine cfW ?_;refine goW ?_;refine rW [] ?_;refine dE (incB (a := i) (by omega)) ?_;refine dW ?_;refine eW ?_;refine goW ?_;exact backW (⟨i + 1, rk⟩ : OfX) ⟨⟨h, HG.out⟩, by show k - (i + 1) < k - i; omega⟩
   · have hz : ¬ zsign (gi (nt R) i) = 0 := fun e => h0 (zsign_zero.1 e);have hg : R.getD i 0 ≠ 0 := fun e => h0 (by rw [HC.out.2.1 i h, e]; rfl);have hn : cnz (R.take (i + 1)) = cnz (R.take i) + 1 := by rw [HC.out.2.2.1 i h, if_pos (decide_eq_true hg)]
     have hn2 := HC.out.2.2.2.1 (i + 1) h;have hrk1 : 1 <= rk := by have := HR.out.1; have := HR.out.2; omega
     have HG : Hid (rk - 1 + cnz (R.take (i + 1)) = c) := Lib.hid (by have := HR.out.1; omega);clear h0 hg hn hn2;refine dB true ?_;refine eW ?_;refine goW ?_;refine ctW ?_;refine goW ?_;refine rW [] ?_;refine dW ?_;refine dE (sub1I (a := rk) hrk1 (by omega)) ?_;refine dW ?_;refine eW ?_;refine goW ?_;refine rW [] ?_;refine dE (incB (a := i) (by omega)) ?_;refine dW ?_;refine eW ?_;refine goW ?_;exact backW (⟨i + 1, rk - 1⟩ : OfX) ⟨⟨h, HG.out⟩, by show k - (i + 1) < k - i; omega⟩
 · obtain rfl : i = k := by omega
   rw [HT.out] at hr hcl;obtain rfl : rk = c - cnz R := by omega
   clear hr hcl;refine goW ?_;refine rW [] ?_;refine dB false ?_;refine eW ?_;refine goW ?_;refine cfW ?_;refine goW ?_;refine rW [] ?_;refine dW ?_;refine dW ?_;refine cLn (α := Option Addr × Nat) (mk := fun p => .slice p.1 d p.2) (ao := fun p => p.1) (xs := fun _ => nt (ab1 R)) (A := fun _ => True) (fun w' H => HC.out.1 w' q H.m0) fun p => ?_;refine dW ?_;refine dW ?_;refine dW ?_;refine eW ?_;refine goW ?_;refine fin3 fun w' H => ?_;exact ⟨_, _, _, rvT, rvT, rvT, ⟨p, rfl, H.m0, trivial, (show True /\ _ from H.m1).2⟩, H.below⟩
theorem hnf_40 : IsHnf 1 2 [4, 0] [4, 0] 1 (fun i => i) := by
 have e0 : ∀ i j, matE [4, 0] 1 2 i j = if i = 0 /\ j = 0 then 4 else 0 := fun i j => by
  unfold matE;by_cases h : i < 1 /\ j < 2
  · obtain ⟨h1, h2⟩ := h;rw [if_pos ⟨h1, h2⟩];have hi : i = 0 := by omega
    have hj : j = 0 ∨ j = 1 := by omega
    subst hi;rcases hj with rfl | rfl <;> rfl
  · rw [if_neg h, if_neg (by omega)]
 refine ⟨rfl, Nat.le_refl _, ⟨⟨fun i k h _ => h, fun i h => by omega, fun i hi j hj => ?_, fun i hi => ?_⟩, fun i k h1 h2 => by omega⟩, fun i hi b => ?_, ⟨fun k hk => Sp.row _ hk, fun k hk => Sp.row _ hk⟩⟩
 · rw [e0, if_neg (by omega)]
 · rw [e0]; have : i = 0 := by omega
   subst this; simp
 · rw [e0, if_neg (by omega)]
theorem dg_40 : IsDg 1 2 [4, 0] := fun i j hi hj h => by
 have hi' : i = 0 := by omega
 have hj' : j = 1 := by omega
 subst hi' hj'; rfl
theorem one_40 : OneTurn 1 2 [4] [4, 0] := fun hs k l h => by
 obtain ⟨rfl, -, -⟩ := h.unique hnf_40;refine ⟨fun _ => ?_, fun q => absurd dg_40 q⟩;show chProg [4] = [4];rw [chProg]; simp only [chPass]; rw [chProg]
set_option maxRecDepth 100000 in
set_option maxHeartbeats 4000000 in
theorem L22Awake_c (w : World) :
 Calls Tryz.prog 4 #[] w fun e w' => e = .returned (.bool true) /\ Below w.heap.size w w' := by
 have hw1 : ∀ x ∈ ([4, 0] : List Int), x.natAbs < W ^ 1 := fun x hx => by
  simp at hx; rcases hx with rfl | rfl <;> decide
 have hw2 : ∀ x ∈ ([4, 0] : List Int), wlen x.natAbs <= 17592186044415 := fun x hx => Nat.le_trans (wlen_le_of_lt (hw1 x hx)) (by omega);have hw3 : ∀ y ∈ [4], wlen y <= 17592186044415 := fun y hy => by
  rw [List.mem_singleton.1 hy]; exact Nat.le_trans (wlen_le_of_lt (show 4 < W ^ 1 by decide)) (by omega)
 have c1 : ∀ w' g, LsN w' (some ⟨g, 0, none⟩) [4, 0] -> Calls Tryz.prog 13 #[.agg #[.int .i64 1, .int .i64 2, .slice (some ⟨g, 0, none⟩) 2 2]] w' fun e w'' => (∃ p : Option Addr × Nat, e = .returned (.tuple #[.int .i64 1, .slice p.1 1 p.2, .int .i64 0]) /\ LsN w'' p.1 [4] /\ True /\ ∀ b o, p.1 = some ⟨b, o, none⟩ -> w'.heap.size <= b) /\ Below w'.heap.size w' w'' := fun w' g h => by
  have := GOf_c 1 2 2 2 (some ⟨g, 0, none⟩) [4] w' (by omega) (by simp) hw3 fun w'' hb => by
   have := SFactors_c 1 2 1 (some ⟨g, 0, none⟩) 2 [4] [4, 0] w'' (by omega) (by omega) ((h.lsAt hw2).below hb) hw1 (by omega) rfl one_40 hw3;exact this
  exact this
 have HC := Lib.hid c1;clear c1 hw1 hw2;refine funW (S0 := fun _ => False) Tryz.func4 (Fr.nil _ w) ?_;refine goW ?_;refine rW [] ?_;refine dW ?_;refine eW ?_;refine goW ?_;refine rW [] ?_;refine cN (x := ((4 : Nat) : Int)) (fun w' H => L22Of_c 4 w' (by omega) (by unfold W; omega)) fun p5 => ?_;refine dW ?_;refine bW (m := 2) fun g7 => ?_;refine dW ?_;refine cLn (α := Option Addr × Nat) (mk := fun p => .tuple #[.int .i64 1, .slice p.1 1 p.2, .int .i64 0]) (ao := fun p => p.1) (xs := fun _ => [4]) (A := fun _ => True) (fun w' H => HC.out w' g7 ((RowN.mk' (ps := [p5, p0]) (tl := []) H.m0 NoW.nil ⟨rfl, fun i hi => by
  match i, hi with
  | 0, _ => exact (H.m1 : OwnI ..).num
  | 1, _ => exact NumAt.zero w'⟩ : RowN w' g7 [4, 0]).lsN)) fun q => ?_
 refine dW ?_;refine dW ?_;refine dW ?_;refine dW ?_;refine dW ?_;refine dW ?_;refine dW ?_;refine eW ?_;refine goW ?_;refine rW [] ?_;refine dW ?_;refine dB true ?_;refine dW ?_;refine dG ?_;refine dGB true ?_;refine dW ?_;refine dW ?_;refine dG ?_;refine cGg (mk := av) (ens := fun p => [.own w.heap.size (av p) ((4 : Nat) : Int)]) (fun w' H => cNo' (L22Of_c 4 w' (by omega) (by unfold W; omega)) H.size) fun p21 => ?_;simp only [av];refine bWg (m := 1) fun g22 => ?_;refine cVg (v := .bool true) (fun w' H => by
  have h2 : LsN w' (some ⟨g22, 0, none⟩) [4] := (RowN.mk' (ps := [p21]) (tl := []) H.m0 NoW.nil ⟨rfl, fun i hi => by
   match i, hi with
   | 0, _ => exact (H.m1 : OwnI ..).num⟩ : RowN w' g22 [4]).lsN
  have hb4 : ∀ x ∈ ([4] : List Int), wlen x.natAbs <= 17592186044415 := fun x hx => by rw [List.mem_singleton.1 hx]; exact hw3 4 (by simp)
  have := RSameRow_c q.1 (some ⟨g22, 0, none⟩) q.2 1 [4] [4] w' H.m2 h2 (by simp) (by simp) hb4 hb4;rw [decide_eq_true rfl] at this;exact this) ?_
 refine dW ?_;refine dW ?_;refine eW ?_;refine goW ?_;refine fin1 fun w' H => ?_;exact ⟨_, rvT, rfl, H.below⟩
theorem fit_nt {r : Int} {xs : List Int} (h : fitB r xs = true) : ∃ (R : Nat) (f : List Nat), R <= 64 /\ f.length <= 64 /\ Posi f /\ xs = nt f /\ r = (R : Int) := by
 unfold fitB at h;rw [Bool.and_eq_true] at h;obtain ⟨h1, h2, h3⟩ := of_decide_eq_true h.1;have hx : ∀ x ∈ xs, 0 < x := fun x hx => of_decide_eq_true (List.all_eq_true.1 h.2 x hx);refine ⟨r.natAbs, xs.map Int.natAbs, by omega, by rw [List.length_map]; exact h3, fun y hy => ?_, ?_, by omega⟩
 · obtain ⟨x, h4, rfl⟩ := List.mem_map.1 hy;have := hx x h4; omega
 · unfold nt;rw [List.map_map];exact (List.map_id xs).symm.trans (List.map_congr_left fun x h4 => by have := hx x h4; show x = ((x.natAbs : Nat) : Int); omega)
theorem zcmp_self (x : Int) : zcmp x x = 0 := by unfold zcmp; rw [if_neg (Int.lt_irrefl x), if_pos rfl]
theorem posNW {P : Program} {Q : Exit -> Act -> World -> Prop} {S0 : Nat -> Prop} {w0 : World} {n : Nat} {ls : List (Nat × Value)} {es : List En} {c : Code} {ao : Option Addr} {xs : List Int} (hm : En.lsn ao xs ∈ es) (hl : 0 < xs.length) (k : ∀ b o, ao = some ⟨b, o, none⟩ -> CW P n S0 w0 c Q ls es) : CW P n S0 w0 c Q ls es := fun a w ha hw => by
 obtain ⟨b, o, e⟩ := LsN.pos (hw.all _ hm : LsN w ao xs) hl;exact k b o e a w ha hw
structure BpX where
 i : Nat
 c : Nat
structure BpI (p n : Nat) (f : List Nat) (z : BpX) : Prop where
 hi : z.i <= n
 hc : z.c = (f.take z.i).countP fun x => decide (p ∣ x)
theorem nt_rep (k p : Nat) : nt (List.replicate k p) = List.replicate k (p : Int) := by simp [nt]
theorem gi_rep {k i : Nat} {x : Int} (h : i < k) : gi (List.replicate k x) i = x := by rw [gi_eq (by simpa using h)]; simp
set_option maxRecDepth 100000 in
set_option maxHeartbeats 4000000 in
theorem L22By_c (r : Int) (la : Option Addr) (ca L : Nat) (xs : List Int) (p : Nat) (w : World) (hp : p < W) (hA : LsAt w L la xs) (hL1 : 1 <= L) (hL : L <= 67108865) (hn : xs.length <= 8796093022208) :
 Calls Tryz.prog 5 #[.int .i64 r, .slice la xs.length ca, .int .u64 (p : Int)] w fun e w' => e = .returned (.bool true) /\ Below w.heap.size w w' := by
 have cS := fun w' h => L22Sound_c r la ca L xs w' h (by omega) hn;obtain ⟨S, hS⟩ : ∃ S, fitB r xs = S := ⟨_, rfl⟩;rw [hS] at cS;have HS := Lib.hid hS;have CS := Lib.hid cS;obtain ⟨n, hnn⟩ : ∃ n, xs.length = n := ⟨_, rfl⟩;have HN := Lib.hid hnn;rw [hnn] at CS ⊢;clear hnn hn hS cS;refine funW (S0 := fun _ => False) Tryz.func5 ((Fr.nil _ w).l hA (by simp)) ?_;refine goW ?_;refine rW [] ?_;refine dW ?_;refine eW ?_;refine goW ?_;refine rW [] ?_;refine dW ?_;refine cG (α := Bool × Nat) (mk := fun q => .tuple #[.bool q.1, .int .i64 (q.2 : Int)]) (ens := fun q => [.pr (q.1 = true -> q.2 = 0 -> p < 2147483648 /\ IsPr p)]) (fun w' H => (MPrime_c p w' hp).mono fun e w'' ⟨⟨b, c, he, hbc⟩, hbl⟩ => ⟨(b, c), he, hbl, fun e he => by rcases List.mem_singleton.1 he with rfl; exact ⟨hbc, fun _ h => h.elim⟩, List.pairwise_singleton ..⟩) fun q => ?_;refine dW ?_;refine dW ?_;refine dW ?_;refine dW ?_;refine dW ?_;refine eW ?_;refine goW ?_;refine prW (A := q.1 = true -> q.2 = 0 -> p < 2147483648 /\ IsPr p) (by simp) fun hq => ?_;obtain ⟨qb, qc⟩ := q
 replace hq : qb = true -> qc = 0 -> p < 2147483648 /\ IsPr p := hq
 refine rW [] ?_;by_cases hb : qb = false
 · subst hb;refine dW ?_;refine dW ?_;refine dW ?_;refine uG ?_;refine uG ?_;refine dW ?_;refine dW ?_;refine uG ?_;refine uG ?_;refine uC ?_;refine uG ?_;refine dW ?_;refine eW ?_;refine goW ?_;refine ctW ?_;refine goW ?_;refine rW [] ?_;refine dW ?_;refine eW ?_;refine goW ?_;refine fin1 fun w' H => ?_;exact ⟨_, rvT, rfl, H.below⟩
 · obtain rfl : qb = true := by simpa using hb
   clear hb;by_cases hc : qc ≠ 0
   · have hc' : (qc : Int) ≠ 0 := by omega
     refine dW ?_;refine dW ?_;refine dW ?_;refine dG ?_;refine dGB true ?_;refine dW ?_;refine dW ?_;refine uG ?_;refine uG ?_;refine uC ?_;refine uG ?_;refine dW ?_;refine eW ?_;refine goW ?_;refine ctW ?_;refine goW ?_;refine rW [] ?_;refine dW ?_;refine eW ?_;refine goW ?_;refine fin1 fun w' H => ?_;exact ⟨_, rvT, rfl, H.below⟩
   · obtain rfl : qc = 0 := by omega
     obtain ⟨hp31, hpr⟩ := hq rfl rfl;clear hq hc;refine dW ?_;refine dW ?_;refine dW ?_;refine dG ?_;refine dGB false ?_;by_cases hs : S = false
     · subst hs;refine dW ?_;refine dW ?_;refine dG ?_;refine dG ?_;refine cVg (v := .bool false) (fun w' H => CS.out w' H.m1) ?_;refine dG ?_;refine dW ?_;refine eW ?_;refine goW ?_;refine ctW ?_;refine goW ?_;refine rW [] ?_;refine dW ?_;refine eW ?_;refine goW ?_;refine fin1 fun w' H => ?_;exact ⟨_, rvT, rfl, H.below⟩
     · obtain rfl : S = true := by simpa using hs
       refine dW ?_;refine dW ?_;refine dG ?_;refine dG ?_;refine cVg (v := .bool true) (fun w' H => CS.out w' H.m1) ?_;obtain ⟨R, f, hR64, hf64, hpf, rfl, rfl⟩ : ∃ (R : Nat) (f : List Nat), R <= 64 /\ f.length <= 64 /\ Posi f /\ xs = nt f /\ r = (R : Int) := fit_nt HS.out;obtain rfl : f.length = n := by rw [<- nt_length]; exact HN.out
       have hfl := lt_ofNt hA;have hst : ∀ i, i < f.length -> gi (nt f) i = ((f.getD i 0 : Nat) : Int) := fun i hi => by
        rw [gi_eq (by rw [nt_length]; omega)]; simp [nt, show i < f.length by omega]
       obtain ⟨c, hcc⟩ : ∃ c, (f.countP fun x => decide (p ∣ x)) = c := ⟨_, rfl⟩;have hp1 := hpr.1;have hpL : wlen ((p : Nat) : Int).natAbs <= L := Nat.le_trans (wlen_le_of_lt (show p < W ^ 1 by rw [Nat.pow_one]; exact hp)) hL1;have hl1 : ∀ w' g pp, RowAt w' g 37 [.bool pp.1, .slice pp.2.1 pp.2.2.1 pp.2.2.2] -> OwnI w' w.heap.size (av pp) ((p : Nat) : Int) -> LsAt w' L (some ⟨g, 0, none⟩) (nt [p]) := fun w' g pp h1 h2 => by
        refine LsN.lsAt (RowN.lsN (RowN.mk' (ps := [pp]) (tl := []) h1 NoW.nil ⟨rfl, fun i hi => ?_⟩)) fun x hx => ?_
        · match i, hi with
          | 0, _ => exact h2.num
        · rw [List.mem_singleton.1 hx]; exact hpL
       have hpp : Posi [p] := fun x hx => by rw [List.mem_singleton.1 hx]; omega
       have cT : ∀ w' g, LsAt w' L la (nt f) -> LsAt w' L (some ⟨g, 0, none⟩) (nt [p]) -> Calls Tryz.prog 6 #[.int .i64 (R : Int), .slice la f.length ca, .int .i64 0, .slice (some ⟨g, 0, none⟩) 1 1] w' fun e w'' => (∃ q : Option Addr × Nat, e = .returned (.tuple #[.int .i64 0, .slice q.1 (R + c) q.2, .int .i64 0]) /\ LsN w'' q.1 (List.replicate (R + c) (p : Int)) /\ True /\ ∀ b o, q.1 = some ⟨b, o, none⟩ -> w'.heap.size <= b) /\ Below w'.heap.size w' w'' := fun w' g h1 h2 => by
        have := GTen_c (r := R) (s := 0) (f := f) (g := [p]) (ca := ca) (cb := 1) h1 h2 hL hR64 (by omega) hf64 (by simp) hpf hpp;rw [ten_prime hpr, hcc, List.length_replicate, Nat.mul_zero, nt_rep] at this;exact this.mono fun e w'' ⟨⟨q, he, h1, _, h2⟩, hbl⟩ => ⟨⟨q, he, h1, trivial, h2⟩, hbl⟩
       have cU : ∀ w' g, LsAt w' L la (nt f) -> LsAt w' L (some ⟨g, 0, none⟩) (nt [p]) -> Calls Tryz.prog 7 #[.int .i64 (R : Int), .slice la f.length ca, .int .i64 0, .slice (some ⟨g, 0, none⟩) 1 1] w' fun e w'' => (∃ q : Option Addr × Nat, e = .returned (.tuple #[.int .i64 0, .slice q.1 c q.2, .int .i64 0]) /\ LsN w'' q.1 (List.replicate c (p : Int)) /\ True /\ ∀ b o, q.1 = some ⟨b, o, none⟩ -> w'.heap.size <= b) /\ Below w'.heap.size w' w'' := fun w' g h1 h2 => by
        have := GTor_c (r := R) (s := 0) (f := f) (g := [p]) (ca := ca) (cb := 1) h1 h2 hL hR64 (by omega) hf64 (by simp) hpf hpp;rw [tor_prime hpr, hcc, List.length_replicate, nt_rep] at this;exact this.mono fun e w'' ⟨⟨q, he, h1, _, h2⟩, hbl⟩ => ⟨⟨q, he, h1, trivial, h2⟩, hbl⟩
       have hc64 : c <= 64 := by rw [<- hcc]; exact Nat.le_trans List.countP_le_length hf64
       have HT := Lib.hid (And.intro cT (And.intro cU (And.intro hst (And.intro hcc hl1))));have HI := Lib.hid hpr;have HF := Lib.hid (And.intro hf64 hfl);clear cT cU hst hcc hl1 hpr hs hf64 hfl;obtain ⟨n, hnn⟩ : ∃ n, f.length = n := ⟨_, rfl⟩;have hn64 : n <= 64 := by rw [<- hnn]; exact HF.out.1
       have HL := Lib.hid (And.intro hnn (show (nt f).length = n by rw [nt_length]; exact hnn));rw [hnn] at HT ⊢;clear hnn HF HN CS HS;refine dG ?_;refine dW ?_;refine eW ?_;refine goW ?_;refine cfW ?_;refine goW ?_;refine rW [] ?_;refine dW ?_;refine eW ?_;refine goW ?_;refine rW [] ?_;refine dW ?_;refine dE (show Value.int .i64 (IntKind.i64.wrap (p : Int)) = .int .i64 (p : Int) from by rw [wrap_small] <;> first | rfl | omega) ?_;refine cN (x := ((p : Nat) : Int)) (fun w' H => IOf_c (p : Int) w' (by omega) (by omega)) fun pp => ?_;refine aW fun g10 => ?_;refine sG ?_;refine eW ?_;refine goW ?_;refine rW [] ?_;refine dW ?_;refine eW ?_;refine goW ?_;refine loopW (X := BpX) (BpI p n f) (fun z => n - z.i) (fun z => [(11, .int .i64 (z.i : Int)), (9, .int .i64 (z.c : Int)), (0, .int .i64 (R : Int)), (1, .slice la n ca), (10, .pointer (some ⟨g10, 0, none⟩))]) (fun _ => [.row g10 37 [.bool pp.1, .slice pp.2.1 pp.2.2.1 pp.2.2.2], .own w.heap.size (av pp) ((p : Nat) : Int), .ls L la (nt f)]) ⟨0, 0⟩ ⟨Nat.zero_le _, rfl⟩ fun z hz => ?_;obtain ⟨i, d⟩ := z;obtain ⟨hi, hd⟩ := hz
       replace hi : i <= n := hi
       replace hd : d = (f.take i).countP fun x => decide (p ∣ x) := hd
       have hdi : d <= 64 := by rw [hd]; exact Nat.le_trans List.countP_le_length (by rw [List.length_take]; omega)
       have HD := Lib.hid hd;clear hd;by_cases h : i < n
       · obtain ⟨bx, ox, rfl⟩ := hA.pos (i := i) (by rw [HL.out.2]; exact h);have h01 : (i : Int) < (n : Int) := by omega
         have HG := Lib.hid (countP_take (p := fun x => decide (p ∣ x)) (f := f) (i := i) (by rw [HL.out.1]; exact h));refine goW ?_;refine rW [] ?_;refine dW ?_;refine dW ?_;refine dW ?_;refine dB true ?_;refine eW ?_;refine goW ?_;refine numW (L := L) (xs := nt f) (b := bx) (o := ox) i (by simp) (by rw [HL.out.2]; exact h) fun t => ?_;refine ctW ?_;by_cases hd : p ∣ f.getD i 0
         · refine goW ?_;refine rW [] ?_;refine dW ?_;refine dW ?_;refine dW ?_;refine dW ?_;refine dW ?_;refine cV (v := .bool true) (fun w' H => by have := L22Div_c (av pp) (av t) ((p : Nat) : Int) (gi (nt f) i) w' ((OwnI.int H.m4 hpL).mono (by omega)) ((H.m2 : IntAt ..).mono (by omega)) (by omega); rw [HT.out.2.2.1 i h, decide_eq_true (Int.natCast_dvd_natCast.2 hd)] at this; exact this) ?_;refine eW ?_;refine goW ?_;refine ctW ?_;refine goW ?_;refine rW [] ?_;refine dW ?_;refine dE (incB (a := d) (by omega)) ?_;refine dW ?_;refine eW ?_;refine goW ?_;refine rW [] ?_;refine dW ?_;refine dE (incB (a := i) (by omega)) ?_;refine dW ?_;refine eW ?_;refine goW ?_;exact backW (⟨i + 1, d + 1⟩ : BpX) ⟨⟨h, by show d + 1 = _; rw [HG.out, <- HD.out, if_pos (decide_eq_true hd)]⟩, by show n - (i + 1) < n - i; omega⟩
         · refine goW ?_;refine rW [] ?_;refine dW ?_;refine dW ?_;refine dW ?_;refine dW ?_;refine dW ?_;refine cV (v := .bool false) (fun w' H => by have := L22Div_c (av pp) (av t) ((p : Nat) : Int) (gi (nt f) i) w' ((OwnI.int H.m4 hpL).mono (by omega)) ((H.m2 : IntAt ..).mono (by omega)) (by omega); rw [HT.out.2.2.1 i h, decide_eq_false (fun q => hd (Int.natCast_dvd_natCast.1 q))] at this; exact this) ?_;refine eW ?_;refine goW ?_;refine cfW ?_;refine goW ?_;refine rW [] ?_;refine dW ?_;refine dE (incB (a := i) (by omega)) ?_;refine dW ?_;refine eW ?_;refine goW ?_;exact backW (⟨i + 1, d⟩ : BpX) ⟨⟨h, by show d = _; rw [HG.out, <- HD.out, if_neg (by simpa using hd)]; rfl⟩, by show n - (i + 1) < n - i; omega⟩
       · obtain rfl : i = n := by omega
         obtain rfl : d = c := by rw [HD.out, List.take_of_length_le (by rw [HL.out.1]; exact Nat.le_refl _), HT.out.2.2.2.1]
         clear HD;refine goW ?_;refine rW [] ?_;refine dW ?_;refine dW ?_;refine dW ?_;refine dB false ?_;refine eW ?_;refine goW ?_;refine cfW ?_;refine goW ?_;refine rW [] ?_;refine dW ?_;refine dW ?_;refine dW ?_;refine bW (m := 1) fun g57 => ?_;refine cLn (α := Option Addr × Nat) (mk := fun q => .tuple #[.int .i64 0, .slice q.1 (R + d) q.2, .int .i64 0]) (ao := fun q => q.1) (xs := fun _ => List.replicate (R + d) (p : Int)) (A := fun _ => True) (fun w' H => HT.out.1 w' g57 H.m3 (HT.out.2.2.2.2 w' g57 pp H.m0 H.m2)) fun q => ?_;refine dW ?_;refine dW ?_;refine dW ?_;refine dW ?_;refine dW ?_;refine dW ?_;refine dW ?_;refine eW ?_;refine goW ?_;refine rW [] ?_;refine dW ?_;refine dW ?_;refine dW ?_;refine bW (m := 1) fun g66 => ?_;refine cLn (α := Option Addr × Nat) (mk := fun q => .tuple #[.int .i64 0, .slice q.1 d q.2, .int .i64 0]) (ao := fun q => q.1) (xs := fun _ => List.replicate d (p : Int)) (A := fun _ => True) (fun w' H => HT.out.2.1 w' g66 (H.all (.ls L la (nt f)) (by simp)) (HT.out.2.2.2.2 w' g66 pp H.m0 (H.all (.own w.heap.size (av pp) ((p : Nat) : Int)) (by simp)))) fun t => ?_;refine dW ?_;refine dW ?_;refine dW ?_;refine dW ?_;refine dW ?_;refine dW ?_;refine dW ?_;refine eW ?_;refine goW ?_;refine rW [] ?_;refine dW ?_;refine dB false ?_;refine dW ?_;refine dG ?_;refine dGB false ?_;refine dW ?_;refine dW ?_;refine dG ?_;refine dGB false ?_;refine dW ?_;refine dW ?_;refine dG ?_;refine dGB false ?_;refine dW ?_;refine dW ?_;refine dG ?_;refine dG ?_;refine dG ?_;refine dG ?_;refine dGE (sumI (a := R) (b := d) (by omega)) ?_;refine dGB false ?_;refine dW ?_;refine dW ?_;refine dG ?_;refine dG ?_;refine dG ?_;refine dGB false ?_;refine dW ?_;refine eW ?_;refine goW ?_;obtain ⟨e, he⟩ : ∃ e, R + d = e := ⟨_, rfl⟩;have he128 : e <= 128 := by omega
         have hde : d <= e := by omega
         rw [he];clear he;obtain ⟨q1, q2⟩ := q;obtain ⟨t1, t2⟩ := t;refine cfW ?_;refine goW ?_;refine rW [] ?_;refine dW ?_;refine eW ?_;refine goW ?_;refine loopW (X := Nat) (fun i => i <= e) (fun i => e - i) (fun i => [(18, .int .i64 (i : Int)), (13, .slice q1 e q2), (16, .slice t1 d t2), (10, .pointer (some ⟨g10, 0, none⟩))]) (fun _ => [.row g10 37 [.bool pp.1, .slice pp.2.1 pp.2.2.1 pp.2.2.2], .own w.heap.size (av pp) ((p : Nat) : Int), .lsn q1 (List.replicate e (p : Int)), .lsn t1 (List.replicate d (p : Int))]) 0 (Nat.zero_le _) fun i hi => ?_;by_cases h : i < e
         · have h01 : (i : Int) < (e : Int) := by omega
           have hpn : wlen ((p : Nat) : Int).natAbs <= 17592186044415 := by omega
           have HR := Lib.hid (gi_rep (x := (p : Int)) h);have HZ := Lib.hid (zcmp_self (p : Int));refine goW ?_;refine rW [] ?_;refine dW ?_;refine dW ?_;refine dW ?_;refine dB true ?_;refine eW ?_;refine goW ?_;refine posNW (ao := q1) (xs := List.replicate e (p : Int)) (by simp) (by rw [List.length_replicate]; omega) fun bq oq eq => ?_;subst eq;refine numNW (xs := List.replicate e (p : Int)) (b := bq) (o := oq) i (by simp) (by rw [List.length_replicate]; exact h) fun u => ?_;refine ctW ?_;by_cases h2 : i < d
           · have h02 : (i : Int) < (d : Int) := by omega
             have HR2 := Lib.hid (gi_rep (x := (p : Int)) h2);refine goW ?_;refine posNW (ao := t1) (xs := List.replicate d (p : Int)) (by simp) (by rw [List.length_replicate]; omega) fun bt ot et => ?_;subst et;refine numNW (xs := List.replicate d (p : Int)) (b := bt) (o := ot) i (by simp) (by rw [List.length_replicate]; exact h2) fun v => ?_;refine rW [] ?_;refine dW ?_;refine dW ?_;refine dW ?_;refine dW ?_;refine dW ?_;refine cV (v := .int .i64 0) (fun w' H => by have := ICmp_c (av u) (av pp) (gi (List.replicate e (p : Int)) i) (p : Int) w' (NumAt.int H.m5 (by rw [HR.out]; exact hpn)) (OwnI.int H.m7 hpn); rw [HR.out, HZ.out] at this; exact this) ?_;refine dB false ?_;refine dW ?_;refine dG ?_;refine dG ?_;refine dG ?_;refine dGB true ?_;refine dG ?_;refine dG ?_;refine dG ?_;refine dG ?_;refine dG ?_;refine dG ?_;refine cVg (v := .int .i64 0) (fun w' H => by have := ICmp_c (av v) (av pp) (gi (List.replicate d (p : Int)) i) (p : Int) w' (NumAt.int H.m2 (by rw [HR2.out]; exact hpn)) (OwnI.int H.m7 hpn); rw [HR2.out, HZ.out] at this; exact this) ?_;refine dGB false ?_;refine dG ?_;refine dW ?_;refine eW ?_;refine goW ?_;refine cfW ?_;refine goW ?_;refine rW [] ?_;refine dW ?_;refine dE (incB (a := i) (by omega)) ?_;refine dW ?_;refine eW ?_;refine goW ?_;exact backW (i + 1) ⟨h, by show e - (i + 1) < e - i; omega⟩
           · have h02 : ¬ (i : Int) < (d : Int) := by omega
             refine goW ?_;refine rW [] ?_;refine dW ?_;refine dW ?_;refine dW ?_;refine dW ?_;refine dW ?_;refine cV (v := .int .i64 0) (fun w' H => by have := ICmp_c (av u) (av pp) (gi (List.replicate e (p : Int)) i) (p : Int) w' (NumAt.int H.m2 (by rw [HR.out]; exact hpn)) (OwnI.int H.m4 hpn); rw [HR.out, HZ.out] at this; exact this) ?_;refine dB false ?_;refine dW ?_;refine dG ?_;refine dG ?_;refine dG ?_;refine dGB false ?_;refine dG ?_;refine uG ?_;refine uG ?_;refine uG ?_;refine uG ?_;refine uG ?_;refine uC ?_;refine uG ?_;refine dG ?_;refine dW ?_;refine eW ?_;refine goW ?_;refine cfW ?_;refine goW ?_;refine rW [] ?_;refine dW ?_;refine dE (incB (a := i) (by omega)) ?_;refine dW ?_;refine eW ?_;refine goW ?_;exact backW (i + 1) ⟨h, by show e - (i + 1) < e - i; omega⟩
         · obtain rfl : i = e := by omega
           refine goW ?_;refine rW [] ?_;refine dW ?_;refine dW ?_;refine dW ?_;refine dB false ?_;refine eW ?_;refine goW ?_;refine cfW ?_;refine goW ?_;refine rW [] ?_;refine dW ?_;refine eW ?_;refine goW ?_;refine fin1 fun w' H => ?_;exact ⟨_, rvT, rfl, H.below⟩
theorem nf_bd {L : Nat} {D : List Nat} (hL : L <= 67108865) (hn : D.length <= 12288) (hb : ∀ x ∈ D, x < W ^ L) : ∀ x ∈ nf (ab1 D), wlen x <= 8796093022207 := fun x hx => by
 have hal : (ab1 D).length <= D.length := by unfold ab1; exact List.length_filter_le ..
 have hab : ∀ x ∈ ab1 D, x < W ^ L := fun x hx => hb x (by unfold ab1 at hx; exact (List.mem_filter.1 hx).1);have hP : wlen (prodNZ (ab1 D)) <= 8796093022207 := Nat.le_trans (prodNZ_wlen hab (Nat.le_trans hal hn)) (Nat.le_trans (Nat.add_le_add_right (Nat.mul_le_mul_right 12288 hL) 1) (by decide));have hx2 : x ∈ chProg (ab1 D) := by unfold nf at hx; rw [ab1] at hx; exact (List.mem_filter.1 hx).1
 exact Nat.le_trans (wlen_mono ((chProg_dv (fun z hz => Dv.of_mem hz) x hx2).le (prodNZ_pos _))) hP
theorem ten_bd {L r s : Nat} {f g : List Nat} (hL : L <= 67108865) (hr : r <= 64) (hs : s <= 64) (hf : f.length <= 64) (hg : g.length <= 64) (hpf : Posi f) (h1 : ∀ x ∈ f, x < W ^ L) (h2 : ∀ x ∈ g, x < W ^ L) : ∀ x ∈ ten r f s g, wlen x <= 8796093022207 := by
 refine nf_bd hL ?_ fun x hx => ?_
 · have h3 := Nat.mul_le_mul hf hg;have h4 := Nat.mul_le_mul hr hg;have h5 := Nat.mul_le_mul hs hf;rw [List.length_append, List.length_append, crs_len, cps_len, cps_len]; omega
 · rcases List.mem_append.1 hx with hx | hx
   · rcases List.mem_append.1 hx with hx | hx
     · exact crs_lt hpf h1 x hx
     · exact cps_lt r h2 x hx
   · exact cps_lt s h1 x hx
theorem nf_len (l : List Nat) : (nf l).length <= l.length := by
 unfold nf;refine Nat.le_trans (by rw [ab1]; exact List.length_filter_le ..) (Nat.le_of_eq (chProg_length l))
theorem nf_lt {L : Nat} {f : List Nat} (hf : f.length <= 64) (hL : L <= 1048576) (h : ∀ x ∈ f, x < W ^ L) : ∀ x ∈ nf f, wlen x <= 67108865 := fun x hx => by
 have hx2 : x ∈ chProg f := by unfold nf at hx; rw [ab1] at hx; exact (List.mem_filter.1 hx).1
 exact Nat.le_trans (wlen_mono ((chProg_dv (fun z hz => Dv.of_mem hz) x hx2).le (prodNZ_pos _))) (Nat.le_trans (prodNZ_wlen h hf) (Nat.le_trans (Nat.add_le_add_right (Nat.mul_le_mul_right 64 hL) 1) (by decide)))
theorem nt_bd {l : List Nat} {B : Nat} (h : ∀ x ∈ l, wlen x <= B) : ∀ x ∈ nt l, wlen x.natAbs <= B := fun x hx => by
 unfold nt at hx;obtain ⟨y, hy, rfl⟩ := List.mem_map.1 hx;exact h y hy
theorem tor_nil (f : List Nat) : tor [] f = [] := by
 have e : crs [] f = [] := by simp [crs]
 rw [tor, e]; unfold nf ab1; rw [List.filter_nil, chProg]; rfl
section
variable {R S : Int} {la lb : Option Addr} {ca cb L p : Nat} {xs ys : List Int} {w : World}
set_option maxRecDepth 100000 in
set_option maxHeartbeats 4000000 in
theorem L22TN_c (hp : p < W) (hA : LsAt w L la xs) (hB : LsAt w L lb ys) (hL1 : 1 <= L) (hL : L <= 1048576) (hn : xs.length <= 1048576) (hm : ys.length <= 1048576) (hs : ¬ (fitB R xs = true /\ fitB S ys = true)) :
 Calls Tryz.prog 3 #[.agg #[.int .i64 R, .int .i64 S, .slice la xs.length ca, .slice lb ys.length cb, .int .u64 (p : Int)]] w fun e w' => e = .returned (.bool true) /\ Below w.heap.size w w' := by
 have c1 := fun w' h => L22By_c R la ca L xs p w' hp h hL1 (by omega) (by omega);have c2 := fun w' h1 h2 => GTenN_c (w := w') (la := la) (lb := lb) (L := L) (ca := ca) (cb := cb) h1 h2 (by omega) (by omega) (by omega) hs;have c3 := fun w' h1 h2 => GTorN_c (w := w') (la := la) (lb := lb) (L := L) (ca := ca) (cb := cb) h1 h2 (by omega) (by omega) (by omega) hs;have c4 := fun w' h => L22Sound_c R la ca L xs w' h (by omega) (by omega);have c5 := fun w' h => L22Sound_c S lb cb L ys w' h (by omega) (by omega);obtain ⟨a, ha⟩ : ∃ a, fitB R xs = a := ⟨_, rfl⟩;obtain ⟨b, hb⟩ : ∃ b, fitB S ys = b := ⟨_, rfl⟩;rw [ha] at c4;rw [hb] at c5;rw [ha, hb] at hs;obtain ⟨n, hnn⟩ : ∃ n, xs.length = n := ⟨_, rfl⟩;obtain ⟨m, hmm⟩ : ∃ m, ys.length = m := ⟨_, rfl⟩;rw [hnn] at c1 c4;rw [hmm] at c5;rw [hnn, hmm] at c2 c3;rw [hnn, hmm];have HC := Lib.hid (And.intro c1 (And.intro c2 (And.intro c3 (And.intro c4 c5))));clear c1 c2 c3 c4 c5 ha hb hnn hmm hn hm;refine funW (S0 := fun _ => False) Tryz.func3 (((Fr.nil _ w).l hB (by simp)).l hA (by simp [En.wr])) ?_;refine goW ?_;refine rW [] ?_;refine aW fun g1 => ?_;refine dW ?_;refine eW ?_;refine goW ?_;refine rW [] ?_;refine cV (v := .bool true) (fun w' H => L22Awake_c w') ?_;refine dW ?_;refine dW ?_;refine dG ?_;refine dG ?_;refine dG ?_;refine dG ?_;refine dG ?_;refine dG ?_;refine cVg (v := .bool true) (fun w' H => HC.out.1 w' (H.all (.ls L la xs) (by simp))) ?_;refine dG ?_;refine dW ?_;refine eW ?_;refine goW ?_;refine cfW ?_;refine goW ?_;refine rW [] ?_;refine dW ?_;refine dW ?_;refine dW ?_;refine dW ?_;refine dW ?_;refine dW ?_;refine dW ?_;refine dW ?_;refine cV (v := .tuple #[.int .i64 0, .slice none 0 0, .int .i64 3]) (fun w' H => HC.out.2.1 w' (H.all (.ls L la xs) (by simp)) (H.all (.ls L lb ys) (by simp))) ?_;refine dW ?_;refine dW ?_;refine dW ?_;refine dW ?_;refine dW ?_;refine dW ?_;refine dW ?_;refine eW ?_;refine goW ?_;refine rW [] ?_;refine dW ?_;refine dW ?_;refine dW ?_;refine dW ?_;refine dW ?_;refine dW ?_;refine dW ?_;refine dW ?_;refine cV (v := .tuple #[.int .i64 0, .slice none 0 0, .int .i64 3]) (fun w' H => HC.out.2.2.1 w' (H.all (.ls L la xs) (by simp)) (H.all (.ls L lb ys) (by simp))) ?_;by_cases ha : a = true
 · subst ha;obtain rfl : b = false := by cases b <;> simp_all
   clear hs;refine dW ?_;refine dW ?_;refine dW ?_;refine dW ?_;refine dW ?_;refine dW ?_;refine dW ?_;refine eW ?_;refine goW ?_;refine rW [] ?_;refine dW ?_;refine dW ?_;refine dW ?_;refine dW ?_;refine cV (v := .bool true) (fun w' H => HC.out.2.2.2.1 w' (H.all (.ls L la xs) (by simp))) ?_;refine dW ?_;refine dW ?_;refine dG ?_;refine dG ?_;refine dG ?_;refine dG ?_;refine cVg (v := .bool false) (fun w' H => HC.out.2.2.2.2 w' (H.all (.ls L lb ys) (by simp))) ?_;refine dG ?_;refine dW ?_;refine eW ?_;refine goW ?_;refine ctW ?_;refine goW ?_;refine rW [] ?_;refine dW ?_;refine dB true ?_;refine dW ?_;refine dG ?_;refine dGB true ?_;refine dW ?_;refine dW ?_;refine dG ?_;refine dGB true ?_;refine dW ?_;refine dW ?_;refine dG ?_;refine dGB true ?_;refine dW ?_;refine dW ?_;refine dG ?_;refine dG ?_;refine dGB true ?_;refine dW ?_;refine dW ?_;refine dG ?_;refine dG ?_;refine dGB true ?_;refine dW ?_;refine dW ?_;refine eW ?_;refine goW ?_;refine fin1 fun w' H => ?_;exact ⟨_, rvT, rfl, H.below⟩
 · obtain rfl : a = false := by simpa using ha
   clear hs ha;refine dW ?_;refine dW ?_;refine dW ?_;refine dW ?_;refine dW ?_;refine dW ?_;refine dW ?_;refine eW ?_;refine goW ?_;refine rW [] ?_;refine dW ?_;refine dW ?_;refine dW ?_;refine dW ?_;refine cV (v := .bool false) (fun w' H => HC.out.2.2.2.1 w' (H.all (.ls L la xs) (by simp))) ?_;refine dW ?_;refine dW ?_;refine uG ?_;refine uG ?_;refine uG ?_;refine uG ?_;refine uC ?_;refine uG ?_;refine dW ?_;refine eW ?_;refine goW ?_;refine ctW ?_;refine goW ?_;refine rW [] ?_;refine dW ?_;refine dB true ?_;refine dW ?_;refine dG ?_;refine dGB true ?_;refine dW ?_;refine dW ?_;refine dG ?_;refine dGB true ?_;refine dW ?_;refine dW ?_;refine dG ?_;refine dGB true ?_;refine dW ?_;refine dW ?_;refine dG ?_;refine dG ?_;refine dGB true ?_;refine dW ?_;refine dW ?_;refine dG ?_;refine dG ?_;refine dGB true ?_;refine dW ?_;refine dW ?_;refine eW ?_;refine goW ?_;refine fin1 fun w' H => ?_;exact ⟨_, rvT, rfl, H.below⟩
end
section
variable {R S : Nat} {la lb : Option Addr} {ca cb L p : Nat} {f g : List Nat} {w : World}
set_option maxRecDepth 100000 in
set_option maxHeartbeats 8000000 in
theorem L22TY_c (hp : p < W) (hA : LsAt w L la (nt f)) (hB : LsAt w L lb (nt g)) (hL1 : 1 <= L) (hL : L <= 1048576) (hR : R <= 64) (hS : S <= 64) (hf : f.length <= 64) (hg : g.length <= 64) (hpf : Posi f) (hpg : Posi g) :
 Calls Tryz.prog 3 #[.agg #[.int .i64 (R : Int), .int .i64 (S : Int), .slice la f.length ca, .slice lb g.length cb, .int .u64 (p : Int)]] w fun e w' => e = .returned (.bool true) /\ Below w.heap.size w w' := by
 have hfl := lt_ofNt hA;have hgl := lt_ofNt hB;have hTb : ∀ x ∈ nt (ten R f S g), wlen x.natAbs <= 17592186044415 := nt_bd fun x hx => Nat.le_trans (ten_bd (L := L) (by omega) hR hS hf hg hpf hfl hgl x hx) (by omega);have hUb : ∀ x ∈ nt (tor f g), wlen x.natAbs <= 17592186044415 := nt_bd fun x hx => by
  rw [<- ten_zero] at hx;exact Nat.le_trans (ten_bd (L := L) (by omega) (by omega) (by omega) hf hg hpf hfl hgl x hx) (by omega)
 have hOb : ∀ x ∈ nt (nf f), wlen x.natAbs <= 67108865 := nt_bd (nf_lt hf hL hfl);have hTc : Chn (ten R f S g) /\ ∀ x ∈ ten R f S g, 1 < x := ⟨nf_chn _, nf_gt _⟩;have hUc : Chn (tor f g) /\ ∀ x ∈ tor f g, 1 < x := ⟨nf_chn _, nf_gt _⟩;have hTl : (ten R f S g).length <= 12288 := by
  refine Nat.le_trans (nf_len _) (Nat.le_trans (by rw [ab1]; exact List.length_filter_le ..) ?_);have h3 := Nat.mul_le_mul hf hg;have h4 := Nat.mul_le_mul hR hg;have h5 := Nat.mul_le_mul hS hf;rw [List.length_append, List.length_append, crs_len, cps_len, cps_len]; omega
 have hUl : (tor f g).length <= 12288 := by
  refine Nat.le_trans (nf_len _) (Nat.le_trans (by rw [ab1]; exact List.length_filter_le ..) ?_);have h3 := Nat.mul_le_mul hf hg;rw [crs_len]; omega
 have hOl : (nf f).length <= 64 := Nat.le_trans (nf_len f) hf;have cB := fun w' h => L22By_c (R : Int) la ca L (nt f) p w' hp h hL1 (by omega) (by rw [nt_length]; omega);have cS1 := fun w' h => L22Sound_c (R : Int) la ca L (nt f) w' h (by omega) (by rw [nt_length]; omega);have cS2 := fun w' h => L22Sound_c (S : Int) lb cb L (nt g) w' h (by omega) (by rw [nt_length]; omega);rw [fitB_nt hR hf hpf] at cS1;rw [fitB_nt hS hg hpg] at cS2;have cT1 := fun w' h1 h2 => GTen_c (w := w') (r := R) (s := S) (f := f) (g := g) (la := la) (lb := lb) (ca := ca) (cb := cb) (L := L) h1 h2 (by omega) hR hS hf hg hpf hpg;have cU1 := fun w' h1 h2 => GTor_c (w := w') (r := R) (s := S) (f := f) (g := g) (la := la) (lb := lb) (ca := ca) (cb := cb) (L := L) h1 h2 (by omega) hR hS hf hg hpf hpg;have cT2 := fun w' h1 h2 => GTen_c (w := w') (r := S) (s := R) (f := g) (g := f) (la := lb) (lb := la) (ca := cb) (cb := ca) (L := L) h1 h2 (by omega) hS hR hg hf hpg hpf;have cU2 := fun w' h1 h2 => GTor_c (w := w') (r := S) (s := R) (f := g) (g := f) (la := lb) (lb := la) (ca := cb) (cb := ca) (L := L) h1 h2 (by omega) hS hR hg hf hpg hpf;rw [<- ten_comm hpf hpg, Nat.mul_comm S R] at cT2;rw [<- tor_comm hpf hpg] at cU2;have hnil : ∀ w', LsAt w' L none (nt []) := fun w' h => absurd h (by simp [nt]);have cO := fun w' h1 => GTen_c (w := w') (r := 1) (s := R) (f := []) (g := f) (la := none) (lb := la) (ca := 0) (cb := ca) (L := L) (hnil w') h1 (by omega) (by omega) hR (by simp) hf (fun x hx => by cases hx) hpf;have cN := fun w' h1 => GTor_c (w := w') (r := 1) (s := R) (f := []) (g := f) (la := none) (lb := la) (ca := 0) (cb := ca) (L := L) (hnil w') h1 (by omega) (by omega) hR (by simp) hf (fun x hx => by cases hx) hpf;rw [ten_int hpf, Nat.one_mul] at cO;rw [tor_nil] at cN;have cX := fun w' ao k h1 h2 => GTen_c (w := w') (r := R) (s := S) (f := nf f) (g := g) (la := ao) (lb := lb) (ca := k) (cb := cb) (L := 67108865) h1 (LsAt.up (L := L) h2 (by omega)) (by omega) hR hS hOl hg (nf_pos f) hpg;rw [ten_nf hpf hpg] at cX;have cC1 := fun w' ao k (h : LsN w' ao (nt (ten R f S g))) => L22Chain_c ao k 17592186044415 (ten R f S g) w' (h.lsAt hTb) (by omega) (by omega) hTc.1 hTc.2;have cC2 := fun w' ao k (h : LsN w' ao (nt (tor f g))) => L22Chain_c ao k 17592186044415 (tor f g) w' (h.lsAt hUb) (by omega) (by omega) hUc.1 hUc.2;have cR1 : ∀ w' ao bo k1 k2, LsN w' ao (nt (ten R f S g)) -> LsN w' bo (nt (ten R f S g)) -> Calls Tryz.prog 10 #[.slice ao (ten R f S g).length k1, .slice bo (ten R f S g).length k2] w' fun e w'' => e = .returned (.bool true) /\ Below w'.heap.size w' w'' := fun w' ao bo k1 k2 h1 h2 => by
  have := RSameRow_c ao bo k1 k2 (nt (ten R f S g)) (nt (ten R f S g)) w' h1 h2 (by rw [nt_length]; omega) (by rw [nt_length]; omega) hTb hTb;rw [decide_eq_true rfl, nt_length] at this; exact this
 have cR2 : ∀ w' ao bo k1 k2, LsN w' ao (nt (tor f g)) -> LsN w' bo (nt (tor f g)) -> Calls Tryz.prog 10 #[.slice ao (tor f g).length k1, .slice bo (tor f g).length k2] w' fun e w'' => e = .returned (.bool true) /\ Below w'.heap.size w' w'' := fun w' ao bo k1 k2 h1 h2 => by
  have := RSameRow_c ao bo k1 k2 (nt (tor f g)) (nt (tor f g)) w' h1 h2 (by rw [nt_length]; omega) (by rw [nt_length]; omega) hUb hUb;rw [decide_eq_true rfl, nt_length] at this; exact this
 have hz : R = 0 -> S = 0 -> ten R f S g = tor f g := fun h1 h2 => by rw [h1, h2, ten_zero]
 have cR3 : R = 0 -> S = 0 -> ∀ w' ao bo k1 k2, LsN w' ao (nt (ten R f S g)) -> LsN w' bo (nt (tor f g)) -> Calls Tryz.prog 10 #[.slice ao (ten R f S g).length k1, .slice bo (tor f g).length k2] w' fun e w'' => e = .returned (.bool true) /\ Below w'.heap.size w' w'' := fun h1 h2 w' ao bo k1 k2 h3 h4 => by
  have e := hz h1 h2;have h5 : LsN w' bo (nt (ten R f S g)) := by rw [e]; exact h4
  have := cR1 w' ao bo k1 k2 h3 h5;rw [show (tor f g).length = (ten R f S g).length by rw [e]]; exact this
 have cP1 := fun w' ao k (h : LsN w' ao (nt (nf f))) => L22Prod_c ao k 67108865 (nf f) w' (h.lsAt hOb) (by omega) (by omega);rw [nf_prod hpf] at cP1;have cP2 := fun w' h => L22Prod_c la ca L f w' h (by omega) (by omega);have hPb : wlen ((prodL f : Nat) : Int).natAbs <= 17592186044415 := by
  have := prodL_wlen (i := f.length) (n := 64) hfl hf;rw [List.take_of_length_le (Nat.le_refl _)] at this;exact Nat.le_trans this (Nat.le_trans (Nat.add_le_add_right (Nat.mul_le_mul_right 64 hL) 1) (by decide))
 obtain ⟨P, hP⟩ : ∃ P, prodL f = P := ⟨_, rfl⟩;rw [hP] at cP1 cP2 hPb;have cX' := fun w' ao k (h1 : LsN w' ao (nt (nf f))) h2 => cX w' ao k (h1.lsAt hOb) h2;rw [nt_length] at cB cS1 cS2;have H1 := Lib.hid (And.intro cB (And.intro cS1 cS2));have H2 := Lib.hid (And.intro cT1 (And.intro cU1 (And.intro cT2 cU2)));have H3 := Lib.hid (And.intro cO (And.intro cN cX'));have H4 := Lib.hid (And.intro cC1 cC2);have H5 := Lib.hid (And.intro cR1 (And.intro cR2 cR3));have H6 := Lib.hid (And.intro cP1 cP2);clear cB cS1 cS2 cT1 cU1 cT2 cU2 cO cN cX cX' cC1 cC2 cR1 cR2 cR3 cP1 cP2 hz hnil hP hTb hUb hTc hUc hTl hUl hOb hOl hfl hgl;obtain ⟨n, hnn⟩ : ∃ n, f.length = n := ⟨_, rfl⟩;obtain ⟨m, hmm⟩ : ∃ m, g.length = m := ⟨_, rfl⟩;obtain ⟨F, hF⟩ : ∃ F, nt f = F := ⟨_, rfl⟩;obtain ⟨G, hG⟩ : ∃ G, nt g = G := ⟨_, rfl⟩;obtain ⟨T, hT⟩ : ∃ T, ten R f S g = T := ⟨_, rfl⟩;obtain ⟨U, hU⟩ : ∃ U, tor f g = U := ⟨_, rfl⟩;obtain ⟨O, hO⟩ : ∃ O, nf f = O := ⟨_, rfl⟩;obtain ⟨d1, hd1⟩ : ∃ d, T.length = d := ⟨_, rfl⟩;obtain ⟨d2, hd2⟩ : ∃ d, U.length = d := ⟨_, rfl⟩;obtain ⟨d3, hd3⟩ : ∃ d, O.length = d := ⟨_, rfl⟩;rw [hnn, hmm, hF, hG] at H1;rw [hnn, hmm, hF, hG, hT, hU, hd1, hd2] at H2;rw [hnn, hmm, hF, hG, hT, hO, hd1, hd3] at H3;rw [hT, hU, hd1, hd2] at H4 H5;rw [hO, hd3, hnn, hF] at H6;rw [hF] at hA;rw [hG] at hB;rw [hnn, hmm];have hRS : R * S <= 4096 := Nat.mul_le_mul hR hS;clear hnn hmm hF hG hT hU hO hd1 hd2 hd3 hf hg hpf hpg;refine funW (S0 := fun _ => False) Tryz.func3 (((Fr.nil _ w).l hB (by simp)).l hA (by simp [En.wr])) ?_;refine goW ?_;refine rW [] ?_;refine aW fun g1 => ?_;refine dW ?_;refine eW ?_;refine goW ?_;refine rW [] ?_;refine cV (v := .bool true) (fun w' H => L22Awake_c w') ?_;refine dW ?_;refine dW ?_;refine dG ?_;refine dG ?_;refine dG ?_;refine dG ?_;refine dG ?_;refine dG ?_;refine cVg (v := .bool true) (fun w' H => H1.out.1 w' (H.all (.ls L la F) (by simp))) ?_;refine dG ?_;refine dW ?_;refine eW ?_;refine goW ?_;refine cfW ?_;refine goW ?_;refine rW [] ?_;refine dW ?_;refine dW ?_;refine dW ?_;refine dW ?_;refine dW ?_;refine dW ?_;refine dW ?_;refine dW ?_;refine cLn (α := Option Addr × Nat) (mk := fun q => .tuple #[.int .i64 ((R * S : Nat) : Int), .slice q.1 d1 q.2, .int .i64 0]) (ao := fun q => q.1) (xs := fun _ => nt T) (A := fun q => d1 <= q.2) (fun w' H => H2.out.1 w' (H.all (.ls L la F) (by simp)) (H.all (.ls L lb G) (by simp))) fun q1 => ?_;refine dW ?_;refine dW ?_;refine dW ?_;refine dW ?_;refine dW ?_;refine dW ?_;refine dW ?_;refine eW ?_;refine goW ?_;refine rW [] ?_;refine dW ?_;refine dW ?_;refine dW ?_;refine dW ?_;refine dW ?_;refine dW ?_;refine dW ?_;refine dW ?_;refine cLn (α := Option Addr × Nat) (mk := fun q => .tuple #[.int .i64 0, .slice q.1 d2 q.2, .int .i64 0]) (ao := fun q => q.1) (xs := fun _ => nt U) (A := fun q => d2 <= q.2) (fun w' H => H2.out.2.1 w' (H.all (.ls L la F) (by simp)) (H.all (.ls L lb G) (by simp))) fun q2 => ?_;refine dW ?_;refine dW ?_;refine dW ?_;refine dW ?_;refine dW ?_;refine dW ?_;refine dW ?_;refine eW ?_;refine goW ?_;refine rW [] ?_;refine dW ?_;refine dW ?_;refine dW ?_;refine dW ?_;refine cV (v := .bool true) (fun w' H => H1.out.2.1 w' (H.all (.ls L la F) (by simp))) ?_;refine dW ?_;refine dW ?_;refine dG ?_;refine dG ?_;refine dG ?_;refine dG ?_;refine cVg (v := .bool true) (fun w' H => H1.out.2.2 w' (H.all (.ls L lb G) (by simp))) ?_;refine dG ?_;refine dW ?_;refine eW ?_;refine goW ?_;refine cfW ?_;refine goW ?_;refine rW [] ?_;refine dW ?_;refine dW ?_;refine dW ?_;refine dW ?_;refine dW ?_;refine dW ?_;refine dW ?_;refine dW ?_;refine cLn (α := Option Addr × Nat) (mk := fun q => .tuple #[.int .i64 ((R * S : Nat) : Int), .slice q.1 d1 q.2, .int .i64 0]) (ao := fun q => q.1) (xs := fun _ => nt T) (A := fun q => d1 <= q.2) (fun w' H => H2.out.2.2.1 w' (H.all (.ls L lb G) (by simp)) (H.all (.ls L la F) (by simp))) fun q3 => ?_;refine dW ?_;refine dW ?_;refine dW ?_;refine dW ?_;refine dW ?_;refine dW ?_;refine dW ?_;refine eW ?_;refine goW ?_;refine rW [] ?_;refine dW ?_;refine dW ?_;refine dW ?_;refine dW ?_;refine dW ?_;refine dW ?_;refine dW ?_;refine dW ?_;refine cLn (α := Option Addr × Nat) (mk := fun q => .tuple #[.int .i64 0, .slice q.1 d2 q.2, .int .i64 0]) (ao := fun q => q.1) (xs := fun _ => nt U) (A := fun q => d2 <= q.2) (fun w' H => H2.out.2.2.2 w' (H.all (.ls L lb G) (by simp)) (H.all (.ls L la F) (by simp))) fun q4 => ?_;refine dW ?_;refine dW ?_;refine dW ?_;refine dW ?_;refine dW ?_;refine dW ?_;refine dW ?_;refine eW ?_;refine goW ?_;refine rW [] ?_;refine dW ?_;refine dB false ?_;refine dW ?_;refine dG ?_;refine dGB false ?_;refine dW ?_;refine dW ?_;refine dG ?_;refine dGB false ?_;refine dW ?_;refine dW ?_;refine dG ?_;refine dGB false ?_;refine dW ?_;refine dW ?_;refine dG ?_;refine dG ?_;refine dG ?_;refine dG ?_;refine dG ?_;refine dGE (mulI (a := R) (b := S) (by omega)) ?_;refine dGB false ?_;refine dW ?_;refine dW ?_;refine dG ?_;refine dGB false ?_;refine dW ?_;refine dW ?_;refine dG ?_;refine dGB false ?_;refine dW ?_;refine dW ?_;refine dG ?_;refine dG ?_;refine dGB false ?_;refine dW ?_;refine dW ?_;refine dG ?_;refine cVg (v := .bool true) (fun w' H => H4.out.1 w' q1.1 q1.2 (H.all (.lsn q1.1 (nt T)) (by simp))) ?_;refine dG ?_;refine dW ?_;refine dW ?_;refine dG ?_;refine cVg (v := .bool true) (fun w' H => H4.out.2 w' q2.1 q2.2 (H.all (.lsn q2.1 (nt U)) (by simp))) ?_;refine dG ?_;refine dW ?_;refine eW ?_;refine goW ?_;refine cfW ?_;refine skipW (nextW (seqW (joinW (X := Unit) (fun _ => True) (fun _ => [(3, .int .i64 ((R * S : Nat) : Int)), (4, .slice q1.1 d1 q1.2), (1, .pointer (some ⟨g1, 0, none⟩))]) (fun _ => [.row g1 25 [.int .i64 (R : Int), .int .i64 (S : Int), .slice la n ca, .slice lb m cb, .int .u64 (p : Int)], .lsn q1.1 (nt T), .ls L la F, .ls L lb G]) ?_ fun z hz => ?_)))
 · refine goW ?_;refine rW [] ?_;refine dW ?_;refine dW ?_;refine cV (v := .bool true) (fun w' H => H5.out.1 w' q1.1 q3.1 q1.2 q3.2 (H.all (.lsn q1.1 (nt T)) (by simp)) (H.all (.lsn q3.1 (nt T)) (by simp))) ?_;refine dW ?_;refine dW ?_;refine dG ?_;refine dG ?_;refine cVg (v := .bool true) (fun w' H => H5.out.2.1 w' q2.1 q4.1 q2.2 q4.2 (H.all (.lsn q2.1 (nt U)) (by simp)) (H.all (.lsn q4.1 (nt U)) (by simp))) ?_;by_cases hR0 : R = 0
   · have hR0' : (R : Int) = 0 := by omega
     refine dG ?_;refine dW ?_;refine dW ?_;refine dG ?_;refine dG ?_;refine dGB true ?_;by_cases hS0 : S = 0
     · have hS0' : (S : Int) = 0 := by omega
       refine dG ?_;refine dG ?_;refine dG ?_;refine dGB true ?_;refine dG ?_;refine dG ?_;refine dG ?_;refine dG ?_;refine cVg (v := .bool true) (fun w' H => H5.out.2.2 hR0 hS0 w' q1.1 q2.1 q1.2 q2.2 (H.all (.lsn q1.1 (nt T)) (by simp)) (H.all (.lsn q2.1 (nt U)) (by simp))) ?_;refine dG ?_;refine dG ?_;refine dW ?_;refine eW ?_;refine goW ?_;refine cfW ?_;refine goW ?_;exact joinE () trivial
     · have hS0' : ¬ (S : Int) = 0 := by omega
       refine dG ?_;refine dG ?_;refine dG ?_;refine dGB false ?_;refine dG ?_;refine dG ?_;refine uG ?_;refine uG ?_;refine uC ?_;refine uG ?_;refine dG ?_;refine dW ?_;refine eW ?_;refine goW ?_;refine cfW ?_;refine goW ?_;exact joinE () trivial
   · have hR0' : ¬ (R : Int) = 0 := by omega
     refine dG ?_;refine dW ?_;refine dW ?_;refine dG ?_;refine dG ?_;refine dGB false ?_;refine dG ?_;refine uG ?_;refine uG ?_;refine uG ?_;refine dG ?_;refine dG ?_;refine uG ?_;refine uG ?_;refine uC ?_;refine uG ?_;refine dG ?_;refine dW ?_;refine eW ?_;refine goW ?_;refine cfW ?_;refine goW ?_;exact joinE () trivial
 · refine goW ?_;refine rW [] ?_;refine dW ?_;refine dW ?_;refine dW ?_;refine dW ?_;refine cLn (α := Option Addr × Nat) (mk := fun q => .tuple #[.int .i64 (R : Int), .slice q.1 d3 q.2, .int .i64 0]) (ao := fun q => q.1) (xs := fun _ => nt O) (A := fun q => d3 <= q.2) (fun w' H => H3.out.1 w' (H.all (.ls L la F) (by simp))) fun q5 => ?_;refine dW ?_;refine dW ?_;refine dW ?_;refine dW ?_;refine dW ?_;refine dW ?_;refine dW ?_;refine eW ?_;refine goW ?_;refine rW [] ?_;refine dW ?_;refine dW ?_;refine dW ?_;refine dW ?_;refine cLn (α := Option Addr × Nat) (mk := fun q => .tuple #[.int .i64 0, .slice q.1 0 q.2, .int .i64 0]) (ao := fun q => q.1) (xs := fun _ => nt []) (A := fun q => 0 <= q.2) (fun w' H => H3.out.2.1 w' (H.all (.ls L la F) (by simp))) fun q6 => ?_;refine dW ?_;refine dW ?_;refine dW ?_;refine dW ?_;refine dW ?_;refine dW ?_;refine dW ?_;refine eW ?_;refine goW ?_;refine rW [] ?_;refine dW ?_;refine dB false ?_;refine dW ?_;refine dG ?_;refine dGB false ?_;refine dW ?_;refine dW ?_;refine dG ?_;refine dG ?_;refine dG ?_;refine dGB false ?_;refine dW ?_;refine dW ?_;refine dG ?_;refine dGB false ?_;refine dW ?_;refine dW ?_;refine dG ?_;refine dG ?_;refine dGB false ?_;refine dW ?_;refine dW ?_;refine dG ?_;refine cGg (mk := av) (ens := fun x => [.own w.heap.size (av x) ((P : Nat) : Int)]) (fun w' H => cNo' (H6.out.1 w' q5.1 q5.2 (H.all (.lsn q5.1 (nt O)) (by simp))) H.size) fun pa => ?_;simp only [av];refine dG ?_;refine dG ?_;refine cGg (mk := av) (ens := fun x => [.own w.heap.size (av x) ((P : Nat) : Int)]) (fun w' H => cNo' (H6.out.2 w' (H.all (.ls L la F) (by simp))) H.size) fun pb => ?_;simp only [av];refine cVg (v := .int .i64 0) (fun w' H => by have := ICmp_c (av pa) (av pb) ((P : Nat) : Int) ((P : Nat) : Int) w' (OwnI.int H.m1 hPb) (OwnI.int H.m0 hPb); rw [zcmp_self] at this; exact this) ?_;refine dGB false ?_;refine dW ?_;refine eW ?_;refine goW ?_;refine cfW ?_;refine goW ?_;refine rW [] ?_;refine dW ?_;refine dW ?_;refine dW ?_;refine dW ?_;refine dW ?_;refine dW ?_;refine cLn (α := Option Addr × Nat) (mk := fun q => .tuple #[.int .i64 ((R * S : Nat) : Int), .slice q.1 d1 q.2, .int .i64 0]) (ao := fun q => q.1) (xs := fun _ => nt T) (A := fun q => d1 <= q.2) (fun w' H => H3.out.2.2 w' q5.1 q5.2 (H.all (.lsn q5.1 (nt O)) (by simp)) (H.all (.ls L lb G) (by simp))) fun q7 => ?_;refine dW ?_;refine dW ?_;refine dW ?_;refine dW ?_;refine dW ?_;refine dW ?_;refine dW ?_;refine eW ?_;refine goW ?_;refine rW [] ?_;refine dW ?_;refine dB true ?_;refine dW ?_;refine dG ?_;refine dG ?_;refine dGB true ?_;refine dW ?_;refine dW ?_;refine dG ?_;refine dG ?_;refine cVg (v := .bool true) (fun w' H => H5.out.1 w' q7.1 q1.1 q7.2 q1.2 (H.all (.lsn q7.1 (nt T)) (by simp)) (H.all (.lsn q1.1 (nt T)) (by simp))) ?_;refine dW ?_;refine dW ?_;refine eW ?_;refine goW ?_;refine fin1 fun w' H => ?_;exact ⟨_, rvT, rfl, H.below⟩
end
theorem L22T_c (R S : Int) (la lb : Option Addr) (ca cb L p : Nat) (xs ys : List Int) (w : World) (hp : p < W) (hA : LsAt w L la xs) (hB : LsAt w L lb ys) (hL1 : 1 <= L) (hL : L <= 1048576) (hn : xs.length <= 1048576) (hm : ys.length <= 1048576) :
 Calls Tryz.prog 3 #[.agg #[.int .i64 R, .int .i64 S, .slice la xs.length ca, .slice lb ys.length cb, .int .u64 (p : Int)]] w fun e w' => e = .returned (.bool true) /\ Below w.heap.size w w' := by
 by_cases hs : fitB R xs = true /\ fitB S ys = true
 · obtain ⟨R, f, hR, hf, hpf, rfl, rfl⟩ := fit_nt hs.1;obtain ⟨S, g, hS, hg, hpg, rfl, rfl⟩ := fit_nt hs.2;rw [nt_length, nt_length];exact L22TY_c hp hA hB hL1 hL hR hS hf hg hpf hpg
 · exact L22TN_c hp hA hB hL1 hL hn hm hs
end Go.Proofs.YtghpbpclamfigaaGreat
namespace Go.Proofs.YtghpbpclamfigaaGreat
open Go.ChangeShapes Go.WideShapes Go.ChangeAt Go.RowKit Go.Deep
theorem array5 {α : Type} {cs : Array α} (h : cs.size = 5) : ∃ c0 c1 c2 c3 c4, cs = #[c0, c1, c2, c3, c4] := by
 obtain ⟨l⟩ := cs;match l, h with
 | [c0, c1, c2, c3, c4], _ => exact ⟨c0, c1, c2, c3, c4, rfl⟩
section
variable {H : Type} {enc : TypeId × Value -> H} {w : World} {base : Nat} {sp : Nat -> Bool} {held : Bool}
set_option maxRecDepth 100000 in
theorem open_pair {r : Reach} {b0 : Nat} {v : Value} {d : DataW H} {p : List MemPlace} (hv : Value.okWide Tryz.prog w r b0 25 v) (h : DataW.Trod enc Tryz.prog w base sp held 25 v d p) :
 ∃ (R S : Int) (la lb : Option Addr) (ca cb q : Nat) (xs ys : List Int), v = .agg #[.int .i64 R, .int .i64 S, .slice la xs.length ca, .slice lb ys.length cb, .int .u64 (q : Int)] /\ q < W /\ LsAt w (Rows.uptoBulk d) la xs /\ LsAt w (Rows.uptoBulk d) lb ys /\ xs.length <= Rows.uptoBulk d /\ ys.length <= Rows.uptoBulk d := by
 obtain ⟨cs, rfl, hsz⟩ := okWide_struct Tryz.underlying25 hv;obtain ⟨v0, v1, v2, v3, v4, rfl⟩ := array5 (hsz.trans (by kernel_rfl));obtain ⟨fuel, hf⟩ := h;obtain ⟨xs, n, _, hx, hl, hlen, hf⟩ := DataW.trod_struct Tryz.underlying25 hf;match xs, hlen with
 | [y0, y1, y2, y3, y4], _ =>
  have h0 : DataW.trod enc Tryz.prog w base sp held n 3 [v0] = some y0 := hf 0 _ rfl;have h1 : DataW.trod enc Tryz.prog w base sp held n 3 [v1] = some y1 := hf 1 _ rfl;have h2 : DataW.trod enc Tryz.prog w base sp held n 22 [v2] = some y2 := hf 2 _ rfl;have h3 : DataW.trod enc Tryz.prog w base sp held n 22 [v3] = some y3 := hf 3 _ rfl;have h4 : DataW.trod enc Tryz.prog w base sp held n 23 [v4] = some y4 := hf 4 _ rfl;obtain ⟨R, e0, -, -⟩ := DataW.trod_int Tryz.underlying3 h0;obtain ⟨S, e1, -, -⟩ := DataW.trod_int Tryz.underlying3 h1;obtain ⟨la, l2, ca, us, e2, hl2, _, hL2, hn2⟩ := open_nums h2;obtain ⟨lb, l3, cb, vs, e3, hl3, _, hL3, hn3⟩ := open_nums h3;obtain ⟨q, e4, -, hq⟩ := DataW.trod_int Tryz.underlying23 h4;simp only [List.cons.injEq, and_true] at e0 e1 e2 e3 e4;subst e0 e1 e2 e3 e4 hl2 hl3;have hd : d = .agg [y0.1, y1.1, y2.1, y3.1, y4.1] := by have := congrArg Prod.fst hx; simpa using this
  have hq2 : 0 <= q /\ q <= 18446744073709551615 := by simpa [Lit.wf, IntKind.min, IntKind.max, IntKind.signed, IntKind.bits] using hq
  have hb : Rows.uptoBulk d = Rows.uptoBulk y0.1 + (Rows.uptoBulk y1.1 + (Rows.uptoBulk y2.1 + (Rows.uptoBulk y3.1 + (Rows.uptoBulk y4.1 + 0)))) + 1 := by rw [hd, bulk_agg]; simp only [Rows.uptoBulkAll]
  have hq3 : ((q.natAbs : Nat) : Int) = q := by omega
  refine ⟨R, S, la, lb, ca, cb, q.natAbs, us, vs, by rw [hq3], by unfold W; omega, ?_, ?_, by omega, by omega⟩
  · exact LsAt.up hL2 (by omega)
  · exact LsAt.up hL3 (by omega)
end
namespace lawG
theorem own : ownKnob Tryz.prog.godebug = none := by kernel_rfl
set_option maxRecDepth 100000 in
theorem contract (H : Type) (enc : TypeId × Value -> H) (Wd : World) (base : Nat) (args : Array Value) (ds gs : List (DataW H)) (before : List MemPlace)
 (hval : ∀ (j : Nat) t v, Tryz.f3.params[j]? = some t -> args[j]? = some v -> Value.okWide Tryz.prog Wd .any base t v)
 (hW : DataW.Whole enc Tryz.prog Tryz.f3.params.toList Rows.groupTensorsSpec.vars false Wd args.toList ds gs before) (hk : Rows.uptoSmall H (ds ++ gs) = true) :
 Calls Tryz.prog 3 args Wd fun e W' => ∃ v, e = .returned v /\ Rows.groupTensorsSpec.post enc Tryz.prog Tryz.f3 false true false false Wd args v W' := by
 have hW' := hW;obtain ⟨p, q, hA0, hV, rfl, hfz, hnd⟩ := hW;have hA : DataW.TrodAll enc Tryz.prog Wd 0 (fun _ => true) true Tryz.f3.params.toList args.toList ds p := hA0;rw [Tryz.params3] at hA hval;obtain ⟨v1, vs1, d1, ds1, p1, q1, hargs, rfl, rfl, h1, r1⟩ := trodAll_cons hA;obtain ⟨rfl, rfl, rfl⟩ := trodAll_nil r1;obtain rfl : args = #[v1] := by cases args; simp_all
 obtain ⟨rfl, rfl⟩ := trodVars_none hV;have hbk := bulk_bound hk;simp only [List.append_nil, Rows.uptoBulkAll] at hbk;obtain ⟨R, S, la, lb, ca, cb, P, xs, ys, rfl, hP, hx, hy, hn, hm⟩ := open_pair (hval 0 _ v1 rfl rfl) h1;have hb1 := bulk_one d1;refine (L22T_c R S la lb ca cb (Rows.uptoBulk d1) P xs ys Wd hP hx hy hb1 (by omega) (by omega) (by omega)).mono fun e W' ⟨he, hg⟩ => ?_;subst he;exact ⟨_, rfl, law_post (by kernel_rfl) rfl (by kernel_rfl) hW' rfl rfl rfl hg⟩
set_option maxRecDepth 100000 in
theorem lifted (os : Os) (started : os.Started) (H : Type) (enc : TypeId × Value -> H) (F : Stop.Interp) :
 ReturnsInHanded {} Tryz.checked os 3 .any ((Rows.OpenSpec.upto Rows.groupTensorsSpec).pre6 enc Tryz.prog Tryz.f3 Rows.groupTensorsUptoRow.domain false) (((Rows.OpenSpec.upto Rows.groupTensorsSpec).at F).post enc Tryz.prog Tryz.f3 false true false false) := by
 refine returnsInHanded_of_cond (C := Tryz.checked) (s := Rows.OpenSpec.upto Rows.groupTensorsSpec) (k := Rows.uptoSmall) rfl own started (by kernel_rfl) Tryz.func3
  (OpenSpec.witness (enc := enc) (C := Tryz.checked) (s := Rows.OpenSpec.upto Rows.groupTensorsSpec) (k := Rows.uptoSmall) rfl false ⟨#[], #[.agg #[.int .i64 0, .int .i64 0, .slice none 0 0, .slice none 0 0, .int .u64 0]], []⟩ 8 (by kernel_rfl) (by kernel_rfl) (by kernel_rfl)
   (x := ([.agg [.lit (.int .i64 0), .lit (.int .i64 0), .nil, .nil, .lit (.int .u64 0)]], [], [])) (by kernel_rfl) rfl (by kernel_rfl)) ?_
 intro W base args ds gs before hval hW _ hk _;exact contract H enc W base args ds gs before hval hW hk
theorem over : Rows.groupTensorsUptoRow.holds Tryz.pinned (Rows.OpenSpec.upto Rows.groupTensorsSpec) :=
 OpenClaim.holds_of_cond 3 Tryz.f3 rfl rfl rfl rfl rfl rfl rfl ⟨rfl, rfl, rfl, rfl, rfl⟩ rfl rfl rfl rfl rfl (by kernel_rfl) Tryz.func3 (by kernel_rfl)
  (of_decide_eq_true (by kernel_rfl)) (by unfold Func.isWrapper; first | (rw [if_pos (by decide +kernel)]; kernel_rfl) | (rw [if_neg (by decide +kernel)]; exact ⟨rfl, rfl⟩))
  (fun os started H enc _ F => lifted os started H enc F)
theorem proved : Rows.GroupTensorsUptoSaid := over
end lawG
end Go.Proofs.YtghpbpclamfigaaGreat
