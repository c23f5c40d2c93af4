/- Part 4 of 9 of the proof that the law HnfVolume returns true for every input of bulk at most 1048576 and leaves its arguments as they were: here the contracts of the functions that it calls, and plain lemmas. -/
import Derived.Test.YtdgfhcaokigieaaGreatVlC
set_option linter.all false
namespace Go.Proofs.YtdgfhcaokigieaaGreat
open Go.RowKit
attribute [local go_sem] run_store_fn
theorem LadAt.below {w w' : World} {S : LSt} (h : LadAt w S) (hb : Below w.heap.size w w') : LadAt w' S :=
 ⟨h.lad.below hb h.lad.lt, h.sides.below hb h.sides.lt, h.box.below hb h.box.lt, h.mat.below hb, fun t ht => by obtain ⟨V, hV⟩ := h.ext t ht; exact ⟨V, hV.sd.below hb, hV.box3.below hb hV.box3.lt, hV.rel, hV.own, hV.apart⟩⟩
theorem Chg.ownAll {S : LSt} {w w' : World} (h : Chg S.rws w w') : Chg S.own w w' := h.mono (fun _ _ e => .inl e)
theorem SdAt.keepP {w w' : World} {S : LSt} (h : SdAt w S) (hc : Chg S.rws w w') {b : Nat} {t : TypeId} {cs : List Value} (hb : RowP w b t cs) (h1 : t ≠ 37) (h2 : t ≠ 22) : RowP w' b t cs := by
 obtain ⟨tl, n, hr⟩ := hb;exact ⟨tl, n, h.keep hc hr h1 h2⟩
theorem LSt.hdr_len {S : LSt} {R : List Hd} (h : R.length = S.R.length) : (S.withR R).hdr = S.hdr := by unfold LSt.hdr LSt.withR; rw [h]
theorem LadAt.own_lt {w : World} {S : LSt} (h : LadAt w S) (k : Nat) (hk : S.own k) : k < w.heap.size := by
 have key : ∀ {S : LSt}, SdAt w S -> S.rws k -> k < w.heap.size := fun hs e => by
  rcases e with rfl | ⟨r, hr, rfl⟩
  · exact hs.mat.out.lt
  · exact (hs.mat.row r hr).lt
 rcases hk with e | ⟨t, ht, e⟩
 · exact key h.sd e
 · obtain ⟨V, hV⟩ := h.ext t ht;exact key hV.sd ((hV.own k).1 e)
structure TwoS.Ok (t : TwoS) : Prop where
 len : ∀ R V, t.rel R V -> V.length = R.length
 sh : ∀ R V, t.rel R V -> ∀ r ∈ V, ∀ q ∈ V, r.xs.length = q.xs.length
 wide : ∀ R V, t.rel R V -> ∀ r ∈ V, r.xs.length <= 4611686018427387903
 bd : ∀ R V, t.rel R V -> t.fit R -> ∀ r ∈ V, ∀ x ∈ r.xs, wlen x.natAbs <= 4398046511103
 swap : ∀ R V i j (hi : i < R.length) (hj : j < R.length) (hi' : i < V.length) (hj' : j < V.length), i ≠ j -> t.rel R V -> t.rel (swapR R i j hi hj) (swapR V i j hi' hj')
 turn : ∀ R V i (hi : i < R.length) (hi' : i < V.length), t.rel R V -> t.rel (turnR R i hi) (turnR V i hi')
 add : ∀ R V i j k (hi : i < R.length) (hj : j < R.length) (hi' : i < V.length) (hj' : j < V.length), i ≠ j -> t.rel R V -> t.rel (addR R i j k hi hj) (addR V j i (-k) hj' hi')
 mix : ∀ R V i j a b c d (hi : i < R.length) (hj : j < R.length) (hi' : i < V.length) (hj' : j < V.length), i ≠ j -> a * d - b * c = 1 -> t.rel R V -> t.rel (mixR R i j a b c d hi hj) (mixR V i j d (-c) (-b) a hi' hj')
 no : False
def LSt.good (S : LSt) : Prop := ∀ t, S.two = some t -> t.Ok
def LSt.okR (S : LSt) : Prop := ∀ t, S.two = some t -> t.fit S.R
theorem LadAt.fns {w : World} {S : LSt} (h : LadAt w S) : (∀ k, k < 4 -> w.cell? ⟨S.sb, k, none⟩ = (likeF S.g)[k]?) /\ ∀ t, S.two = some t -> ∀ k, k < 4 -> w.cell? ⟨S.sb, 4 + k, none⟩ = (agF t.g t.g3)[k]? := by
 refine ⟨fun k hk => ?_, fun t ht k hk => ?_⟩
 · rw [h.sides.cell (by simp [likeF]; omega), List.getElem?_append_left (by simp [likeF]; omega)]
 · have e : S.more = agF t.g t.g3 := by unfold LSt.more; rw [ht]
   rw [h.sides.cell (by rw [e]; simp [likeF, agF]; omega), List.getElem?_append_right (by simp [likeF]), e];simp [likeF]
theorem LadAt.one {w : World} {S : LSt} (h : LadAt w S) (hS : S.two = none) : w.cell? ⟨S.lb, 1, none⟩ = some (.slice (some ⟨S.sb, 0, none⟩) 1 1) := by
 have := h.lad.cell 1;simpa [LSt.ns, LSt.cs, hS] using this
theorem LadAt.upd {w w' : World} {S : LSt} {R : List Hd} (h : LadAt w S) (hS : S.two = none) (hs : SdAt w' (S.withR R)) (hc : Chg S.rws w w') (hl : R.length = S.R.length) : LadAt w' (S.withR R) :=
 ⟨by rw [LSt.hdr_len hl]; exact h.sd.keep hc h.lad (by decide) (by decide), h.sd.keepP hc h.sides (by decide) (by decide), hs.box, hs.mat, fun t ht => by rw [show (S.withR R).two = S.two from rfl, hS] at ht; cases ht⟩
theorem rws_blk {S : LSt} {R : List Hd} (h : ∀ b, b ∈ R.map Hd.blk ↔ b ∈ S.R.map Hd.blk) (k : Nat) : (S.withR R).rws k ↔ S.rws k := by
 have hm : ∀ Q : List Hd, (∃ h ∈ Q, h.blk = k) ↔ k ∈ Q.map Hd.blk := fun Q => by simp
 show (k = S.o ∨ ∃ h ∈ R, h.blk = k) ↔ (k = S.o ∨ ∃ h ∈ S.R, h.blk = k);rw [hm, hm, h]
theorem swapR_blk {R : List Hd} {i j : Nat} (hi : i < R.length) (hj : j < R.length) (b : Nat) : b ∈ (swapR R i j hi hj).map Hd.blk ↔ b ∈ R.map Hd.blk := by
 constructor
 · intro h;obtain ⟨q, hq, rfl⟩ := List.mem_map.1 h;obtain ⟨m, hm, rfl⟩ := List.getElem_of_mem hq;rw [swapR_length] at hm;rw [swapR_get hi hj hm];exact List.mem_map.2 ⟨_, List.getElem_mem _, rfl⟩
 · intro h;obtain ⟨q, hq, rfl⟩ := List.mem_map.1 h;obtain ⟨m, hm, rfl⟩ := List.getElem_of_mem hq;have hs : swp i j m < R.length := swp_lt hi hj hm;have e : swp i j (swp i j m) = m := by unfold swp; (repeat' split) <;> omega
   refine List.mem_map.2 ⟨(swapR R i j hi hj)[swp i j m]'(by rw [swapR_length]; exact hs), List.getElem_mem _, ?_⟩;rw [swapR_get hi hj hs];congr 2
theorem setXs_blkm {R : List Hd} {i : Nat} {xs : List Int} (b : Nat) : b ∈ (setXs R i xs).map Hd.blk ↔ b ∈ R.map Hd.blk := by rw [setXs_blk]
theorem addRow_zero {xs ys : List Int} (h : xs.length = ys.length) : addRow 0 xs ys = xs := by
 refine List.ext_getElem (by simp [addRow, h]) fun j h1 h2 => ?_;simp [addRow]
theorem setXs_self {R : List Hd} {i : Nat} (hi : i < R.length) : setXs R i R[i].xs = R := by
 refine List.ext_getElem (by simp [setXs_length]) fun j h1 h2 => ?_;rw [setXs_get h2];split
 · rename_i e; subst e; rfl
 · rfl
set_option maxRecDepth 100000 in
set_option maxHeartbeats 4000000 in
theorem MSwap_c0 (S : LSt) (i j : Nat) (w : World) (h : LadAt w S) (hi : i < S.R.length) (hj : j < S.R.length) (hij : i ≠ j) (hS : S.two = none) :
 Calls Tryz.prog 52 #[.pointer (some ⟨S.lb, 0, none⟩), .int .i64 (i : Int), .int .i64 (j : Int)] w fun e w' => e = .returned (.tuple #[]) /\ LadAt w' (S.withR (swapR S.R i j hi hj)) /\ Chg S.own w w' := by
 have c1 : w.cell? ⟨S.lb, 1, none⟩ = some (.slice (some ⟨S.sb, 0, none⟩) 1 1) := h.one hS;have HLA := Lib.hid h; clear h;have HCA := Lib.hid (Chg.refl S.own w);go_enter Tryz.func52, Tryz.ntmps52;go_wp2;go_loopw [13] (fun ct_ wr => (ct_ = .int .i64 0 /\ Hid (LadAt wr S) /\ Hid (Chg S.own w wr)) ∨ (ct_ = .int .i64 1 /\ Hid (LadAt wr (S.withR (swapR S.R i j hi hj))) /\ Hid (Chg S.own w wr))) (fun c _ => 1 - (intOf c).toNat)
 case atStart => exact .inl ⟨rfl, HLA, HCA⟩
 case round =>
  clear c1;rcases hrel with ⟨rfl, hL, hC⟩ | ⟨rfl, hL, hC⟩
  · skip;have hfn := hL.out.fns.1;have s0 : wr.cell? ⟨S.sb, 0, none⟩ = some (.func (.func 67) #[] #[.pointer (some ⟨S.g, 0, none⟩)]) := hfn 0 (by decide);have s1 : wr.cell? ⟨S.sb, 1, none⟩ = some (.func (.func 68) #[] #[.pointer (some ⟨S.g, 0, none⟩)]) := hfn 1 (by decide);have s2 : wr.cell? ⟨S.sb, 2, none⟩ = some (.func (.func 70) #[] #[.pointer (some ⟨S.g, 0, none⟩)]) := hfn 2 (by decide);have s3 : wr.cell? ⟨S.sb, 3, none⟩ = some (.func (.func 72) #[] #[.pointer (some ⟨S.g, 0, none⟩)]) := hfn 3 (by decide);clear hfn;have hb1 : Below wr.heap.size wr (wr.alloc (.cells #[.func (.func 67) #[] #[.pointer (some ⟨S.g, 0, none⟩)], .func (.func 68) #[] #[.pointer (some ⟨S.g, 0, none⟩)], .func (.func 70) #[] #[.pointer (some ⟨S.g, 0, none⟩)], .func (.func 72) #[] #[.pointer (some ⟨S.g, 0, none⟩)]] 94)) := (Below.refl _ _).alloc (Nat.le_refl _) _

    have hL1 := Lib.hid (hL.out.below hb1);have hC1 := Lib.hid (hC.out.below hb1);have HB1 := Lib.hid hb1;go_wp2_with fail
    refine (LikeSwap_c S i j _ hL1.out.sd hi hj hij).mono ?_;rintro e w4 ⟨rfl, hL4, hC4⟩;have HL4 := Lib.hid (hL1.out.upd hS hL4 hC4 (swapR_length hi hj));have HC4 := Lib.hid (hC1.out.trans hC4.ownAll);clear hL4 hC4 s0 s1 s2 s3;go_wp2;go_roundw
    case rel => exact .inr ⟨by go_num, HL4, HC4⟩
    case measure => simp [intOf]
  · go_wp2;refine bodyPost_end (results_none (by kernel_rfl) _ _ _) rfl ?_;exact ⟨rfl, hL.out, hC.out⟩
theorem MSwap_c (S : LSt) (i j : Nat) (w : World) (h : LadAt w S) (hi : i < S.R.length) (hj : j < S.R.length) (hij : i ≠ j) (hG : S.good) :
 Calls Tryz.prog 52 #[.pointer (some ⟨S.lb, 0, none⟩), .int .i64 (i : Int), .int .i64 (j : Int)] w fun e w' => e = .returned (.tuple #[]) /\ LadAt w' (S.withR (swapR S.R i j hi hj)) /\ Chg S.own w w' := by
 rcases hS : S.two with _ | t
 · exact MSwap_c0 S i j w h hi hj hij hS
 · exact (hG t hS).no.elim
set_option maxRecDepth 100000 in
set_option maxHeartbeats 4000000 in
theorem MTurn_c0 (S : LSt) (i : Nat) (w : World) (h : LadAt w S) (hi : i < S.R.length) (hxL : ∀ x ∈ S.R[i].xs, wlen x.natAbs <= 17592186044415) (hlen : S.R[i].xs.length <= 4611686018427387903) (hS : S.two = none) :
 Calls Tryz.prog 76 #[.pointer (some ⟨S.lb, 0, none⟩), .int .i64 (i : Int)] w fun e w' => e = .returned (.tuple #[]) /\ LadAt w' (S.withR (turnR S.R i hi)) /\ Chg S.own w w' := by
 have c1 : w.cell? ⟨S.lb, 1, none⟩ = some (.slice (some ⟨S.sb, 0, none⟩) 1 1) := h.one hS;have HXL := Lib.hid hxL; clear hxL;have HLA := Lib.hid h; clear h;have HCA := Lib.hid (Chg.refl S.own w);go_enter Tryz.func76, Tryz.ntmps76;go_wp2;go_loopw [11] (fun ct_ wr => (ct_ = .int .i64 0 /\ Hid (LadAt wr S) /\ Hid (Chg S.own w wr)) ∨ (ct_ = .int .i64 1 /\ Hid (LadAt wr (S.withR (turnR S.R i hi))) /\ Hid (Chg S.own w wr))) (fun c _ => 1 - (intOf c).toNat)
 case atStart => exact .inl ⟨rfl, HLA, HCA⟩
 case round =>
  clear c1;rcases hrel with ⟨rfl, hL, hC⟩ | ⟨rfl, hL, hC⟩
  · skip;have hfn := hL.out.fns.1;have s0 : wr.cell? ⟨S.sb, 0, none⟩ = some (.func (.func 67) #[] #[.pointer (some ⟨S.g, 0, none⟩)]) := hfn 0 (by decide);have s1 : wr.cell? ⟨S.sb, 1, none⟩ = some (.func (.func 68) #[] #[.pointer (some ⟨S.g, 0, none⟩)]) := hfn 1 (by decide);have s2 : wr.cell? ⟨S.sb, 2, none⟩ = some (.func (.func 70) #[] #[.pointer (some ⟨S.g, 0, none⟩)]) := hfn 2 (by decide);have s3 : wr.cell? ⟨S.sb, 3, none⟩ = some (.func (.func 72) #[] #[.pointer (some ⟨S.g, 0, none⟩)]) := hfn 3 (by decide);clear hfn;have hb1 : Below wr.heap.size wr (wr.alloc (.cells #[.func (.func 67) #[] #[.pointer (some ⟨S.g, 0, none⟩)], .func (.func 68) #[] #[.pointer (some ⟨S.g, 0, none⟩)], .func (.func 70) #[] #[.pointer (some ⟨S.g, 0, none⟩)], .func (.func 72) #[] #[.pointer (some ⟨S.g, 0, none⟩)]] 94)) := (Below.refl _ _).alloc (Nat.le_refl _) _

    have hL1 := Lib.hid (hL.out.below hb1);have hC1 := Lib.hid (hC.out.below hb1);have HB1 := Lib.hid hb1;go_wp2_with fail
    refine (LikeTurn_c S i _ hL1.out.sd hi HXL.out hlen).mono ?_;rintro e w4 ⟨rfl, hL4, hC4⟩;have HL4 := Lib.hid (hL1.out.upd hS hL4 hC4 (by unfold turnR; rw [setXs_length]));have HC4 := Lib.hid (hC1.out.trans hC4.ownAll);clear hL4 hC4 s0 s1 s2 s3;go_wp2;go_roundw
    case rel => exact .inr ⟨by go_num, HL4, HC4⟩
    case measure => simp [intOf]
  · go_wp2;refine bodyPost_end (results_none (by kernel_rfl) _ _ _) rfl ?_;exact ⟨rfl, hL.out, hC.out⟩
theorem MTurn_c (S : LSt) (i : Nat) (w : World) (h : LadAt w S) (hi : i < S.R.length) (hxL : ∀ x ∈ S.R[i].xs, wlen x.natAbs <= 17592186044415) (hlen : S.R[i].xs.length <= 4611686018427387903) (hG : S.good) (hF : S.okR) :
 Calls Tryz.prog 76 #[.pointer (some ⟨S.lb, 0, none⟩), .int .i64 (i : Int)] w fun e w' => e = .returned (.tuple #[]) /\ LadAt w' (S.withR (turnR S.R i hi)) /\ Chg S.own w w' := by
 rcases hS : S.two with _ | t
 · exact MTurn_c0 S i w h hi hxL hlen hS
 · exact (hG t hS).no.elim
set_option maxRecDepth 100000 in
set_option maxHeartbeats 4000000 in
theorem MAdd_c0 (S : LSt) (i j : Nat) (kv : Value) (k : Int) (LA LB : Nat) (w : World) (h : LadAt w S) (hi : i < S.R.length) (hj : j < S.R.length) (hij : i ≠ j) (hK : IntAt w LA kv k) (hl : S.R[i].xs.length = S.R[j].xs.length) (hxL : ∀ x ∈ S.R[i].xs, wlen x.natAbs <= 17592186044415) (hyL : ∀ y ∈ S.R[j].xs, wlen y.natAbs <= LB) (hLab : LA + LB <= 17592186044415) (hlen : S.R[i].xs.length <= 4611686018427387903) (hS : S.two = none) :
 Calls Tryz.prog 88 #[.pointer (some ⟨S.lb, 0, none⟩), .int .i64 (i : Int), .int .i64 (j : Int), kv] w fun e w' => e = .returned (.tuple #[]) /\ LadAt w' (S.withR (addR S.R i j k hi hj)) /\ Chg S.own w w' := by
 obtain ⟨kp, rfl⟩ := hK.parts;have HXL := Lib.hid hxL; clear hxL;have HYL := Lib.hid hyL; clear hyL;have Hl := Lib.hid hl; clear hl;have HK := Lib.hid hK; clear hK;have HL := Lib.hid h; clear h;go_enter Tryz.func88, Tryz.ntmps88;unfold av at *;go_wp2_with fail
 have hb0 : Below w.heap.size w (w.alloc (.cells #[.bool kp.1, .slice kp.2.1 kp.2.2.1 kp.2.2.2] 37)) := (Below.refl _ _).alloc (Nat.le_refl _) _;have hr0 := RowAt.new w #[.bool kp.1, .slice kp.2.1 kp.2.2.1 kp.2.2.2] 37;generalize w.alloc (.cells #[.bool kp.1, .slice kp.2.1 kp.2.2.1 kp.2.2.2] 37) = wB at *;have hKB := HK.out.below hb0;refine (ISign_c _ k _ (hKB.mono (by omega))).mono ?_;rintro e wA ⟨rfl, hbA⟩;have HLA := Lib.hid ((HL.out.below hb0).below hbA);have HCA := Lib.hid ((Chg.of_below (S := S.own) hb0).below hbA);have HKA := Lib.hid (hKB.below hbA);have HRA := Lib.hid (hr0.below hbA hr0.lt);have hsA : w.heap.size < wA.heap.size := HRA.out.lt;have hso : ¬ S.own w.heap.size := by
  exact fun e => absurd (HL.out.own_lt _ e) (Nat.lt_irrefl _)
 have Hso := Lib.hid hso; clear hso;clear hb0 hr0 hKB hbA;by_cases hk0 : k = 0
 · have hz : zsign k = 0 := zsign_beq.2 hk0;rw [hz];have HK0 := Lib.hid hk0; clear hk0 hz;go_wp2;refine bodyPost_ret (results_none (by kernel_rfl) _ _ _) rfl ?_;have e : addR S.R i j k hi hj = S.R := by unfold addR; rw [HK0.out, addRow_zero Hl.out, setXs_self hi]
   rw [e];exact ⟨rfl, HLA.out, HCA.out⟩
 have hn0 : ¬ zsign k = 0 := fun h => hk0 (zsign_beq.1 h);obtain ⟨s, hs⟩ : ∃ s, zsign k = s := ⟨_, rfl⟩;rw [hs] at hn0 ⊢;have hb0 : (s == 0) = false := by simpa using hn0
 clear hs hk0;have c1 : wA.cell? ⟨S.lb, 1, none⟩ = some (.slice (some ⟨S.sb, 0, none⟩) 1 1) := HLA.out.one hS;go_wp2;clear hb0 hn0;go_loopw [18] (fun ct_ wr => (ct_ = .int .i64 0 /\ Hid (LadAt wr S) /\ Hid (Chg S.own w wr) /\ Hid (IntAt wr LA (av kp) k) /\ Hid (RowAt wr w.heap.size 37 [.bool kp.1, .slice kp.2.1 kp.2.2.1 kp.2.2.2])) ∨ (ct_ = .int .i64 1 /\ Hid (LadAt wr (S.withR (addR S.R i j k hi hj))) /\ Hid (Chg S.own w wr))) (fun c _ => 1 - (intOf c).toNat)
 case atStart => exact .inl ⟨rfl, HLA, HCA, HKA, HRA⟩
 case round =>
  clear c1;rcases hrel with ⟨rfl, hL, hC, hKr, hRr⟩ | ⟨rfl, hL, hC⟩
  · skip;have hfn := hL.out.fns.1;have s0 : wr.cell? ⟨S.sb, 0, none⟩ = some (.func (.func 67) #[] #[.pointer (some ⟨S.g, 0, none⟩)]) := hfn 0 (by decide);have s1 : wr.cell? ⟨S.sb, 1, none⟩ = some (.func (.func 68) #[] #[.pointer (some ⟨S.g, 0, none⟩)]) := hfn 1 (by decide);have s2 : wr.cell? ⟨S.sb, 2, none⟩ = some (.func (.func 70) #[] #[.pointer (some ⟨S.g, 0, none⟩)]) := hfn 2 (by decide);have s3 : wr.cell? ⟨S.sb, 3, none⟩ = some (.func (.func 72) #[] #[.pointer (some ⟨S.g, 0, none⟩)]) := hfn 3 (by decide);clear hfn;have hb1 : Below wr.heap.size wr (wr.alloc (.cells #[.func (.func 67) #[] #[.pointer (some ⟨S.g, 0, none⟩)], .func (.func 68) #[] #[.pointer (some ⟨S.g, 0, none⟩)], .func (.func 70) #[] #[.pointer (some ⟨S.g, 0, none⟩)], .func (.func 72) #[] #[.pointer (some ⟨S.g, 0, none⟩)]] 94)) := (Below.refl _ _).alloc (Nat.le_refl _) _;have hK1 := Lib.hid (hKr.out.below hb1);have hR1 := hRr.out.below hb1 hRr.out.lt;have k0 := hR1.cell 0;have k1 := hR1.cell 1;try dsimp only at k0 k1
    have hL1 := Lib.hid (hL.out.below hb1);have hC1 := Lib.hid (hC.out.below hb1);have HB1 := Lib.hid hb1;go_wp2_with fail
    refine (LikeAdd_c S i j (av kp) k LA LB _ hL1.out.sd hi hj hij hK1.out Hl.out HXL.out HYL.out hLab hlen).mono ?_;rintro e w4 ⟨rfl, hL4, hC4⟩;have HL4 := Lib.hid (hL1.out.upd hS hL4 hC4 (by unfold addR; rw [setXs_length]));have HC4 := Lib.hid (hC1.out.trans hC4.ownAll);clear hL4 hC4 s0 s1 s2 s3;go_wp2;go_roundw
    case rel => exact .inr ⟨by go_num, HL4, HC4⟩
    case measure => simp [intOf]
  · go_wp2;refine bodyPost_end (results_none (by kernel_rfl) _ _ _) rfl ?_;exact ⟨rfl, hL.out, hC.out⟩
theorem MAdd_c (S : LSt) (i j : Nat) (kv : Value) (k : Int) (LA LB : Nat) (w : World) (h : LadAt w S) (hi : i < S.R.length) (hj : j < S.R.length) (hij : i ≠ j) (hK : IntAt w LA kv k) (hl : S.R[i].xs.length = S.R[j].xs.length) (hxL : ∀ x ∈ S.R[i].xs, wlen x.natAbs <= 17592186044415) (hyL : ∀ y ∈ S.R[j].xs, wlen y.natAbs <= LB) (hLab : LA + LB <= 17592186044415) (hlen : S.R[i].xs.length <= 4611686018427387903) (hG : S.good) (hF : S.okR) (hLA2 : LA <= 13194139533312) :
 Calls Tryz.prog 88 #[.pointer (some ⟨S.lb, 0, none⟩), .int .i64 (i : Int), .int .i64 (j : Int), kv] w fun e w' => e = .returned (.tuple #[]) /\ LadAt w' (S.withR (addR S.R i j k hi hj)) /\ Chg S.own w w' := by
 rcases hS : S.two with _ | t
 · exact MAdd_c0 S i j kv k LA LB w h hi hj hij hK hl hxL hyL hLab hlen hS
 · exact (hG t hS).no.elim
set_option maxRecDepth 100000 in
set_option maxHeartbeats 4000000 in
theorem MMix_c0 (S : LSt) (i j : Nat) (mp mq mr ms : P4) (a b c d : Int) (LA LB : Nat) (w : World) (h : LadAt w S) (hi : i < S.R.length) (hj : j < S.R.length) (hij : i ≠ j) (hA : IntAt w LA (av mp) a) (hB : IntAt w LA (av mq) b) (hC : IntAt w LA (av mr) c) (hD : IntAt w LA (av ms) d) (hl : S.R[i].xs.length = S.R[j].xs.length) (hxL : ∀ x ∈ S.R[i].xs, wlen x.natAbs <= LB) (hyL : ∀ y ∈ S.R[j].xs, wlen y.natAbs <= LB) (hLab : LA + LB <= 17592186044415) (hlen : S.R[i].xs.length <= 4611686018427387903) (hS : S.two = none) :
 Calls Tryz.prog 91 #[.pointer (some ⟨S.lb, 0, none⟩), .int .i64 (i : Int), .int .i64 (j : Int), .agg #[.bool mp.1, .slice mp.2.1 mp.2.2.1 mp.2.2.2, .bool mq.1, .slice mq.2.1 mq.2.2.1 mq.2.2.2, .bool mr.1, .slice mr.2.1 mr.2.2.1 mr.2.2.2, .bool ms.1, .slice ms.2.1 ms.2.2.1 ms.2.2.2]] w fun e w' => e = .returned (.tuple #[]) /\ LadAt w' (S.withR (mixR S.R i j a b c d hi hj)) /\ Chg S.own w w' := by
 have HXL := Lib.hid hxL; clear hxL;have HYL := Lib.hid hyL; clear hyL;have Hl := Lib.hid hl; clear hl;have HI : Hid (IntAt w LA (av mp) a /\ IntAt w LA (av mq) b /\ IntAt w LA (av mr) c /\ IntAt w LA (av ms) d) := Lib.hid ⟨hA, hB, hC, hD⟩;clear hA hB hC hD;have HL := Lib.hid h; clear h;have Hso : Hid (¬ S.own w.heap.size) := Lib.hid (fun e => absurd (HL.out.own_lt _ e) (Nat.lt_irrefl _));have hb0 : Below w.heap.size w (w.alloc (.cells #[.bool mp.1, .slice mp.2.1 mp.2.2.1 mp.2.2.2, .bool mq.1, .slice mq.2.1 mq.2.2.1 mq.2.2.2, .bool mr.1, .slice mr.2.1 mr.2.2.1 mr.2.2.2, .bool ms.1, .slice ms.2.1 ms.2.2.1 ms.2.2.2] 106)) := (Below.refl _ _).alloc (Nat.le_refl _) _;have hr0 := RowAt.new w #[.bool mp.1, .slice mp.2.1 mp.2.2.1 mp.2.2.2, .bool mq.1, .slice mq.2.1 mq.2.2.1 mq.2.2.2, .bool mr.1, .slice mr.2.1 mr.2.2.1 mr.2.2.2, .bool ms.1, .slice ms.2.1 ms.2.2.1 ms.2.2.2] 106;have HLA := Lib.hid (HL.out.below hb0);have HCA := Lib.hid (Chg.of_below (S := S.own) hb0);have HIA : Hid (IntAt (w.alloc (.cells #[.bool mp.1, .slice mp.2.1 mp.2.2.1 mp.2.2.2, .bool mq.1, .slice mq.2.1 mq.2.2.1 mq.2.2.2, .bool mr.1, .slice mr.2.1 mr.2.2.1 mr.2.2.2, .bool ms.1, .slice ms.2.1 ms.2.2.1 ms.2.2.2] 106)) LA (av mp) a /\ IntAt (w.alloc (.cells #[.bool mp.1, .slice mp.2.1 mp.2.2.1 mp.2.2.2, .bool mq.1, .slice mq.2.1 mq.2.2.1 mq.2.2.2, .bool mr.1, .slice mr.2.1 mr.2.2.1 mr.2.2.2, .bool ms.1, .slice ms.2.1 ms.2.2.1 ms.2.2.2] 106)) LA (av mq) b /\ IntAt (w.alloc (.cells #[.bool mp.1, .slice mp.2.1 mp.2.2.1 mp.2.2.2, .bool mq.1, .slice mq.2.1 mq.2.2.1 mq.2.2.2, .bool mr.1, .slice mr.2.1 mr.2.2.1 mr.2.2.2, .bool ms.1, .slice ms.2.1 ms.2.2.1 ms.2.2.2] 106)) LA (av mr) c /\ IntAt (w.alloc (.cells #[.bool mp.1, .slice mp.2.1 mp.2.2.1 mp.2.2.2, .bool mq.1, .slice mq.2.1 mq.2.2.1 mq.2.2.2, .bool mr.1, .slice mr.2.1 mr.2.2.1 mr.2.2.2, .bool ms.1, .slice ms.2.1 ms.2.2.1 ms.2.2.2] 106)) LA (av ms) d) := Lib.hid ⟨HI.out.1.below hb0, HI.out.2.1.below hb0, HI.out.2.2.1.below hb0, HI.out.2.2.2.below hb0⟩;have HRA := Lib.hid hr0;have c1 : (w.alloc (.cells #[.bool mp.1, .slice mp.2.1 mp.2.2.1 mp.2.2.2, .bool mq.1, .slice mq.2.1 mq.2.2.1 mq.2.2.2, .bool mr.1, .slice mr.2.1 mr.2.2.1 mr.2.2.2, .bool ms.1, .slice ms.2.1 ms.2.2.1 ms.2.2.2] 106)).cell? ⟨S.lb, 1, none⟩ = some (.slice (some ⟨S.sb, 0, none⟩) 1 1) := HLA.out.one hS;clear hb0 hr0;go_enter Tryz.func91, Tryz.ntmps91;go_wp2;generalize w.alloc (.cells #[.bool mp.1, .slice mp.2.1 mp.2.2.1 mp.2.2.2, .bool mq.1, .slice mq.2.1 mq.2.2.1 mq.2.2.2, .bool mr.1, .slice mr.2.1 mr.2.2.1 mr.2.2.2, .bool ms.1, .slice ms.2.1 ms.2.2.1 ms.2.2.2] 106) = wA at *;go_loopw [15] (fun ct_ wr => (ct_ = .int .i64 0 /\ Hid (LadAt wr S) /\ Hid (Chg S.own w wr) /\ Hid (IntAt wr LA (av mp) a /\ IntAt wr LA (av mq) b /\ IntAt wr LA (av mr) c /\ IntAt wr LA (av ms) d) /\ Hid (RowAt wr w.heap.size 106 [.bool mp.1, .slice mp.2.1 mp.2.2.1 mp.2.2.2, .bool mq.1, .slice mq.2.1 mq.2.2.1 mq.2.2.2, .bool mr.1, .slice mr.2.1 mr.2.2.1 mr.2.2.2, .bool ms.1, .slice ms.2.1 ms.2.2.1 ms.2.2.2])) ∨ (ct_ = .int .i64 1 /\ Hid (LadAt wr (S.withR (mixR S.R i j a b c d hi hj))) /\ Hid (Chg S.own w wr))) (fun c _ => 1 - (intOf c).toNat)
 case atStart => exact .inl ⟨rfl, HLA, HCA, HIA, HRA⟩
 case round =>
  clear c1;rcases hrel with ⟨rfl, hL, hC, hIr, hRr⟩ | ⟨rfl, hL, hC⟩
  · skip;have hfn := hL.out.fns.1;have s0 : wr.cell? ⟨S.sb, 0, none⟩ = some (.func (.func 67) #[] #[.pointer (some ⟨S.g, 0, none⟩)]) := hfn 0 (by decide);have s1 : wr.cell? ⟨S.sb, 1, none⟩ = some (.func (.func 68) #[] #[.pointer (some ⟨S.g, 0, none⟩)]) := hfn 1 (by decide);have s2 : wr.cell? ⟨S.sb, 2, none⟩ = some (.func (.func 70) #[] #[.pointer (some ⟨S.g, 0, none⟩)]) := hfn 2 (by decide);have s3 : wr.cell? ⟨S.sb, 3, none⟩ = some (.func (.func 72) #[] #[.pointer (some ⟨S.g, 0, none⟩)]) := hfn 3 (by decide);clear hfn;have hb1 : Below wr.heap.size wr (wr.alloc (.cells #[.func (.func 67) #[] #[.pointer (some ⟨S.g, 0, none⟩)], .func (.func 68) #[] #[.pointer (some ⟨S.g, 0, none⟩)], .func (.func 70) #[] #[.pointer (some ⟨S.g, 0, none⟩)], .func (.func 72) #[] #[.pointer (some ⟨S.g, 0, none⟩)]] 94)) := (Below.refl _ _).alloc (Nat.le_refl _) _;have hA1 := Lib.hid (hIr.out.1.below hb1);have hB1 := Lib.hid (hIr.out.2.1.below hb1);have hC1' := Lib.hid (hIr.out.2.2.1.below hb1);have hD1 := Lib.hid (hIr.out.2.2.2.below hb1);have hR1 := hRr.out.below hb1 hRr.out.lt;have k0 := hR1.cell 0;have k1 := hR1.cell 1;have k2 := hR1.cell 2;have k3 := hR1.cell 3;have k4 := hR1.cell 4;have k5 := hR1.cell 5;have k6 := hR1.cell 6;have k7 := hR1.cell 7;have hL1 := Lib.hid (hL.out.below hb1);have hC1 := Lib.hid (hC.out.below hb1);have HB1 := Lib.hid hb1;go_wp2_with fail
    refine (LikeMix_c S i j mp mq mr ms a b c d LA LB _ hL1.out.sd hi hj hij hA1.out hB1.out hC1'.out hD1.out Hl.out HXL.out HYL.out hLab hlen).mono ?_;rintro e w4 ⟨rfl, hL4, hC4⟩;have HL4 := Lib.hid (hL1.out.upd hS hL4 hC4 (by unfold mixR; rw [setXs_length, setXs_length]));have HC4 := Lib.hid (hC1.out.trans hC4.ownAll);clear hL4 hC4 s0 s1 s2 s3;go_wp2;go_roundw
    case rel => exact .inr ⟨by go_num, HL4, HC4⟩
    case measure => simp [intOf]
  · go_wp2;refine bodyPost_end (results_none (by kernel_rfl) _ _ _) rfl ?_;exact ⟨rfl, hL.out, hC.out⟩
theorem MMix_c (S : LSt) (i j : Nat) (mp mq mr ms : P4) (a b c d : Int) (LA LB : Nat) (w : World) (h : LadAt w S) (hi : i < S.R.length) (hj : j < S.R.length) (hij : i ≠ j) (hA : IntAt w LA (av mp) a) (hB : IntAt w LA (av mq) b) (hC : IntAt w LA (av mr) c) (hD : IntAt w LA (av ms) d) (hl : S.R[i].xs.length = S.R[j].xs.length) (hxL : ∀ x ∈ S.R[i].xs, wlen x.natAbs <= LB) (hyL : ∀ y ∈ S.R[j].xs, wlen y.natAbs <= LB) (hLab : LA + LB <= 17592186044415) (hlen : S.R[i].xs.length <= 4611686018427387903) (hG : S.good) (hF : S.okR) (hLA2 : LA <= 13194139533312) (hdet : a * d - b * c = 1) :
 Calls Tryz.prog 91 #[.pointer (some ⟨S.lb, 0, none⟩), .int .i64 (i : Int), .int .i64 (j : Int), .agg #[.bool mp.1, .slice mp.2.1 mp.2.2.1 mp.2.2.2, .bool mq.1, .slice mq.2.1 mq.2.2.1 mq.2.2.2, .bool mr.1, .slice mr.2.1 mr.2.2.1 mr.2.2.2, .bool ms.1, .slice ms.2.1 ms.2.2.1 ms.2.2.2]] w fun e w' => e = .returned (.tuple #[]) /\ LadAt w' (S.withR (mixR S.R i j a b c d hi hj)) /\ Chg S.own w w' := by
 rcases hS : S.two with _ | t
 · exact MMix_c0 S i j mp mq mr ms a b c d LA LB w h hi hj hij hA hB hC hD hl hxL hyL hLab hlen hS
 · exact (hG t hS).no.elim
def iv (n : Nat) : Value := .int .i64 (n : Int)
theorem made_ints (n : Nat) : (madeCells (Value.int .i64 0).cells (n * 1)).toList = (List.replicate n 0).map iv := by
 rw [madeCells_one _ rfl]; simp [iv]
theorem info_int : (Tryz.prog.info? 3).map (fun i => (i.zero, i.size, i.bytes)) = some (some (.int .i64 0), 1, 8) := by kernel_rfl
theorem mk_ints {w : World} {ops : Array Oper} {rest : List Oper} {o : Oper} {a : Act} {Q : Exit -> Act -> World -> Prop}
 (hg : o.guard = none) (l c : Operand) (hop : o.op = Op.makeSlice 30 l c)
 {kl kc : IntKind} {L C : Int} (n m : Nat) (hl : a.eval l = .int kl L) (hc : a.eval c = .int kc C) (hL : L = (n : Int)) (hC : C = (m : Int)) (hnm : n <= m) (b2 : m <= 35184372088832)
 (hK : ∀ b w', Made w w' b 3 ((List.replicate m 0).map iv) -> wpList Tryz.prog ops Q rest (a.put o.dst (.slice (some ⟨b, 0, none⟩) n m)) w') :
 wpList Tryz.prog ops Q (o :: rest) a w :=
 wpList_make_row hg l c 30 hop 3 (.int .i64 0) 1 8 Tryz.underlying30 info_int n m hl hc hL hC hnm (by omega) (by unfold maxLen; omega)
  (fun b w' h => hK b w' (by rw [made_ints] at h; exact h))
theorem RowN.setFar {w : World} {b : Nat} {xs : List Int} (h : RowN w b xs) {g : Nat} {t : TypeId} {cs : List Value} (hr : RowAt w g t cs) (ht : t ≠ 37) (hn : NoW cs) (i : Nat) (u : Value) : RowN (w.setCell ⟨g, i, none⟩ u) b xs := by
 have hne : b ≠ g := by
  obtain ⟨ps, tl, nt, hp, _⟩ := h;exact hp.ne hr (fun e => ht e.symm)
 exact h.other hne hr hn i u
theorem SdAt.setNew {w : World} {S : LSt} (h : SdAt w S) {g : Nat} {t : TypeId} {cs : List Value} (hr : RowAt w g t cs) (h1 : t ≠ 37) (h2 : t ≠ 22) (h3 : t ≠ 46) (hn : NoW cs) (i : Nat) (u : Value) : SdAt (w.setCell ⟨g, i, none⟩ u) S :=
 ⟨h.box.other (h.box.ne hr (fun e => h3 e.symm)) u, ⟨h.mat.out.other (fun e => hr.neP h.mat.out h2 e.symm) u, fun r hr' => (h.mat.row r hr').setFar hr h1 hn i u, h.mat.nd⟩⟩
theorem LadAt.setNew {w : World} {S : LSt} (h : LadAt w S) {g : Nat} {t : TypeId} {cs : List Value} (hr : RowAt w g t cs) (h1 : t ≠ 37) (h2 : t ≠ 22) (h3 : t ≠ 46) (h4 : t ≠ 94) (h5 : t ≠ 73) (hn : NoW cs) (i : Nat) (u : Value) : LadAt (w.setCell ⟨g, i, none⟩ u) S :=
 have hs := h.sd.setNew hr h1 h2 h3 hn i u
 ⟨h.lad.other (h.lad.ne hr (fun e => h5 e.symm)) u, h.sides.other (fun e => hr.neP h.sides h4 e.symm) u, hs.box, hs.mat, fun t' ht => by
  obtain ⟨V, hV⟩ := h.ext t' ht;exact ⟨V, hV.sd.setNew hr h1 h2 h3 hn i u, hV.box3.other (hV.box3.ne hr (fun e => h3 e.symm)) u, hV.rel, hV.own, hV.apart⟩⟩
theorem NoIv (ls : List Nat) : NoW (ls.map iv) := by
 intro c hc n;obtain ⟨x, _, rfl⟩ := List.mem_map.1 hc;simp [iv]
def AV.tup2 (B : Nat) (x y : Int) : AV := AV.free (fun w v => ∃ a b, v = .tuple #[a, b, .int .i64 0] /\ OwnI w B a x /\ OwnI w B b y) (fun ⟨a, b, e, h, h'⟩ hb => ⟨a, b, e, OwnI.below h hb, OwnI.below h' hb⟩) (fun ⟨a, b, e, h, h'⟩ hr _ ht k u _ => ⟨a, b, e, OwnI.setRow h hr ht k u, OwnI.setRow h' hr ht k u⟩)
theorem fdiv_wlen {x y : Int} {B : Nat} (hy : y ≠ 0) (h : wlen x.natAbs <= B) : wlen (x.fdiv y).natAbs <= B + 2 := by
 have h1 : (x.tdiv y).natAbs <= x.natAbs := by rw [Int.natAbs_tdiv]; exact Nat.div_le_self _ _
 have h2 : (x.fdiv y).natAbs <= x.natAbs + 1 := by
  by_cases hs : x.tmod y = 0 ∨ (decide (x.tmod y < 0)) = decide (y < 0)
  · rw [(floor_same hy hs).1]; omega
  · have hs1 : x.tmod y ≠ 0 := fun e => hs (.inl e);have hs2 : ¬ (decide (x.tmod y < 0)) = decide (y < 0) := fun e => hs (.inr e);rw [(floor_other hy hs1 hs2).1]; omega
 have h3 := wlen_mono h2;have h4 := wlen_add x.natAbs 1;have h5 : wlen 1 <= 1 := wlen_le_of_lt (by decide);have h6 : max (wlen x.natAbs) (wlen 1) <= B + 1 := Nat.max_le.2 ⟨by omega, by omega⟩;omega
theorem own_setXs (S : LSt) (i : Nat) (xs : List Int) (k : Nat) : (S.withR (setXs S.R i xs)).own k ↔ S.own k := or_congr (rws_blk (fun b => setXs_blkm b) k) Iff.rfl
def ent (R : List Hd) (i j : Nat) : Int := ((R[i]?).map (fun h => h.xs.getD j 0)).getD 0
def leadOf (R : List Hd) (i : Nat) : Nat := ((R[i]?).map (fun h => lead h.xs)).getD 0
theorem ent_eq {R : List Hd} {i j : Nat} (hi : i < R.length) (hj : j < R[i].xs.length) : ent R i j = R[i].xs[j] := by
 unfold ent; simp [hi, hj]
theorem leadOf_eq {R : List Hd} {i : Nat} (hi : i < R.length) : leadOf R i = lead R[i].xs := by
 unfold leadOf; simp [hi]
structure Fit (B c : Nat) (R : List Hd) : Prop where
 len : ∀ h ∈ R, h.xs.length = c
 fit : ∀ h ∈ R, ∀ x ∈ h.xs, wlen x.natAbs <= B
def addT (R : List Hd) (i j : Nat) (k : Int) : List Hd := if h : i < R.length /\ j < R.length then addR R i j k h.1 h.2 else R
theorem addT_eq {R : List Hd} {i j : Nat} {k : Int} (hi : i < R.length) (hj : j < R.length) : addT R i j k = addR R i j k hi hj := by unfold addT; rw [dif_pos ⟨hi, hj⟩]
theorem addT_length (R : List Hd) (i j : Nat) (k : Int) : (addT R i j k).length = R.length := by
 unfold addT; split
 · unfold addR; rw [setXs_length]
 · rfl
inductive SIn (B c : Nat) (ls : List Nat) (i n : Nat) : Nat -> List Hd -> List Hd -> Prop
 | done {k : Nat} {R : List Hd} (h : n <= k) : SIn B c ls i n k R R
 | step {k : Nat} {R R' : List Hd} (h : k < n) (hF : Fit B c R) (hc : ls.getD k 0 < c) (hp : ent R k (ls.getD k 0) ≠ 0) (hs : SIn B c ls i n (k + 1) (addT R i k (-((ent R i (ls.getD k 0)).fdiv (ent R k (ls.getD k 0))))) R') : SIn B c ls i n k R R'
inductive SOut (B c : Nat) (ls : List Nat) (n : Nat) : Nat -> List Hd -> List Hd -> Prop
 | done {R : List Hd} : SOut B c ls n 0 R R
 | step {m : Nat} {R R1 R' : List Hd} (h1 : SIn B c ls m n (m + 1) R R1) (h2 : SOut B c ls n m R1 R') : SOut B c ls n (m + 1) R R'
theorem SOut.inv {B c : Nat} {ls : List Nat} {n m : Nat} {R R' : List Hd} (h : SOut B c ls n (m + 1) R R') : ∃ R1, SIn B c ls m n (m + 1) R R1 /\ SOut B c ls n m R1 R' := by
 cases h with
 | step h1 h2 => exact ⟨_, h1, h2⟩
theorem SOut.zero {B c : Nat} {ls : List Nat} {n : Nat} {R R' : List Hd} (h : SOut B c ls n 0 R R') : R = R' := by
 cases h; rfl
theorem SIn.inv {B c : Nat} {ls : List Nat} {i n k : Nat} {R R' : List Hd} (h : SIn B c ls i n k R R') (hk : k < n) : Fit B c R /\ ls.getD k 0 < c /\ ent R k (ls.getD k 0) ≠ 0 /\ SIn B c ls i n (k + 1) (addT R i k (-((ent R i (ls.getD k 0)).fdiv (ent R k (ls.getD k 0))))) R' := by
 cases h with
 | done h => omega
 | step _ hF hc hp hs => exact ⟨hF, hc, hp, hs⟩
theorem SIn.fin {B c : Nat} {ls : List Nat} {i n k : Nat} {R R' : List Hd} (h : SIn B c ls i n k R R') (hk : n <= k) : R = R' := by
 cases h with
 | done h => rfl
 | step h _ _ _ _ => omega
theorem SIn.length {B c : Nat} {ls : List Nat} {i n k : Nat} {R R' : List Hd} (h : SIn B c ls i n k R R') : R'.length = R.length := by
 induction h with
 | done _ => rfl
 | step _ _ _ _ _ ih => rw [ih, addT_length]
def leadsOf (R : List Hd) (n : Nat) : List Nat := (List.range n).map (leadOf R)
theorem map_iv_set (ls : List Nat) (i v : Nat) : (ls.map iv).set i (.int .i64 (v : Int)) = (ls.set i v).map iv := by
 rw [List.map_set]; rfl
theorem map_iv_get (ls : List Nat) {i : Nat} (h : i < ls.length) : (ls.map iv)[i]? = some (.int .i64 ((ls.getD i 0 : Nat) : Int)) := by
 simp [iv, h]
def LSt.sat (S : LSt) (B c : Nat) : Prop := ∀ t, S.two = some t -> t.Ok /\ ∀ R, Fit B c R -> t.fit R
theorem LSt.sat.good {S : LSt} {B c : Nat} (h : S.sat B c) (R : List Hd) : (S.withR R).good := fun t ht => (h t ht).1
theorem LSt.sat.okR {S : LSt} {B c : Nat} (h : S.sat B c) {R : List Hd} (hF : Fit B c R) : (S.withR R).okR := fun t ht => (h t ht).2 R hF
set_option maxRecDepth 100000 in
set_option maxHeartbeats 8000000 in
theorem Settle_c (S : LSt) (n B c : Nat) (R' : List Hd) (w : World) (h : LadAt w S) (hn : n <= S.R.length) (hB : B <= 4398046511103) (hF : Fit B c S.R) (hS : SOut B c (leadsOf S.R n) n n S.R R') (hR : S.R.length <= 1000000) (hc : c <= 1000000) (hT : S.sat B c) :
 Calls Tryz.prog 74 #[.pointer (some ⟨S.lb, 0, none⟩), .int .i64 (n : Int)] w fun e w' => e = .returned (.tuple #[]) /\ LadAt w' (S.withR R') /\ Chg S.own w w' := by
 have HL := Lib.hid h; clear h;have HF := Lib.hid hF; clear hF;have HS := Lib.hid hS; clear hS;have HT := Lib.hid hT; clear hT;go_enter Tryz.func74, Tryz.ntmps74;go_wp2_with (at_make; refine mk_ints rfl _ _ rfl n n rfl rfl (by omega) (by omega) (Nat.le_refl _) (by omega) ?_; intro gl w1 hm1)
 have L1 := Lib.hid (HL.out.below hm1.below);have C1 := Lib.hid (Chg.of_below (S := S.own) hm1.below);have hgl : gl = w.heap.size := hm1.at_;have Hgl := Lib.hid hgl; clear hgl;have hr1 := hm1.row;go_loopw [16] (fun i wr => ∃ (m : Nat) (ls : List Nat), m <= n /\ i = .int .i64 (m : Int) /\ Hid (ls.length = n /\ ∀ j (h : j < ls.length), j < m -> ls[j] = leadOf S.R j) /\ Hid (RowAt wr gl 3 (ls.map iv)) /\ Hid (LadAt wr S) /\ Hid (Chg S.own w wr)) (fun i _ => n - (intOf i).toNat)
 case atStart => exact ⟨0, List.replicate n 0, Nat.zero_le _, rfl, ⟨by simp, fun j _ h => by omega⟩, hr1, L1, C1⟩
 case round =>
  obtain ⟨m, ls, hm, rfl, Hls, hG, hL, hC⟩ := hrel;by_cases hmn : m < n
  · have hmR : m < S.R.length := by omega
    have c0 : wr.cell? ⟨S.lb, 0, none⟩ = some (.slice (some ⟨S.o, 0, none⟩) S.R.length S.cap) := hL.out.lad.cell 0;have cm : wr.cell? ⟨S.o, m, none⟩ = some (.slice (some ⟨S.R[m].blk, 0, none⟩) S.R[m].xs.length S.R[m].cap) := hL.out.mat.hdr hmR;have hm1' : (m : Int) < (S.R.length : Int) := by omega
    have hm2' : (m : Int) < (n : Int) := by omega
    go_wp2_with fail
    refine (Lead_c S.R[m].blk S.R[m].cap S.R[m].xs _ (hL.out.mat.row _ (List.getElem_mem hmR)) (fun x hx => by have := HF.out.fit _ (List.getElem_mem hmR) x hx; omega) (by have := HF.out.len _ (List.getElem_mem hmR); omega)).mono ?_;rintro e w2 ⟨rfl, hb2⟩;have L2 := Lib.hid (hL.out.below hb2);have C2 := Lib.hid (hC.out.below hb2);have G2 := hG.out.below hb2 hG.out.lt;have hml : m < ls.length := by rw [Hls.out.1]; exact hmn
    have d0 : w2.cell? ⟨gl, m, none⟩ = some (.int .i64 ((ls.getD m 0 : Nat) : Int)) := (G2.cell m).trans (map_iv_get ls hml);have f0 := G2.free m;have G2 := Lib.hid G2;have hbn : w.heap.size <= gl := by have := Hgl.out; omega
    clear hL hC hG hb2 c0 cm;go_wp2;go_roundw
    case rel =>
     refine ⟨m + 1, ls.set m (leadOf S.R m), by omega, by go_num, Lib.hid ⟨by simpa using Hls.out.1, fun j hj hjm => ?_⟩, ?_, ?_, Lib.hid (C2.out.setNew (p := ⟨gl, m, none⟩) hbn _)⟩
     · rw [List.getElem_set];split
       · rename_i e; subst e; rfl
       · exact Hls.out.2 j (by simpa using hj) (by omega)
     · rw [<- map_iv_set, leadOf_eq hmR];exact Lib.hid (G2.out.set m _)
     · exact Lib.hid (L2.out.setNew G2.out (by decide) (by decide) (by decide) (by decide) (by decide) (NoIv ls) m _)
    case measure => simp [intOf]; omega
  · obtain rfl : m = n := by omega
    have hlsE : ls = leadsOf S.R m := by
     refine List.ext_getElem (by simp [leadsOf, Hls.out.1]) fun j h1 h2 => ?_;rw [Hls.out.2 j h1 (by have := Hls.out.1; omega)];simp [leadsOf]
    have HLE := Lib.hid hlsE; clear hlsE;have hbn : w.heap.size <= gl := by have := Hgl.out; omega
    have hso : ¬ S.own gl := by
     intro e;have := HL.out.own_lt _ e;omega
    have Hso := Lib.hid hso; clear hso;have HS2 := HS.out;rw [<- HLE.out] at HS2;have HS2 := Lib.hid HS2;have HG := hG;go_wp2;go_loopw [6] (fun iv_ wo => ∃ (q : Nat) (R1 : List Hd), q <= m /\ iv_ = .int .i64 ((q : Int) - 1) /\ Hid (R1.length = S.R.length) /\ Hid (SOut B c ls m q R1 R') /\ Hid (LadAt wo (S.withR R1)) /\ Hid (RowAt wo gl 3 (ls.map iv)) /\ Hid (Chg S.own w wo) /\ Hid (∀ k, (S.withR R1).own k ↔ S.own k)) (fun iv_ _ => (intOf iv_ + 1).toNat)
    case atStart => exact ⟨m, S.R, Nat.le_refl _, by go_num, rfl, HS2, hL, HG, hC, Lib.hid (fun _ => Iff.rfl)⟩
    case round =>
     obtain ⟨q, R1, hq, rfl, hR1, HO, hL1, hG1, hC1, Hown⟩ := hrel;rcases q with _ | ii
     · have e : ((0 : Nat) : Int) - 1 = -1 := by omega
       rw [e];go_wp2;refine bodyPost_end (results_none (by kernel_rfl) _ _ _) rfl ?_;have hRR : R1 = R' := HO.out.zero;rw [<- hRR];exact ⟨rfl, hL1.out, hC1.out⟩
     · have e : ((ii + 1 : Nat) : Int) - 1 = (ii : Int) := by omega
       rw [e];obtain ⟨R1', HI, HO'⟩ := HO.out.inv;have HI := Lib.hid HI;have HO' := Lib.hid HO';have hii : ii < S.R.length := by omega
       clear HO;go_wp2;go_loopw [7] (fun kv_ wi => ∃ (kk : Nat) (R2 : List Hd), ii < kk /\ kk <= m /\ kv_ = .int .i64 (kk : Int) /\ Hid (R2.length = S.R.length) /\ Hid (SIn B c ls ii m kk R2 R1') /\ Hid (LadAt wi (S.withR R2)) /\ Hid (RowAt wi gl 3 (ls.map iv)) /\ Hid (Chg S.own w wi) /\ Hid (∀ k, (S.withR R2).own k ↔ S.own k)) (fun kv_ _ => m - (intOf kv_).toNat)
       case atStart => exact ⟨ii + 1, R1, by omega, by omega, by go_num, hR1, HI, hL1, hG1, hC1, Hown⟩
       case round =>
        obtain ⟨kk, R2, hik, hkm, rfl, hR2, HI2, hL2, hG2, hC2, Hown2⟩ := hrel;by_cases hkm' : kk < m
        · have hkR : kk < R2.length := by have := hR2.out; omega
          have hiR : ii < R2.length := by have := hR2.out; omega
          have hkl : kk < ls.length := by rw [Hls.out.1]; exact hkm'
          obtain ⟨HF2, Hc2, Hp2, HI3⟩ := HI2.out.inv hkm';have HF2 := Lib.hid HF2;have Hp2 := Lib.hid Hp2;have HI3 := Lib.hid HI3;obtain ⟨jj, hjj⟩ : ∃ jj, ls.getD kk 0 = jj := ⟨_, rfl⟩;rw [hjj] at Hc2 Hp2 HI3;have hkm1 : (kk : Int) < (m : Int) := by omega
          have hi1 : (ii : Int) < (R2.length : Int) := by omega
          have hk1 : (kk : Int) < (R2.length : Int) := by omega
          have hjl : jj < R2[ii].xs.length := by rw [HF2.out.len _ (List.getElem_mem hiR)]; exact Hc2
          have hjk : jj < R2[kk].xs.length := by rw [HF2.out.len _ (List.getElem_mem hkR)]; exact Hc2
          have hjl1 : (jj : Int) < (R2[ii].xs.length : Int) := by omega
          have hjk1 : (jj : Int) < (R2[kk].xs.length : Int) := by omega
          have dj : wr.cell? ⟨gl, kk, none⟩ = some (.int .i64 (jj : Int)) := by rw [hG2.out.cell, map_iv_get ls hkl, hjj]
          have Hjj := Lib.hid hjj; clear hjj;clear HI2;go_wp2;clear dj;have cb : wr.cell? ⟨S.lb, 0, none⟩ = some (.slice (some ⟨S.o, 0, none⟩) R2.length S.cap) := hL2.out.lad.cell 0;have ci : wr.cell? ⟨S.o, ii, none⟩ = some (.slice (some ⟨R2[ii].blk, 0, none⟩) R2[ii].xs.length R2[ii].cap) := hL2.out.mat.hdr (i := ii) hiR;have ck : wr.cell? ⟨S.o, kk, none⟩ = some (.slice (some ⟨R2[kk].blk, 0, none⟩) R2[kk].xs.length R2[kk].cap) := hL2.out.mat.hdr (i := kk) hkR;have hXi := hL2.out.mat.row _ (List.getElem_mem (l := R2) hiR);have hXk := hL2.out.mat.row _ (List.getElem_mem (l := R2) hkR);obtain ⟨pi, ci0, ci1, hni⟩ := hXi.get hjl;obtain ⟨pk, ck0, ck1, hnk⟩ := hXk.get hjk;have hwi : wlen (R2[ii].xs[jj]).natAbs <= B := HF2.out.fit _ (List.getElem_mem hiR) _ (List.getElem_mem hjl);have hwk : wlen (R2[kk].xs[jj]).natAbs <= B := HF2.out.fit _ (List.getElem_mem hkR) _ (List.getElem_mem hjk);have hpz : R2[kk].xs[jj] ≠ 0 := by have := Hp2.out; rw [ent_eq hkR hjk] at this; exact this
          obtain ⟨xi, hxi⟩ : ∃ xi, R2[ii].xs[jj] = xi := ⟨_, rfl⟩;obtain ⟨xk, hxk⟩ : ∃ xk, R2[kk].xs[jj] = xk := ⟨_, rfl⟩;rw [hxi] at hni hwi;rw [hxk] at hnk hwk hpz;have Hni := Lib.hid (hni.int (L := 17592186044415) (by omega));have Hnk := Lib.hid (hnk.int (L := 17592186044415) (by omega));have Hpz := Lib.hid hpz; clear hpz;have Hxi := Lib.hid hxi; clear hxi;have Hxk := Lib.hid hxk; clear hxk;have sb1 := hXi.lt;have sb2 := hXk.lt;have sb3 := hL2.out.lad.lt;have sb4 := hL2.out.mat.out.lt;have sb3 : S.lb < wr.heap.size := sb3;have sb4 : S.o < wr.heap.size := sb4;clear hXi hXk hni hnk Hp2;refine wp_region_J ⟨30, fun q_ => [49, 50, 51, 52, 53, 54, 55, 56, 57, 58, 59, 60, 61, 62, 63, 64, 65, 66, 67, 68, 69, 48, 70, 71, 72, 9, 10, 1027, 1028, 11].getD q_ 0,
           fun q_ => [.val (.pointer (some ⟨S.lb, 0, none⟩)), .val (.pointer (some ⟨S.lb, 0, none⟩)), .val (.pointer (some ⟨S.lb, 0, none⟩)), .val (.slice (some ⟨S.o, 0, none⟩) R2.length S.cap), .val (.int .i64 (ii : Int)), .val (.pointer (some ⟨S.o, ii, none⟩)), .val (.slice (some ⟨R2[ii].blk, 0, none⟩) R2[ii].xs.length R2[ii].cap), .val (.int .i64 (jj : Int)), .val (.pointer (some ⟨R2[ii].blk, jj * 2, none⟩)), .val (.agg #[.bool pi.1, .slice pi.2.1 pi.2.2.1 pi.2.2.2]), .val (.pointer (some ⟨S.lb, 0, none⟩)), .val (.pointer (some ⟨S.lb, 0, none⟩)), .val (.pointer (some ⟨S.lb, 0, none⟩)), .val (.slice (some ⟨S.o, 0, none⟩) R2.length S.cap), .val (.int .i64 (kk : Int)), .val (.pointer (some ⟨S.o, kk, none⟩)), .val (.slice (some ⟨R2[kk].blk, 0, none⟩) R2[kk].xs.length R2[kk].cap), .val (.int .i64 (jj : Int)), .val (.pointer (some ⟨R2[kk].blk, jj * 2, none⟩)), .val (.agg #[.bool pk.1, .slice pk.2.1 pk.2.2.1 pk.2.2.2]), .tup2 0 (xi.fdiv xk) (xi.fmod xk), .tup2 0 (xi.fdiv xk) (xi.fmod xk), .int 0 (xi.fdiv xk), .int 0 (xi.fmod xk), .val (.int .i64 0), .ptr wr.heap.size 37 2, .ptr wr.heap.size 37 2, .any, .any, .val (.int .i64 0)].getD q_ .any,
           [],
           [(.agg #[.bool pi.1, .slice pi.2.1 pi.2.2.1 pi.2.2.2], .at_ 17592186044415 xi), (.agg #[.bool pk.1, .slice pk.2.1 pk.2.2.1 pk.2.2.2], .at_ 17592186044415 xk)],
           [],
           [(27, 9, 37, .int 0 (xi.fdiv xk)), (28, 10, 37, .int 0 (xi.fmod xk))], [(⟨S.lb, 0, none⟩, .slice (some ⟨S.o, 0, none⟩) R2.length S.cap), (⟨S.o, ii, none⟩, .slice (some ⟨R2[ii].blk, 0, none⟩) R2[ii].xs.length R2[ii].cap), (⟨S.o, kk, none⟩, .slice (some ⟨R2[kk].blk, 0, none⟩) R2[kk].xs.length R2[kk].cap), (⟨R2[ii].blk, jj * 2, none⟩, .bool pi.1), (⟨R2[ii].blk, jj * 2 + 1, none⟩, .slice pi.2.1 pi.2.2.1 pi.2.2.2), (⟨R2[kk].blk, jj * 2, none⟩, .bool pk.1), (⟨R2[kk].blk, jj * 2 + 1, none⟩, .slice pk.2.1 pk.2.2.1 pk.2.2.2)], [(25, 9), (26, 10)]⟩ [49, 50, 51, 52, 53, 54, 55, 56, 57, 58, 59, 60, 61, 62, 63, 64, 65, 66, 67, 68, 69, 48, 70, 71, 72, 9, 10, 11] (wr.heap.size) (by kernel_rfl) (by kernel_rfl) (by kernel_rfl) (by kernel_rfl) ?_ ?_ ?_ ?_ ?_ ?_
          · exact allq (Hni.out) (allq (Hnk.out) allz)
          · exact allz
          · exact allq (⟨cb, by dsimp only; omega, allz⟩) (allq (⟨ci, by dsimp only; omega, allz⟩) (allq (⟨ck, by dsimp only; omega, allz⟩) (allq (⟨ci0, by dsimp only; omega, allz⟩) (allq (⟨ci1, by dsimp only; omega, allz⟩) (allq (⟨ck0, by dsimp only; omega, allz⟩) (allq (⟨ck1, by dsimp only; omega, allz⟩) allz))))))
          · exact allz
          · refine allc ?_ (allc ?_ (allc ?_ (allc ?_ (allc ?_ (allc ?_ (allc ?_ (allc ?_ (allc ?_ (allc ?_ (allc ?_ (allc ?_ (allc ?_ (allc ?_ (allc ?_ (allc ?_ (allc ?_ (allc ?_ (allc ?_ (allc ?_ (allc ?_ (allc ?_ (allc ?_ (allc ?_ (allc ?_ (allc ?_ (allc ?_ (allc ?_ (allc ?_ (allc ?_ alln)))))))))))))))))))))))))))));any_goals (first | (intro L fx w' hJ hL hp hcl; have _ := hp0 hp (by decide +kernel); refine wps rfl fun K hK => ?_; go_simp; exact hJ.q hK (by kernel_rfl) rfl) | fail)
            · intro L fx w' hJ hL hp hcl;have e0 := hJ.pt 0 49 (.pointer (some ⟨S.lb, 0, none⟩)) rfl rfl rfl (hp 0 (by decide));rw [e0] at hJ ⊢; clear e0;refine wps rfl fun K hK => ?_;go_simp;exact hJ.q hK (by kernel_rfl) rfl
            · intro L fx w' hJ hL hp hcl;have e1 := hJ.pt 1 50 (.pointer (some ⟨S.lb, 0, none⟩)) rfl rfl rfl (hp 1 (by decide));rw [e1] at hJ ⊢; clear e1;refine wps rfl fun K hK => ?_;go_simp;exact hJ.q hK (by kernel_rfl) rfl
            · intro L fx w' hJ hL hp hcl;have e2 := hJ.pt 2 51 (.pointer (some ⟨S.lb, 0, none⟩)) rfl rfl rfl (hp 2 (by decide));rw [e2] at hJ ⊢; clear e2;refine wps rfl fun K hK => ?_;have cl0 := (hJ.cells _ mm0).1;try dsimp only at cl0
              go_simp;exact hJ.q hK (by kernel_rfl) rfl
            · intro L fx w' hJ hL hp hcl;have e3 := hJ.pt 3 52 (.slice (some ⟨S.o, 0, none⟩) R2.length S.cap) rfl rfl rfl (hp 3 (by decide));rw [e3] at hJ ⊢; clear e3;have e4 := hJ.pt 4 53 (.int .i64 (ii : Int)) rfl rfl rfl (hp 4 (by decide));rw [e4] at hJ ⊢; clear e4;refine wps rfl fun K hK => ?_;go_simp;exact hJ.q hK (by kernel_rfl) rfl
            · intro L fx w' hJ hL hp hcl;have e5 := hJ.pt 5 54 (.pointer (some ⟨S.o, ii, none⟩)) rfl rfl rfl (hp 5 (by decide));rw [e5] at hJ ⊢; clear e5;refine wps rfl fun K hK => ?_;have cl0 := (hJ.cells _ mm1).1;try dsimp only at cl0
              go_simp;exact hJ.q hK (by kernel_rfl) rfl
            · intro L fx w' hJ hL hp hcl;have e6 := hJ.pt 6 55 (.slice (some ⟨R2[ii].blk, 0, none⟩) R2[ii].xs.length R2[ii].cap) rfl rfl rfl (hp 6 (by decide));rw [e6] at hJ ⊢; clear e6;have e7 := hJ.pt 7 56 (.int .i64 (jj : Int)) rfl rfl rfl (hp 7 (by decide));rw [e7] at hJ ⊢; clear e7;refine wps rfl fun K hK => ?_;go_simp;exact hJ.q hK (by kernel_rfl) rfl
            · intro L fx w' hJ hL hp hcl;have e8 := hJ.pt 8 57 (.pointer (some ⟨R2[ii].blk, jj * 2, none⟩)) rfl rfl rfl (hp 8 (by decide));rw [e8] at hJ ⊢; clear e8;refine wps rfl fun K hK => ?_;have cl0 := (hJ.cells _ mm3).1;have cl1 := (hJ.cells _ mm4).1;try dsimp only at cl0 cl1
              go_simp;exact hJ.q hK (by kernel_rfl) rfl
            · intro L fx w' hJ hL hp hcl;have e10 := hJ.pt 10 59 (.pointer (some ⟨S.lb, 0, none⟩)) rfl rfl rfl (hp 10 (by decide));rw [e10] at hJ ⊢; clear e10;refine wps rfl fun K hK => ?_;go_simp;exact hJ.q hK (by kernel_rfl) rfl
            · intro L fx w' hJ hL hp hcl;have e11 := hJ.pt 11 60 (.pointer (some ⟨S.lb, 0, none⟩)) rfl rfl rfl (hp 11 (by decide));rw [e11] at hJ ⊢; clear e11;refine wps rfl fun K hK => ?_;go_simp;exact hJ.q hK (by kernel_rfl) rfl
            · intro L fx w' hJ hL hp hcl;have e12 := hJ.pt 12 61 (.pointer (some ⟨S.lb, 0, none⟩)) rfl rfl rfl (hp 12 (by decide));rw [e12] at hJ ⊢; clear e12;refine wps rfl fun K hK => ?_;have cl0 := (hJ.cells _ mm0).1;try dsimp only at cl0
              go_simp;exact hJ.q hK (by kernel_rfl) rfl
            · intro L fx w' hJ hL hp hcl;have e13 := hJ.pt 13 62 (.slice (some ⟨S.o, 0, none⟩) R2.length S.cap) rfl rfl rfl (hp 13 (by decide));rw [e13] at hJ ⊢; clear e13;have e14 := hJ.pt 14 63 (.int .i64 (kk : Int)) rfl rfl rfl (hp 14 (by decide));rw [e14] at hJ ⊢; clear e14;refine wps rfl fun K hK => ?_;go_simp;exact hJ.q hK (by kernel_rfl) rfl
            · intro L fx w' hJ hL hp hcl;have e15 := hJ.pt 15 64 (.pointer (some ⟨S.o, kk, none⟩)) rfl rfl rfl (hp 15 (by decide));rw [e15] at hJ ⊢; clear e15;refine wps rfl fun K hK => ?_;have cl0 := (hJ.cells _ mm2).1;try dsimp only at cl0
              go_simp;exact hJ.q hK (by kernel_rfl) rfl
            · intro L fx w' hJ hL hp hcl;have e16 := hJ.pt 16 65 (.slice (some ⟨R2[kk].blk, 0, none⟩) R2[kk].xs.length R2[kk].cap) rfl rfl rfl (hp 16 (by decide));rw [e16] at hJ ⊢; clear e16;have e17 := hJ.pt 17 66 (.int .i64 (jj : Int)) rfl rfl rfl (hp 17 (by decide));rw [e17] at hJ ⊢; clear e17;refine wps rfl fun K hK => ?_;go_simp;exact hJ.q hK (by kernel_rfl) rfl
            · intro L fx w' hJ hL hp hcl;have e18 := hJ.pt 18 67 (.pointer (some ⟨R2[kk].blk, jj * 2, none⟩)) rfl rfl rfl (hp 18 (by decide));rw [e18] at hJ ⊢; clear e18;refine wps rfl fun K hK => ?_;have cl0 := (hJ.cells _ mm5).1;have cl1 := (hJ.cells _ mm6).1;try dsimp only at cl0 cl1
              go_simp;exact hJ.q hK (by kernel_rfl) rfl
            · intro L fx w' hJ hL hp hcl;have e9 := hJ.pt 9 58 (.agg #[.bool pi.1, .slice pi.2.1 pi.2.2.1 pi.2.2.2]) rfl rfl rfl (hp 9 (by decide));rw [e9] at hJ ⊢; clear e9;have e19 := hJ.pt 19 68 (.agg #[.bool pk.1, .slice pk.2.1 pk.2.2.1 pk.2.2.2]) rfl rfl rfl (hp 19 (by decide));rw [e19] at hJ ⊢; clear e19;refine wps rfl fun K hK => ?_;go_simp;go_at_call 87;refine (IFloor_c _ _ xi xk _ (show IntAt w' _ _ _ from hJ.base _ mm0) (show IntAt w' _ _ _ from hJ.base _ mm1) Hpz.out).mono ?_;rintro e w4 ⟨⟨v5, v6, rfl, h5, h6⟩, hb4⟩;try dsimp only
              exact hK _ _ ⟨_, by kernel_rfl, hJ.gC 20 rfl (by kernel_rfl) hb4 ⟨_, _, rfl, OwnI.mono h5 (Nat.zero_le _), OwnI.mono h6 (Nat.zero_le _)⟩ (by omega)⟩
            · intro L fx w' hJ hL hp hcl;have e20 := hJ.slot 20 (by show 20 < 30; decide) (hp 20 (by decide));refine wps rfl fun K hK => ?_;go_simp;exact hJ.q hK (by kernel_rfl) e20
            · intro L fx w' hJ hL hp hcl;have e21 := hJ.slot 21 (by show 21 < 30; decide) (hp 21 (by decide));obtain ⟨vq, vr, hvt, hq1, hr1⟩ := e21;rw [patchX (x := fx) (d := 48) (v := (.tuple #[vq, vr, .int .i64 0])) hvt] at hJ ⊢;refine wps rfl fun K hK => ?_;go_simp;exact hJ.q hK (by kernel_rfl) hq1
            · intro L fx w' hJ hL hp hcl;have e21 := hJ.slot 21 (by show 21 < 30; decide) (hp 21 (by decide));obtain ⟨vq, vr, hvt, hq1, hr1⟩ := e21;rw [patchX (x := fx) (d := 48) (v := (.tuple #[vq, vr, .int .i64 0])) hvt] at hJ ⊢;refine wps rfl fun K hK => ?_;go_simp;exact hJ.q hK (by kernel_rfl) hr1
            · intro L fx w' hJ hL hp hcl;have e21 := hJ.slot 21 (by show 21 < 30; decide) (hp 21 (by decide));obtain ⟨vq, vr, hvt, hq1, hr1⟩ := e21;rw [patchX (x := fx) (d := 48) (v := (.tuple #[vq, vr, .int .i64 0])) hvt] at hJ ⊢;refine wps rfl fun K hK => ?_;go_simp;exact hJ.q hK (by kernel_rfl) rfl
            · intro L fx w' hJ hL hp hcl;have hg0 : wr.heap.size <= w'.heap.size := Nat.le_trans (by omega : wr.heap.size <= wr.heap.size) hJ.size;refine wps rfl fun K hK => ?_;go_simp;exact hK _ _ ⟨_, by kernel_rfl, hJ.grow 25 (by show 25 < 30; decide) _ (by kernel_rfl) (by kernel_rfl) (by intro t ht; rcases mc ht with rfl | ht; exact ⟨by show 27 ≠ 25; decide, fun _ => by cases hh : L 27 with | false => rfl | true => have := hcl 27 (by show 27 < 30; decide) hh 25 (by decide); rw [hL] at this; cases this⟩; rcases mc ht with rfl | ht; exact ⟨by show 28 ≠ 25; decide, fun h => absurd (show 10 = 9 from h) (by decide)⟩; cases ht) (by intro p hp; rcases mc hp with rfl | hp; exact ⟨⟨fun _ => rfl, fun _ => rfl⟩, fun _ q hq hne hLq => (by rcases mc hq with rfl | hq; exact absurd rfl hne; rcases mc hq with rfl | hq; (obtain ⟨g9, cs9, hx9, _, hr9, _⟩ := hJ.slot 26 (by show 26 < 30; decide) hLq; have hx9 : fx 10 = _ := hx9; show _ ≠ fx 10; rw [hx9]; intro e9; injection e9 with e9; injection e9 with e9; injection e9 with e9; exact absurd e9 (Nat.ne_of_gt hr9.lt)); cases hq)⟩; rcases mc hp with rfl | hp; exact ⟨⟨fun h => absurd (show 26 = 25 from h) (by decide), fun h => absurd (show 10 = 9 from h) (by decide)⟩, fun h => absurd (show 26 = 25 from h) (by decide)⟩; cases hp) ((Below.refl _ _).alloc (Nat.le_refl _) _) ⟨w'.heap.size, _, rfl, hJ.size, RowAt.new _ _ _, NoW.two _ _ _ _, rfl⟩ hg0⟩
            · intro L fx w' hJ hL hp hcl;have hg0 : wr.heap.size <= w'.heap.size := Nat.le_trans (by omega : wr.heap.size <= wr.heap.size) hJ.size;refine wps rfl fun K hK => ?_;go_simp;exact hK _ _ ⟨_, by kernel_rfl, hJ.grow 26 (by show 26 < 30; decide) _ (by kernel_rfl) (by kernel_rfl) (by intro t ht; rcases mc ht with rfl | ht; exact ⟨by show 27 ≠ 26; decide, fun h => absurd (show 9 = 10 from h) (by decide)⟩; rcases mc ht with rfl | ht; exact ⟨by show 28 ≠ 26; decide, fun _ => by cases hh : L 28 with | false => rfl | true => have := hcl 28 (by show 28 < 30; decide) hh 26 (by decide); rw [hL] at this; cases this⟩; cases ht) (by intro p hp; rcases mc hp with rfl | hp; exact ⟨⟨fun h => absurd (show 25 = 26 from h) (by decide), fun h => absurd (show 9 = 10 from h) (by decide)⟩, fun h => absurd (show 25 = 26 from h) (by decide)⟩; rcases mc hp with rfl | hp; exact ⟨⟨fun _ => rfl, fun _ => rfl⟩, fun _ q hq hne hLq => (by rcases mc hq with rfl | hq; (obtain ⟨g9, cs9, hx9, _, hr9, _⟩ := hJ.slot 25 (by show 25 < 30; decide) hLq; have hx9 : fx 9 = _ := hx9; show _ ≠ fx 9; rw [hx9]; intro e9; injection e9 with e9; injection e9 with e9; injection e9 with e9; exact absurd e9 (Nat.ne_of_gt hr9.lt)); rcases mc hq with rfl | hq; exact absurd rfl hne; cases hq)⟩; cases hp) ((Below.refl _ _).alloc (Nat.le_refl _) _) ⟨w'.heap.size, _, rfl, hJ.size, RowAt.new _ _ _, NoW.two _ _ _ _, rfl⟩ hg0⟩
            · intro L fx w' hJ hL hp hcl;have e25 := hJ.slot 25 (by show 25 < 30; decide) (hp 25 (by decide));have e22 := hJ.slot 22 (by show 22 < 30; decide) (hp 22 (by decide));have e22' := e22;obtain ⟨b7, o7, l7, k7, hv0⟩ := OwnI.parts e22;rw [hv0] at e22';rw [patchX (x := fx) (d := 70) (v := (.agg #[.bool b7, .slice o7 l7 k7])) hv0] at hJ ⊢;obtain ⟨g, cs, hx, hgB, hr0, hn0, hl0⟩ := e25;obtain ⟨z0, z1, rfl⟩ : ∃ z0 z1, cs = [z0, z1] := list2 hl0;have hf0 := RowAt.free hr0 0;have hc0 := RowAt.cell hr0 0;have hf1 := RowAt.free hr0 1;have hc1 := RowAt.cell hr0 1;try dsimp only at hf0 hc0 hf1 hc1
              have hx1 := hx;rw [patchX (x := (updX fx 70 (.agg #[.bool b7, .slice o7 l7 k7]))) (d := 9) hx] at hJ ⊢;refine wps rfl fun K hK => ?_;go_simp;exact hK _ _ ⟨_, by kernel_rfl, hJ.storeNew (us := [.bool b7, .slice o7 l7 k7]) 27 9 _ _ (by show 27 < 30; decide) rfl mm0 (by intro t ht h; rcases mc ht with rfl | ht; rfl; rcases mc ht with rfl | ht; exact absurd (show 28 = 27 from h) (by decide); cases ht) (by intro t ht hne hLt; rcases mc ht with rfl | ht; exact absurd rfl hne; rcases mc ht with rfl | ht; exact hJ.apart (26, 10) mm1 (25, 9) mm0 (by show 26 ≠ 25; decide) (hcl 28 (by show 28 < 30; decide) hLt 26 (by decide)) (hp 25 (by decide)); cases ht) (by kernel_rfl) (by kernel_rfl) (by decide) (by rfl) hgB hr0 hn0 rfl (NoW.two _ _ _ _) ⟨_, _, _, _, rfl, e22'⟩ (by omega)⟩
            · intro L fx w' hJ hL hp hcl;have e26 := hJ.slot 26 (by show 26 < 30; decide) (hp 26 (by decide));have e23 := hJ.slot 23 (by show 23 < 30; decide) (hp 23 (by decide));have e23' := e23;obtain ⟨b7, o7, l7, k7, hv0⟩ := OwnI.parts e23;rw [hv0] at e23';rw [patchX (x := fx) (d := 71) (v := (.agg #[.bool b7, .slice o7 l7 k7])) hv0] at hJ ⊢;obtain ⟨g, cs, hx, hgB, hr0, hn0, hl0⟩ := e26;obtain ⟨z0, z1, rfl⟩ : ∃ z0 z1, cs = [z0, z1] := list2 hl0;have hf0 := RowAt.free hr0 0;have hc0 := RowAt.cell hr0 0;have hf1 := RowAt.free hr0 1;have hc1 := RowAt.cell hr0 1;try dsimp only at hf0 hc0 hf1 hc1
              have hx1 := hx;rw [patchX (x := (updX fx 71 (.agg #[.bool b7, .slice o7 l7 k7]))) (d := 10) hx] at hJ ⊢;refine wps rfl fun K hK => ?_;go_simp;exact hK _ _ ⟨_, by kernel_rfl, hJ.storeNew (us := [.bool b7, .slice o7 l7 k7]) 28 10 _ _ (by show 28 < 30; decide) rfl mm1 (by intro t ht h; rcases mc ht with rfl | ht; exact absurd (show 27 = 28 from h) (by decide); rcases mc ht with rfl | ht; rfl; cases ht) (by intro t ht hne hLt; rcases mc ht with rfl | ht; exact hJ.apart (25, 9) mm0 (26, 10) mm1 (by show 25 ≠ 26; decide) (hcl 27 (by show 27 < 30; decide) hLt 25 (by decide)) (hp 26 (by decide)); rcases mc ht with rfl | ht; exact absurd rfl hne; cases ht) (by kernel_rfl) (by kernel_rfl) (by decide) (by rfl) hgB hr0 hn0 rfl (NoW.two _ _ _ _) ⟨_, _, _, _, rfl, e23'⟩ (by omega)⟩
            · intro L fx w' hJ hL hp hcl;have e24 := hJ.pt 24 72 (.int .i64 0) rfl rfl rfl (hp 24 (by decide));rw [e24] at hJ ⊢; clear e24;refine wps rfl fun K hK => ?_;go_simp;exact hJ.q hK (by kernel_rfl) rfl
          · intro L x' w3 hL hJ;have hfr : Below wr.drew.heap.size wr.drew w3 := hJ.fr;obtain ⟨g9, cs9, hx9, hg9, hr9, b9, o9, l9, k9, hcs9, hI9⟩ := hJ.new _ mm0 (hL 27 (by show 27 < 30; decide));subst hcs9;have hx9 : x' 9 = _ := hx9;rw [patchX (x := x') (d := 9) hx9];have hg9 : wr.heap.size <= g9 := hg9;have G9 : Hid (RowAt w3 g9 37 [.bool b9, .slice o9 l9 k9]) := Lib.hid hr9;have I9 : Hid (OwnI w3 0 (.agg #[.bool b9, .slice o9 l9 k9]) (xi.fdiv xk)) := Lib.hid hI9;clear hJ hL hx9 hr9 hI9 cb ci ck ci0 ci1 ck0 ck1;have L3 := Lib.hid (LadAt.below (w := wr.drew) hL2.out.drew hfr);have C3 := Lib.hid (hC2.out.drew.below hfr);have R3 := Lib.hid (RowAt.below (w := wr.drew) hG2.out hfr hG2.out.lt);clear hL2 hC2 hG2;simp only [pN, Nat.reduceEqDiff, ↓reduceIte];have q0 : w3.cell? ⟨g9, 0, none⟩ = some (.bool b9) := G9.out.cell 0;have q1 : w3.cell? ⟨g9, 1, none⟩ = some (.slice o9 l9 k9) := G9.out.cell 1;go_wp2_with fail
            clear q0 q1;have hqw : wlen ((xi.fdiv xk)).natAbs <= B + 2 := fdiv_wlen Hpz.out hwi;refine (INeg_c _ (xi.fdiv xk) _ (OwnI.int I9.out (by omega))).mono ?_;rintro e w4 ⟨⟨vn, rfl, hn4⟩, hb4⟩;have L4 := Lib.hid (L3.out.below hb4);have C4 := Lib.hid (C3.out.below hb4);have R4 := Lib.hid (R3.out.below hb4 R3.out.lt);have N4 := Lib.hid (OwnI.int (L := B + 2) hn4 (by rw [Int.natAbs_neg]; exact hqw));clear hb4 hn4 L3 C3 R3 G9 I9;go_wp2_with fail
            have hlx : R2[ii].xs.length = R2[kk].xs.length := by rw [HF2.out.len _ (List.getElem_mem hiR), HF2.out.len _ (List.getElem_mem hkR)]
            have hlen2 : R2[ii].xs.length <= 4611686018427387903 := by rw [HF2.out.len _ (List.getElem_mem hiR)]; omega
            refine (MAdd_c (S.withR R2) ii kk vn (-(xi.fdiv xk)) (B + 2) B _ L4.out hiR hkR (by omega) N4.out hlx (fun x hx => by have := HF2.out.fit _ (List.getElem_mem hiR) x hx; omega) (fun y hy => HF2.out.fit _ (List.getElem_mem hkR) y hy) (by omega) hlen2 (HT.out.good R2) (HT.out.okR HF2.out) (by omega)).mono ?_;rintro e w5 ⟨rfl, hL5, hC5⟩;have hns : ¬ (S.withR R2).own gl := fun h => Hso.out ((Hown2.out gl).1 h);have R5 := Lib.hid (hC5.row R4.out hns);have C5 := Lib.hid (C4.out.trans (hC5.mono (fun k _ e => (Hown2.out k).1 e)));have L5 := Lib.hid hL5;have he : addT R2 ii kk (-((ent R2 ii jj).fdiv (ent R2 kk jj))) = addR R2 ii kk (-(xi.fdiv xk)) hiR hkR := by
             rw [ent_eq hiR hjl, ent_eq hkR hjk, Hxi.out, Hxk.out, addT_eq hiR hkR]
            have HE := Lib.hid he;clear hC5 hL5 L4 C4 R4 N4 he hlx;go_wp2;go_roundw
            case rel =>
             have h3 := HI3.out;rw [HE.out] at h3;exact ⟨kk + 1, _, by omega, by omega, by go_num, Lib.hid (by unfold addR; rw [setXs_length]; exact hR2.out), h3, L5, R5, C5, Lib.hid (fun k => (own_setXs (S.withR R2) ii _ k).trans (Hown2.out k))⟩
            case measure => simp [intOf]; omega
        · obtain rfl : R2 = R1' := HI2.out.fin (by omega);have hkk : kk = m := by omega
          have Hkk := Lib.hid hkk; clear hkk;go_wp2;go_roundw
          case rel => exact ⟨ii, R2, by omega, by go_num, hR2, HO', hL2, hG2, hC2, Hown2⟩
          case measure => simp [intOf]
theorem INat_c (v u : Value) (x y : Nat) (w : World) (hA : IntAt w 17592186044415 v x) (hB : IntAt w 17592186044415 u y) (hy : y ≠ 0) :
 Calls Tryz.prog 101 #[v, u] w fun e w' => (∃ v' u', e = .returned (.tuple #[v', u', .int .i64 0]) /\ OwnI w' w.heap.size v' ((x / y : Nat) : Int) /\ OwnI w' w.heap.size u' ((x % y : Nat) : Int)) /\ Below w.heap.size w w' :=
 ITrunc_c v u x y w hA hB (by omega)
theorem zsign_neg {x : Int} (h : zsign x < 0) : x < 0 := by
 unfold zsign at h; split at h
 · assumption
 · split at h <;> omega
structure ExtX where
 r : Nat
 k : Nat
 m : Int
 l : Int
 p : P4
 q : P4
 s : P4
 t : P4
set_option maxRecDepth 100000 in
set_option maxHeartbeats 4000000 in
theorem IExt_c (v u : Value) (a b : Int) (w : World) (hA : IntAt w 4398046511103 v a) (hB : IntAt w 4398046511103 u b) :
 Calls Tryz.prog 89 #[v, u] w fun e w' => (∃ g x y vg vx vy, e = .returned (.tuple #[vg, vx, vy]) /\ ExtIs a b g x y /\ OwnI w' w.heap.size vg g /\ OwnI w' w.heap.size vx x /\ OwnI w' w.heap.size vy y) /\ Below w.heap.size w w' := by
 have hla := hA.wlen;have hlb := hB.wlen;obtain ⟨p, rfl⟩ := hA.parts;obtain ⟨q, rfl⟩ := hB.parts;have hA0 := hA;have hA := hA.mono (L' := 17592186044415) (by omega);have hB := hB.mono (L' := 17592186044415) (by omega);have hsa := zsign_cases a;refine funW (S0 := fun _ => False) Tryz.func89 (((Fr.nil _ w).i hA).i hB) ?_;refine goW ?_;refine rW [] ?_;refine aW fun g2 => ?_;refine aW fun g3 => ?_;refine aW fun g4 => ?_;refine aW fun g5 => ?_;refine aW fun g6 => ?_;refine eW ?_;refine goW ?_;refine rW [] ?_;refine dW ?_;refine cV (fun w H => ISign_c _ b w H.m5) ?_;refine dW ?_;refine eW ?_;refine goW ?_;refine condW (fun h => ?_) (fun h => ?_)
 · refine goW ?_;refine rW [[], [], [], [], [], [1, 2]] ?_;refine dH ?_;refine cN (fun w H => IAbs_c _ a w H.m6) fun p1 => ?_;refine dH ?_;refine cV (fun w H => ISign_c _ a w H.m7) ?_;refine cN (fun w H => IOf_c (zsign a) w (by omega) (by omega)) fun p2 => ?_;refine dH ?_;refine sW ?_;refine sW ?_;refine sW ?_;refine eW ?_;refine goW ?_;refine fin3 fun w H => ?_;obtain rfl : b = 0 := zsign_beq.1 (by simpa using h);exact ⟨_, _, _, rvI H.m4, rvI H.m3, rvI H.m2, ⟨_, _, _, _, _, _, rfl, extIs_zero a, H.m1, H.m0, OwnI.zero _ _⟩, H.below⟩
 refine goW ?_;refine rW [] ?_;refine dW ?_;refine cN (fun w H => IAbs_c _ a w H.m6) fun p1 => ?_;refine dW ?_;refine cN (fun w H => IAbs_c _ b w H.m6) fun p2 => ?_;refine dW ?_;refine aW fun g7 => ?_;refine sG ?_;refine eW ?_;refine goW ?_;refine rW [] ?_;refine cN (fun w H => IOf_c 1 w (by omega) (by omega)) fun p3 => ?_;refine cN (fun w H => IOf_c 0 w (by omega) (by omega)) fun p4 => ?_;refine dW ?_;refine aW fun g8 => ?_;refine sG ?_;refine eW ?_;refine goW ?_;have hb0 : b ≠ 0 := fun e => by rw [zsign_beq.2 e] at h; cases h
 refine loopW (X := ExtX) (fun x => EInv a.natAbs b x.r x.k x.m x.l /\ x.r <= max a.natAbs b.natAbs /\ x.k <= max a.natAbs b.natAbs) (·.k) (fun _ => [(8, .pointer (some ⟨g8, 0, none⟩)), (7, .pointer (some ⟨g7, 0, none⟩)), (6, .pointer (some ⟨g6, 0, none⟩)), (5, .pointer (some ⟨g5, 0, none⟩)), (4, .pointer (some ⟨g4, 0, none⟩)), (3, .pointer (some ⟨g3, 0, none⟩)), (2, .pointer (some ⟨g2, 0, none⟩))])
  (fun x => [.row g8 105 (cl x.s ++ cl x.t), .own w.heap.size (av x.t) x.l, .own w.heap.size (av x.s) x.m, .row g7 105 (cl x.p ++ cl x.q), .own w.heap.size (av x.q) x.k, .own w.heap.size (av x.p) x.r, .row g6 37 (cl p0), .row g5 37 (cl p0), .row g4 37 (cl p0), .row g3 37 (cl q), .row g2 37 (cl p), .at 17592186044415 (av q) b, .at 17592186044415 (av p) a])
  ⟨a.natAbs, b.natAbs, 1, 0, p1, p2, p3, p4⟩ ⟨EInv.start _ hb0, Nat.le_max_left .., Nat.le_max_right ..⟩ (fun x hx => ?_)
 · have hmx : wlen (max a.natAbs b.natAbs) <= 4398046511103 := by rcases Nat.le_total a.natAbs b.natAbs with h | h <;> simp [Nat.max_eq_left, Nat.max_eq_right, h, hla, hlb]
   obtain ⟨hE, hr, hk⟩ := hx;have br : wlen ((x.r : Nat) : Int).natAbs <= 4398046511103 := Nat.le_trans (wlen_mono hr) hmx;have bk : wlen ((x.k : Nat) : Int).natAbs <= 4398046511103 := Nat.le_trans (wlen_mono hk) hmx;have bm : wlen x.m.natAbs <= 4398046511103 := Nat.le_trans (wlen_mono hE.k0) hlb;have bl : wlen x.l.natAbs <= 4398046511103 := Nat.le_trans (wlen_mono hE.k1) hlb;refine goW ?_;refine rW [] ?_;refine dW ?_;refine dW ?_;refine cV (fun w H => ISign_c _ x.k w (OwnI.int H.m4 (by omega))) ?_;refine dW ?_;refine eW ?_;refine goW ?_;refine condW (fun h => ?_) (fun h => ?_)
   · have hk0 : x.k ≠ 0 := fun e => by rw [e] at h; cases h
     refine goW ?_;refine rW [] ?_;refine dW ?_;refine dW ?_;refine dW ?_;refine dW ?_;refine cN2 (fun w H => INat_c _ _ x.r x.k w (OwnI.int H.m5 (by omega)) (OwnI.int H.m4 (by omega)) (by omega)) fun p5 p6 => ?_;refine dW ?_;refine dW ?_;refine dW ?_;refine dW ?_;refine aW fun g9 => ?_;refine aW fun g10 => ?_;refine sG ?_;refine sG ?_;refine dW ?_;refine eW ?_;refine goW ?_;refine rW [] ?_;refine dW ?_;refine dW ?_;refine dW ?_;refine dW ?_;refine dW ?_;have hs := hE.step hk0;have bq : wlen ((x.r / x.k : Nat) : Int).natAbs <= 4398046511103 := Nat.le_trans (wlen_mono (Nat.le_trans (Nat.div_le_self ..) hr)) hmx;have bn := Nat.le_trans (wlen_mono hs.k1) hlb;refine cN (x := ((x.r / x.k : Nat) : Int) * x.l) (fun w H => IMul_c _ _ _ _ 4398046511103 4398046511103 w (OwnI.int H.m2 bq) (OwnI.int H.m5 bl) (by omega)) fun p7 => ?_;refine cN (fun w H => ISub_c _ _ _ _ w (OwnI.int H.m7 (by omega)) (OwnI.int H.m0 (Nat.le_trans (by rw [Int.natAbs_mul]; exact wlen_mul ..) (by omega : _ <= 17592186044415)))) fun p8 => ?_;refine aW fun g12 => ?_;refine sG ?_;refine eW ?_;refine goW ?_;refine rW [] ?_;refine dW ?_;refine dW ?_;refine dW ?_;refine dW ?_;refine sW ?_;refine eW ?_;refine goW ?_;refine rW [] ?_;refine dW ?_;refine dW ?_;refine dW ?_;refine dW ?_;refine sW ?_;refine eW ?_;refine goW ?_;refine backW ⟨x.k, x.r % x.k, x.l, x.m - ((x.r / x.k : Nat) : Int) * x.l, x.q, p6, x.t, p8⟩ ⟨⟨hs, hk, Nat.le_trans (Nat.le_of_lt (Nat.mod_lt _ (by omega))) hk⟩, Nat.mod_lt _ (by omega)⟩
   · have hk0 : x.k = 0 := by
      have := zsign_beq.1 (by simpa using h : zsign x.k = 0);omega
     rw [hk0] at hE;obtain ⟨hg, hd⟩ := hE.done hb0;have hmb := hE.k0;refine goW ?_;refine rW [[], [], [8], [8]] ?_;refine dH ?_;refine dH ?_;refine dH ?_;refine dH ?_;refine sW ?_;refine sW ?_;refine eW ?_;refine goW ?_;refine rW [] ?_;refine dW ?_;refine cV (fun w H => ISign_c _ a w H.m12) ?_;refine dW ?_;refine eW ?_;refine goW ?_;refine joinW (X := P4 × Int) (fun z => b ∣ (x.r : Int) - z.2 * a /\ wlen z.2.natAbs <= 4398046511103) (fun _ => [(6, .pointer (some ⟨g6, 0, none⟩)), (5, .pointer (some ⟨g5, 0, none⟩)), (4, .pointer (some ⟨g4, 0, none⟩)), (3, .pointer (some ⟨g3, 0, none⟩)), (2, .pointer (some ⟨g2, 0, none⟩))])
      (fun z => [.own w.heap.size (av z.1) z.2, .own w.heap.size (av x.p) x.r, .row g6 37 (cl p0), .row g5 37 (cl z.1), .row g4 37 (cl x.p), .row g3 37 (cl q), .row g2 37 (cl p), .at 17592186044415 (av q) b, .at 17592186044415 (av p) a]) ?_ (fun z hz => ?_)
     · refine condW (fun h => ?_) (fun h => ?_)
       · have ha := zsign_neg (by simpa using h);rw [if_pos ha] at hd;refine goW ?_;refine rW [] ?_;refine dW ?_;refine cN (fun w H => INeg_c _ x.m w (OwnI.int H.m2 (by omega))) fun p9 => ?_;refine sW ?_;refine eW ?_;refine goW ?_;exact joinE (p9, -x.m) ⟨hd, by simpa using bm⟩
       · have ha : ¬ a < 0 := fun e => by
          have : zsign a = -1 := by unfold zsign; rw [if_pos e]
          rw [this] at h; cases h
         rw [if_neg ha] at hd;refine goW ?_;exact joinE (x.s, x.m) ⟨hd, bm⟩
     · obtain ⟨pm, m⟩ := z;obtain ⟨h1, h2, h3, h4⟩ := ext_last hb0 hg hz.1;have bz : wlen m.natAbs <= 4398046511103 := hz.2;have hr0 : (x.r : Int) ≠ 0 := fun e => hb0 (Int.zero_dvd.1 (e ▸ h1));have bq : wlen (b / (x.r : Int)).natAbs <= 4398046511103 := Nat.le_trans (wlen_mono (Int.natAbs_ediv_le_natAbs _ _)) hlb;have bx : wlen (m % (b / (x.r : Int))).natAbs <= 4398046511103 := Nat.le_trans (wlen_mono (by have := Int.emod_nonneg m h2; have := Int.emod_lt m h2; omega)) bq;refine goW ?_;refine rW [] ?_;refine dW ?_;refine dW ?_;refine cN1 (fun w H => IExact_c _ _ b x.r w H.m7 (OwnI.int H.m1 (by omega)) hr0 h1) fun p9 => ?_;refine dW ?_;refine dW ?_;refine dW ?_;refine aW fun g13 => ?_;refine sG ?_;refine dW ?_;refine eW ?_;refine goW ?_;refine rW [[], [], [], [], [], [5]] ?_;refine dH ?_;refine dH ?_;refine cN1 (fun w H => IMod_c _ _ m _ w (OwnI.int H.m2 (by omega)) (OwnI.int H.m1 (by omega)) h2) fun p10 => ?_;refine dH ?_;refine dH ?_;refine dH ?_;refine sW ?_;refine eW ?_;refine goW ?_;refine rW [[], [], [], [], [], [], [], [], [], [5]] ?_;refine dH ?_;refine dH ?_;refine dH ?_;refine cN (fun w H => IMul_c _ _ a _ 4398046511103 4398046511103 w (IntAt.below hA0 H.below) (OwnI.int H.m0 bx) (by omega)) fun p11 => ?_;have bp : wlen (a * (m % (b / (x.r : Int)))).natAbs <= 8796093022206 := Nat.le_trans (by rw [Int.natAbs_mul]; exact wlen_mul ..) (by omega : _ <= 8796093022206);refine cN (fun w H => ISub_c _ _ _ _ w (OwnI.int H.m5 (by omega)) (OwnI.int H.m0 (by omega))) fun p12 => ?_;refine dH ?_;have bs : wlen ((x.r : Int) - a * (m % (b / (x.r : Int)))).natAbs <= 17592186044415 := by
        have h5 := wlen_mono (Int.natAbs_sub_le (x.r : Int) (a * (m % (b / (x.r : Int)))));have h6 := wlen_add (x.r : Int).natAbs (a * (m % (b / (x.r : Int)))).natAbs;have h7 : max (wlen (x.r : Int).natAbs) (wlen (a * (m % (b / (x.r : Int)))).natAbs) <= 8796093022206 := Nat.max_le.2 ⟨by omega, bp⟩;omega
       refine cN1 (fun w H => IExact_c _ _ _ b w (OwnI.int H.m0 bs) H.m12 hb0 h3) fun p13 => ?_;refine dH ?_;refine dH ?_;refine dH ?_;refine sW ?_;refine eW ?_;refine goW ?_;refine rW [[], [10], [10, 9]] ?_;refine dH ?_;refine dH ?_;refine dH ?_;refine sW ?_;refine sW ?_;refine sW ?_;refine eW ?_;refine goW ?_;refine fin3 fun w H => ?_;exact ⟨_, _, _, rvI H.m10, rvI H.m9, rvI H.m8, ⟨_, _, _, _, _, _, rfl, h4, H.m7, H.m3, H.m0⟩, H.below⟩
end Go.Proofs.YtdgfhcaokigieaaGreat
namespace Go.Proofs.YtdgfhcaokigieaaGreat
def extM (r0 r1 : Nat) (m0 m1 : Int) : Nat × Int :=
 if h : r1 = 0 then (r0, m0) else extM r1 (r0 % r1) m1 (m0 - ((r0 / r1 : Nat) : Int) * m1)
termination_by r1
decreasing_by exact Nat.mod_lt _ (Nat.pos_of_ne_zero h)
theorem extM_inv {A : Nat} {b : Int} : ∀ (r1 r0 : Nat) (m0 m1 : Int), EInv A b r0 r1 m0 m1 -> ∃ m', EInv A b (extM r0 r1 m0 m1).1 0 (extM r0 r1 m0 m1).2 m' := by
 intro r1;induction r1 using Nat.strongRecOn with
 | _ r1 ih =>
  intro r0 m0 m1 h;by_cases h0 : r1 = 0
  · subst h0; rw [extM]; exact ⟨m1, by simpa using h⟩
  · rw [extM, dif_neg h0];exact ih (r0 % r1) (Nat.mod_lt _ (Nat.pos_of_ne_zero h0)) _ _ _ (h.step h0)
def extG (a b : Int) : Int := if b = 0 then a.natAbs else (extM a.natAbs b.natAbs 1 0).1
def extX (a b : Int) : Int := if b = 0 then a.sign else (if a < 0 then -(extM a.natAbs b.natAbs 1 0).2 else (extM a.natAbs b.natAbs 1 0).2) % (b / extG a b)
def extY (a b : Int) : Int := if b = 0 then 0 else (extG a b - a * extX a b) / b
theorem ext_is (a b : Int) : ExtIs a b (extG a b) (extX a b) (extY a b) := by
 by_cases hb : b = 0
 · unfold ExtIs extG extX extY; simp [hb]
 · obtain ⟨m', h⟩ := extM_inv _ _ _ _ (EInv.start a.natAbs hb);obtain ⟨h1, h2⟩ := h.done hb;have hg : extG a b = ((extM a.natAbs b.natAbs 1 0).1 : Int) := by unfold extG; rw [if_neg hb]
   have h3 := (ext_last (m := if a < 0 then -(extM a.natAbs b.natAbs 1 0).2 else (extM a.natAbs b.natAbs 1 0).2) hb (hg.trans h1) (by rw [hg]; exact h2)).2.2.2;have hx : extX a b = (if a < 0 then -(extM a.natAbs b.natAbs 1 0).2 else (extM a.natAbs b.natAbs 1 0).2) % (b / extG a b) := by
    unfold extX; rw [if_neg hb]
   have hy : extY a b = (extG a b - a * extX a b) / b := by unfold extY; rw [if_neg hb]
   rw [hy, hx];exact h3
theorem ExtIs.unique {a b g x y g' x' y' : Int} (h : ExtIs a b g x y) (h' : ExtIs a b g' x' y') : g = g' /\ x = x' /\ y = y' := by
 unfold ExtIs at h h';by_cases hb : b = 0
 · rw [if_pos hb] at h h';obtain ⟨h1, h2, h3⟩ := h;obtain ⟨h1', h2', h3'⟩ := h';exact ⟨h1.trans h1'.symm, h2.trans h2'.symm, h3.trans h3'.symm⟩
 · rw [if_neg hb] at h h';obtain ⟨h1, h2, h3, h4⟩ := h;obtain ⟨h1', h2', h3', h4'⟩ := h';have hg : g = g' := h1.trans h1'.symm;subst hg;have hgb : g ∣ b := h1 ▸ Int.gcd_dvd_right ..;have hga : g ∣ a := h1 ▸ Int.gcd_dvd_left ..;obtain ⟨c, hc⟩ := hgb;obtain ⟨e, he⟩ := hga;have hg0 : g ≠ 0 := fun hh => hb (by rw [hc, hh, Int.zero_mul]);have hgp : 0 < g := by rw [h1] at hg0 ⊢; omega
   have k1 : e * x + c * y = 1 := by
    have : g * (e * x + c * y) = g * 1 := by rw [Int.mul_add, <- Int.mul_assoc, <- Int.mul_assoc, <- he, <- hc, h4, Int.mul_one]
    exact Int.eq_of_mul_eq_mul_left hg0 this
   have k2 : e * x' + c * y' = 1 := by
    have : g * (e * x' + c * y') = g * 1 := by rw [Int.mul_add, <- Int.mul_assoc, <- Int.mul_assoc, <- he, <- hc, h4', Int.mul_one]
    exact Int.eq_of_mul_eq_mul_left hg0 this
   have hcb : (b.natAbs : Int) = c.natAbs * g := by
    rw [hc, Int.natAbs_mul, Int.natCast_mul, Int.natAbs_of_nonneg (Int.le_of_lt hgp), Int.mul_comm]
   rw [hcb] at h3 h3';have hx : x < c.natAbs := Int.lt_of_mul_lt_mul_right h3 (Int.le_of_lt hgp);have hx' : x' < c.natAbs := Int.lt_of_mul_lt_mul_right h3' (Int.le_of_lt hgp);have hdv : c ∣ x - x' := by
    have e1 : x - x' = c * (x * y' - x' * y) := by
     have e2 : x * (e * x' + c * y') - x' * (e * x + c * y) = x - x' := by rw [k1, k2]; omega
     rw [<- e2];simp only [Int.mul_add, Int.mul_sub];have e3 : x * (e * x') = x' * (e * x) := by rw [Int.mul_left_comm, Int.mul_left_comm x' e x, Int.mul_comm x x']
     have e4 : x * (c * y') = c * (x * y') := Int.mul_left_comm ..;have e5 : x' * (c * y) = c * (x' * y) := Int.mul_left_comm ..;rw [e3, e4, e5]; omega
    exact ⟨_, e1⟩
   have hxx : x = x' := by
    have hn := Int.natAbs_dvd_natAbs.2 hdv;have hlt : (x - x').natAbs < c.natAbs := by omega
    have := Nat.eq_zero_of_dvd_of_lt hn hlt;omega
   subst hxx;refine ⟨rfl, rfl, ?_⟩;have : b * y = b * y' := by omega
   exact Int.eq_of_mul_eq_mul_left hb this
end Go.Proofs.YtdgfhcaokigieaaGreat
namespace Go.Proofs.YtdgfhcaokigieaaGreat
open Go.RowKit
theorem IExtF_c (v u : Value) (a b : Int) (w : World) (hA : IntAt w 4398046511103 v a) (hB : IntAt w 4398046511103 u b) :
 Calls Tryz.prog 89 #[v, u] w fun e w' => (∃ vg vx vy, e = .returned (.tuple #[vg, vx, vy]) /\ OwnI w' w.heap.size vg (extG a b) /\ OwnI w' w.heap.size vx (extX a b) /\ OwnI w' w.heap.size vy (extY a b)) /\ Below w.heap.size w w' := by
 refine (IExt_c v u a b w hA hB).mono ?_;rintro e w' ⟨⟨g, x, y, vg, vx, vy, rfl, hE, h1, h2, h3⟩, hb⟩;obtain ⟨rfl, rfl, rfl⟩ := hE.unique (ext_is a b);exact ⟨⟨vg, vx, vy, rfl, h1, h2, h3⟩, hb⟩
theorem fmod_wlen {x y : Int} {B : Nat} (hy : y ≠ 0) (h : wlen y.natAbs <= B) : wlen (x.fmod y).natAbs <= B := by
 refine Nat.le_trans (wlen_mono ?_) h;have h1 := Int.emod_nonneg x hy;have h2 := Int.emod_lt x hy;rw [Int.fmod_eq_emod];split <;> omega
theorem extG_dvd (a b : Int) : extG a b ∣ a /\ extG a b ∣ b /\ (a ≠ 0 -> extG a b ≠ 0) /\ 0 <= extG a b := by
 have h := ext_is a b;unfold ExtIs at h;by_cases hb : b = 0
 · rw [if_pos hb] at h;rw [h.1, hb];refine ⟨Int.natAbs_dvd.2 (Int.dvd_refl a), Int.dvd_zero _, fun ha => by omega, by omega⟩
 · rw [if_neg hb] at h;rw [h.1];refine ⟨Int.gcd_dvd_left .., Int.gcd_dvd_right .., fun ha h0 => ?_, by omega⟩;have : Int.gcd a b = 0 := by omega
   exact ha (Int.gcd_eq_zero_iff.1 this).1
theorem ext_det (a b : Int) (hg : extG a b ≠ 0) : extX a b * (a / extG a b) + extY a b * (b / extG a b) = 1 := by
 have h := ext_is a b;have hd := extG_dvd a b;have key : a * extX a b + b * extY a b = extG a b := by
  unfold ExtIs at h;split at h
  · rename_i hb;rw [h.1, h.2.1, h.2.2, hb, Int.zero_mul, Int.add_zero, Int.mul_comm];rcases Int.lt_trichotomy a 0 with e | e | e
    · rw [Int.sign_eq_neg_one_of_neg e]; omega
    · subst e; rfl
    · rw [Int.sign_eq_one_of_pos e]; omega
  · exact h.2.2.2
 have ha : extG a b * (a / extG a b) = a := Int.mul_ediv_cancel' hd.1;have hb : extG a b * (b / extG a b) = b := Int.mul_ediv_cancel' hd.2.1;refine Int.eq_of_mul_eq_mul_left hg ?_;rw [Int.mul_add, Int.mul_left_comm, ha, Int.mul_left_comm, hb, Int.mul_one, Int.mul_comm (extX a b), Int.mul_comm (extY a b)];exact key
theorem extX_le (a b : Int) : (extX a b).natAbs <= b.natAbs + 1 := by
 have h := ext_is a b;have hg := extG_dvd a b;unfold ExtIs at h;by_cases hb : b = 0
 · rw [if_pos hb] at h;rw [h.2.1];have := Int.natAbs_sign a;rcases Int.lt_trichotomy a 0 with h1 | h1 | h1
   · rw [Int.sign_eq_neg_one_of_neg h1]; simp
   · subst h1; simp
   · rw [Int.sign_eq_one_of_pos h1]; simp
 · rw [if_neg hb] at h;obtain ⟨h1, h2, h3, h4⟩ := h;have hg1 : 1 <= extG a b := by
    have h0 : extG a b ≠ 0 := by
     rw [h1]; intro h0;have : Int.gcd a b = 0 := by omega
     exact hb (Int.gcd_eq_zero_iff.1 this).2
    have := hg.2.2.2;omega
   have : extX a b * 1 <= extX a b * extG a b := Int.mul_le_mul_of_nonneg_left hg1 h2;omega
theorem extY_le (a b : Int) : (extY a b).natAbs <= a.natAbs + 1 := by
 have h := ext_is a b;have hx := extX_le a b;unfold ExtIs at h;by_cases hb : b = 0
 · rw [if_pos hb] at h;rw [h.2.2]; simp
 · rw [if_neg hb] at h;obtain ⟨h1, h2, h3, h4⟩ := h;have hg := (extG_dvd a b).2.2.2;have hgb : (extG a b).natAbs <= b.natAbs := by
    rw [h1];simp only [Int.natAbs_natCast];exact Nat.le_of_dvd (by omega) (Int.natAbs_dvd_natAbs.2 (Int.gcd_dvd_right a b) |> fun h => by simpa using h)
   have hg1 : 1 <= extG a b := by
    have h0 : extG a b ≠ 0 := by
     rw [h1]; intro h0;have : Int.gcd a b = 0 := by omega
     exact hb (Int.gcd_eq_zero_iff.1 this).2
    omega
   have hxl : (extX a b).natAbs <= b.natAbs := by
    have : extX a b * 1 <= extX a b * extG a b := Int.mul_le_mul_of_nonneg_left hg1 h2;omega
   have h5 : b * extY a b = extG a b - a * extX a b := by omega
   have h6 : b.natAbs * (extY a b).natAbs <= b.natAbs * (a.natAbs + 1) := by
    rw [<- Int.natAbs_mul, h5];have h7 : (extG a b - a * extX a b).natAbs <= (extG a b).natAbs + (a * extX a b).natAbs := Int.natAbs_sub_le ..;have h8 : (a * extX a b).natAbs <= a.natAbs * b.natAbs := by rw [Int.natAbs_mul]; exact Nat.mul_le_mul_left _ hxl
    rw [Nat.mul_add, Nat.mul_one, Nat.mul_comm b.natAbs a.natAbs];omega
   exact Nat.le_of_mul_le_mul_left h6 (by omega)
theorem wlen_succ {n m B : Nat} (h : n <= m + 1) (hm : wlen m <= B) : wlen n <= B + 2 := by
 have h3 := wlen_mono h;have h4 := wlen_add m 1;have h5 : wlen 1 <= 1 := wlen_le_of_lt (by decide);have h6 : max (wlen m) (wlen 1) <= B + 1 := Nat.max_le.2 ⟨by omega, by omega⟩;omega
def mixT (R : List Hd) (i j : Nat) (a b c d : Int) : List Hd := if h : i < R.length /\ j < R.length then mixR R i j a b c d h.1 h.2 else R
theorem mixT_eq {R : List Hd} {i j : Nat} {a b c d : Int} (hi : i < R.length) (hj : j < R.length) : mixT R i j a b c d = mixR R i j a b c d hi hj := by unfold mixT; rw [dif_pos ⟨hi, hj⟩]
def meetA (R : List Hd) (k n j : Nat) : List Hd := addT R n k (-((ent R n j).fdiv (ent R k j)))
def meetT (R : List Hd) (k n j : Nat) : List Hd :=
 if (ent R n j).fmod (ent R k j) = 0 then meetA R k n j
 else mixT (meetA R k n j) k n (extX (ent (meetA R k n j) k j) (ent (meetA R k n j) n j)) (extY (ent (meetA R k n j) k j) (ent (meetA R k n j) n j))
  (-(ent (meetA R k n j) n j / extG (ent (meetA R k n j) k j) (ent (meetA R k n j) n j))) (ent (meetA R k n j) k j / extG (ent (meetA R k n j) k j) (ent (meetA R k n j) n j))
def AV.int4 (B : Nat) (a b c d : Int) : AV := AV.free (fun w v => ∃ p q r s : P4, v = .agg #[.bool p.1, .slice p.2.1 p.2.2.1 p.2.2.2, .bool q.1, .slice q.2.1 q.2.2.1 q.2.2.2, .bool r.1, .slice r.2.1 r.2.2.1 r.2.2.2, .bool s.1, .slice s.2.1 s.2.2.1 s.2.2.2] /\ OwnI w B (av p) a /\ OwnI w B (av q) b /\ OwnI w B (av r) c /\ OwnI w B (av s) d) (fun ⟨p, q, r, s, e, h1, h2, h3, h4⟩ hb => ⟨p, q, r, s, e, OwnI.below h1 hb, OwnI.below h2 hb, OwnI.below h3 hb, OwnI.below h4 hb⟩) (fun ⟨p, q, r, s, e, h1, h2, h3, h4⟩ hr _ ht k u _ => ⟨p, q, r, s, e, OwnI.setRow h1 hr ht k u, OwnI.setRow h2 hr ht k u, OwnI.setRow h3 hr ht k u, OwnI.setRow h4 hr ht k u⟩)
theorem RowAt.ownBlock {w : World} {g : Nat} {t : TypeId} {cs : List Value} (h : RowAt w g t cs) {g' : Nat} {cur : Array Value} (hg : w.heap[g']? = some (.cells cur 41 (0, 0))) (ht : t ≠ 41) : g' ≠ g := by
 rintro rfl;unfold RowAt at h;rw [hg] at h;simp only [Option.some.injEq, Obj.cells.injEq] at h;exact ht h.2.1.symm
theorem SdAt.typed {w : World} {S : LSt} (h : SdAt w S) : ∀ g, S.rws g -> ∃ t cs, RowAt w g t cs /\ t ≠ 41 := by
 intro g hg;rcases hg with rfl | ⟨r, hr, rfl⟩
 · obtain ⟨tl, n, ho⟩ := h.mat.out; exact ⟨_, _, ho, by decide⟩
 · obtain ⟨ps, tl, nt, hp, _⟩ := h.mat.row r hr;exact ⟨_, _, hp, by decide⟩
theorem LadAt.ownTyped {w : World} {S : LSt} (h : LadAt w S) : ∀ g, S.own g -> ∃ t cs, RowAt w g t cs /\ t ≠ 41 := by
 rintro g (e | ⟨t, ht, e⟩)
 · exact h.sd.typed g e
 · obtain ⟨V, hV⟩ := h.ext t ht;exact hV.sd.typed g ((hV.own g).1 e)
theorem Chg.ownI {S : Nat -> Prop} {w w' : World} (h : Chg S w w') (hS : ∀ g, S g -> ∃ t cs, RowAt w g t cs /\ t ≠ 41) {B : Nat} {v : Value} {x : Int} (hx : OwnI w B v x) : OwnI w' B v x := by
 obtain ⟨ao, cap, rfl, h1, h2, h3, h4⟩ := hx;refine ⟨ao, cap, rfl, h1, h2, h3, ?_⟩;rcases h4 with h0 | ⟨g, c, cur, hv, hbb, hg, r⟩
 · exact .inl h0
 · refine .inr ⟨g, c, cur, hv, hbb, ?_, r⟩;rw [h.block g (Array.getElem?_eq_some_iff.1 hg).1 (fun hs => by obtain ⟨t, cs, hr, ht⟩ := hS g hs; exact hr.ownBlock hg ht rfl)];exact hg
set_option maxRecDepth 100000 in
set_option maxHeartbeats 8000000 in
theorem Meet_c (S : LSt) (k n j B c : Nat) (w : World) (h : LadAt w S) (hk : k < S.R.length) (hn : n < S.R.length) (hkn : k ≠ n) (hj : j < c) (hB : B <= 4000000000000) (hF : Fit B c S.R) (hF1 : Fit B c (meetA S.R k n j)) (hp : ent S.R k j ≠ 0) (hp1 : ent (meetA S.R k n j) k j ≠ 0) (hR : S.R.length <= 1000000) (hc : c <= 1000000) (hT : S.sat B c) :
 Calls Tryz.prog 75 #[.pointer (some ⟨S.lb, 0, none⟩), .int .i64 (k : Int), .int .i64 (n : Int), .int .i64 (j : Int)] w fun e w' => e = .returned (.tuple #[]) /\ LadAt w' (S.withR (meetT S.R k n j)) /\ Chg S.own w w' := by
 have HL := Lib.hid h; clear h;have HF := Lib.hid hF; clear hF;have HF1 := Lib.hid hF1; clear hF1;have HP := Lib.hid hp; clear hp;have HP1 := Lib.hid hp1; clear hp1;have HT := Lib.hid hT; clear hT;go_enter Tryz.func75, Tryz.ntmps75;have cb : w.cell? ⟨S.lb, 0, none⟩ = some (.slice (some ⟨S.o, 0, none⟩) S.R.length S.cap) := HL.out.lad.cell 0;have ci : w.cell? ⟨S.o, n, none⟩ = some (.slice (some ⟨S.R[n].blk, 0, none⟩) S.R[n].xs.length S.R[n].cap) := HL.out.mat.hdr (i := n) hn;have ck : w.cell? ⟨S.o, k, none⟩ = some (.slice (some ⟨S.R[k].blk, 0, none⟩) S.R[k].xs.length S.R[k].cap) := HL.out.mat.hdr (i := k) hk;have hXi := HL.out.mat.row _ (List.getElem_mem (l := S.R) hn);have hXk := HL.out.mat.row _ (List.getElem_mem (l := S.R) hk);have hjl : j < S.R[n].xs.length := by rw [HF.out.len _ (List.getElem_mem hn)]; exact hj
 have hjk : j < S.R[k].xs.length := by rw [HF.out.len _ (List.getElem_mem hk)]; exact hj
 have hjl1 : (j : Int) < (S.R[n].xs.length : Int) := by omega
 have hjk1 : (j : Int) < (S.R[k].xs.length : Int) := by omega
 have hi1 : (n : Int) < (S.R.length : Int) := by omega
 have hk1 : (k : Int) < (S.R.length : Int) := by omega
 obtain ⟨pi, ci0, ci1, hni⟩ := hXi.get hjl;obtain ⟨pk, ck0, ck1, hnk⟩ := hXk.get hjk;have hwi : wlen (S.R[n].xs[j]).natAbs <= B := HF.out.fit _ (List.getElem_mem hn) _ (List.getElem_mem hjl);have hwk : wlen (S.R[k].xs[j]).natAbs <= B := HF.out.fit _ (List.getElem_mem hk) _ (List.getElem_mem hjk);obtain ⟨xi, hxi⟩ : ∃ xi, S.R[n].xs[j] = xi := ⟨_, rfl⟩;obtain ⟨xk, hxk⟩ : ∃ xk, S.R[k].xs[j] = xk := ⟨_, rfl⟩;rw [hxi] at hni hwi;rw [hxk] at hnk hwk;have Hxi := Lib.hid ((ent_eq hn hjl).trans hxi); clear hxi;have Hxk := Lib.hid ((ent_eq hk hjk).trans hxk); clear hxk;have sb1 := hXi.lt;have sb2 := hXk.lt;have sb3 : S.lb < w.heap.size := HL.out.lad.lt;have sb4 : S.o < w.heap.size := HL.out.mat.out.lt;clear hXi hXk;have hpz : xk ≠ 0 := by have := HP.out; rw [Hxk.out] at this; exact this
 have Hpz := Lib.hid hpz; clear hpz;have Hni := Lib.hid (hni.int (L := 17592186044415) (by omega));have Hnk := Lib.hid (hnk.int (L := 17592186044415) (by omega));clear hni hnk;go_wp2;refine wp_region_J ⟨30, fun q_ => [21, 22, 23, 24, 25, 26, 27, 28, 29, 30, 31, 32, 33, 34, 35, 36, 37, 38, 39, 40, 41, 20, 42, 43, 44, 8, 9, 1027, 1028, 10].getD q_ 0,
  fun q_ => [.val (.pointer (some ⟨S.lb, 0, none⟩)), .val (.pointer (some ⟨S.lb, 0, none⟩)), .val (.pointer (some ⟨S.lb, 0, none⟩)), .val (.slice (some ⟨S.o, 0, none⟩) S.R.length S.cap), .val (.int .i64 (n : Int)), .val (.pointer (some ⟨S.o, n, none⟩)), .val (.slice (some ⟨S.R[n].blk, 0, none⟩) S.R[n].xs.length S.R[n].cap), .val (.int .i64 (j : Int)), .val (.pointer (some ⟨S.R[n].blk, j * 2, none⟩)), .val (.agg #[.bool pi.1, .slice pi.2.1 pi.2.2.1 pi.2.2.2]), .val (.pointer (some ⟨S.lb, 0, none⟩)), .val (.pointer (some ⟨S.lb, 0, none⟩)), .val (.pointer (some ⟨S.lb, 0, none⟩)), .val (.slice (some ⟨S.o, 0, none⟩) S.R.length S.cap), .val (.int .i64 (k : Int)), .val (.pointer (some ⟨S.o, k, none⟩)), .val (.slice (some ⟨S.R[k].blk, 0, none⟩) S.R[k].xs.length S.R[k].cap), .val (.int .i64 (j : Int)), .val (.pointer (some ⟨S.R[k].blk, j * 2, none⟩)), .val (.agg #[.bool pk.1, .slice pk.2.1 pk.2.2.1 pk.2.2.2]), .tup2 0 (xi.fdiv xk) (xi.fmod xk), .tup2 0 (xi.fdiv xk) (xi.fmod xk), .int 0 (xi.fdiv xk), .int 0 (xi.fmod xk), .val (.int .i64 0), .ptr w.heap.size 37 2, .ptr w.heap.size 37 2, .any, .any, .val (.int .i64 0)].getD q_ .any,
  [],
  [(.agg #[.bool pi.1, .slice pi.2.1 pi.2.2.1 pi.2.2.2], .at_ 17592186044415 xi), (.agg #[.bool pk.1, .slice pk.2.1 pk.2.2.1 pk.2.2.2], .at_ 17592186044415 xk)],
  [],
  [(27, 8, 37, .int 0 (xi.fdiv xk)), (28, 9, 37, .int 0 (xi.fmod xk))], [(⟨S.lb, 0, none⟩, .slice (some ⟨S.o, 0, none⟩) S.R.length S.cap), (⟨S.o, n, none⟩, .slice (some ⟨S.R[n].blk, 0, none⟩) S.R[n].xs.length S.R[n].cap), (⟨S.o, k, none⟩, .slice (some ⟨S.R[k].blk, 0, none⟩) S.R[k].xs.length S.R[k].cap), (⟨S.R[n].blk, j * 2, none⟩, .bool pi.1), (⟨S.R[n].blk, j * 2 + 1, none⟩, .slice pi.2.1 pi.2.2.1 pi.2.2.2), (⟨S.R[k].blk, j * 2, none⟩, .bool pk.1), (⟨S.R[k].blk, j * 2 + 1, none⟩, .slice pk.2.1 pk.2.2.1 pk.2.2.2)], [(25, 8), (26, 9)]⟩ [21, 22, 23, 24, 25, 26, 27, 28, 29, 30, 31, 32, 33, 34, 35, 36, 37, 38, 39, 40, 41, 20, 42, 43, 44, 8, 9, 10] (w.heap.size) (by kernel_rfl) (by kernel_rfl) (by kernel_rfl) (by kernel_rfl) ?_ ?_ ?_ ?_ ?_ ?_
 · exact allq (Hni.out) (allq (Hnk.out) allz)
 · exact allz
 · exact allq (⟨cb, by dsimp only; omega, allz⟩) (allq (⟨ci, by dsimp only; omega, allz⟩) (allq (⟨ck, by dsimp only; omega, allz⟩) (allq (⟨ci0, by dsimp only; omega, allz⟩) (allq (⟨ci1, by dsimp only; omega, allz⟩) (allq (⟨ck0, by dsimp only; omega, allz⟩) (allq (⟨ck1, by dsimp only; omega, allz⟩) allz))))))
 · exact allz
 · refine allc ?_ (allc ?_ (allc ?_ (allc ?_ (allc ?_ (allc ?_ (allc ?_ (allc ?_ (allc ?_ (allc ?_ (allc ?_ (allc ?_ (allc ?_ (allc ?_ (allc ?_ (allc ?_ (allc ?_ (allc ?_ (allc ?_ (allc ?_ (allc ?_ (allc ?_ (allc ?_ (allc ?_ (allc ?_ (allc ?_ (allc ?_ (allc ?_ (allc ?_ (allc ?_ alln)))))))))))))))))))))))))))));any_goals (first | (intro L fx w' hJ hL hp hcl; have _ := hp0 hp (by decide +kernel); refine wps rfl fun K hK => ?_; go_simp; exact hJ.q hK (by kernel_rfl) rfl) | fail)
   · intro L fx w' hJ hL hp hcl;have e0 := hJ.pt 0 21 (.pointer (some ⟨S.lb, 0, none⟩)) rfl rfl rfl (hp 0 (by decide));rw [e0] at hJ ⊢; clear e0;refine wps rfl fun K hK => ?_;go_simp;exact hJ.q hK (by kernel_rfl) rfl
   · intro L fx w' hJ hL hp hcl;have e1 := hJ.pt 1 22 (.pointer (some ⟨S.lb, 0, none⟩)) rfl rfl rfl (hp 1 (by decide));rw [e1] at hJ ⊢; clear e1;refine wps rfl fun K hK => ?_;go_simp;exact hJ.q hK (by kernel_rfl) rfl
   · intro L fx w' hJ hL hp hcl;have e2 := hJ.pt 2 23 (.pointer (some ⟨S.lb, 0, none⟩)) rfl rfl rfl (hp 2 (by decide));rw [e2] at hJ ⊢; clear e2;refine wps rfl fun K hK => ?_;have cl0 := (hJ.cells _ mm0).1;try dsimp only at cl0
     go_simp;exact hJ.q hK (by kernel_rfl) rfl
   · intro L fx w' hJ hL hp hcl;have e3 := hJ.pt 3 24 (.slice (some ⟨S.o, 0, none⟩) S.R.length S.cap) rfl rfl rfl (hp 3 (by decide));rw [e3] at hJ ⊢; clear e3;have e4 := hJ.pt 4 25 (.int .i64 (n : Int)) rfl rfl rfl (hp 4 (by decide));rw [e4] at hJ ⊢; clear e4;refine wps rfl fun K hK => ?_;go_simp;exact hJ.q hK (by kernel_rfl) rfl
   · intro L fx w' hJ hL hp hcl;have e5 := hJ.pt 5 26 (.pointer (some ⟨S.o, n, none⟩)) rfl rfl rfl (hp 5 (by decide));rw [e5] at hJ ⊢; clear e5;refine wps rfl fun K hK => ?_;have cl0 := (hJ.cells _ mm1).1;try dsimp only at cl0
     go_simp;exact hJ.q hK (by kernel_rfl) rfl
   · intro L fx w' hJ hL hp hcl;have e6 := hJ.pt 6 27 (.slice (some ⟨S.R[n].blk, 0, none⟩) S.R[n].xs.length S.R[n].cap) rfl rfl rfl (hp 6 (by decide));rw [e6] at hJ ⊢; clear e6;have e7 := hJ.pt 7 28 (.int .i64 (j : Int)) rfl rfl rfl (hp 7 (by decide));rw [e7] at hJ ⊢; clear e7;refine wps rfl fun K hK => ?_;go_simp;exact hJ.q hK (by kernel_rfl) rfl
   · intro L fx w' hJ hL hp hcl;have e8 := hJ.pt 8 29 (.pointer (some ⟨S.R[n].blk, j * 2, none⟩)) rfl rfl rfl (hp 8 (by decide));rw [e8] at hJ ⊢; clear e8;refine wps rfl fun K hK => ?_;have cl0 := (hJ.cells _ mm3).1;have cl1 := (hJ.cells _ mm4).1;try dsimp only at cl0 cl1
     go_simp;exact hJ.q hK (by kernel_rfl) rfl
   · intro L fx w' hJ hL hp hcl;have e10 := hJ.pt 10 31 (.pointer (some ⟨S.lb, 0, none⟩)) rfl rfl rfl (hp 10 (by decide));rw [e10] at hJ ⊢; clear e10;refine wps rfl fun K hK => ?_;go_simp;exact hJ.q hK (by kernel_rfl) rfl
   · intro L fx w' hJ hL hp hcl;have e11 := hJ.pt 11 32 (.pointer (some ⟨S.lb, 0, none⟩)) rfl rfl rfl (hp 11 (by decide));rw [e11] at hJ ⊢; clear e11;refine wps rfl fun K hK => ?_;go_simp;exact hJ.q hK (by kernel_rfl) rfl
   · intro L fx w' hJ hL hp hcl;have e12 := hJ.pt 12 33 (.pointer (some ⟨S.lb, 0, none⟩)) rfl rfl rfl (hp 12 (by decide));rw [e12] at hJ ⊢; clear e12;refine wps rfl fun K hK => ?_;have cl0 := (hJ.cells _ mm0).1;try dsimp only at cl0
     go_simp;exact hJ.q hK (by kernel_rfl) rfl
   · intro L fx w' hJ hL hp hcl;have e13 := hJ.pt 13 34 (.slice (some ⟨S.o, 0, none⟩) S.R.length S.cap) rfl rfl rfl (hp 13 (by decide));rw [e13] at hJ ⊢; clear e13;have e14 := hJ.pt 14 35 (.int .i64 (k : Int)) rfl rfl rfl (hp 14 (by decide));rw [e14] at hJ ⊢; clear e14;refine wps rfl fun K hK => ?_;go_simp;exact hJ.q hK (by kernel_rfl) rfl
   · intro L fx w' hJ hL hp hcl;have e15 := hJ.pt 15 36 (.pointer (some ⟨S.o, k, none⟩)) rfl rfl rfl (hp 15 (by decide));rw [e15] at hJ ⊢; clear e15;refine wps rfl fun K hK => ?_;have cl0 := (hJ.cells _ mm2).1;try dsimp only at cl0
     go_simp;exact hJ.q hK (by kernel_rfl) rfl
   · intro L fx w' hJ hL hp hcl;have e16 := hJ.pt 16 37 (.slice (some ⟨S.R[k].blk, 0, none⟩) S.R[k].xs.length S.R[k].cap) rfl rfl rfl (hp 16 (by decide));rw [e16] at hJ ⊢; clear e16;have e17 := hJ.pt 17 38 (.int .i64 (j : Int)) rfl rfl rfl (hp 17 (by decide));rw [e17] at hJ ⊢; clear e17;refine wps rfl fun K hK => ?_;go_simp;exact hJ.q hK (by kernel_rfl) rfl
   · intro L fx w' hJ hL hp hcl;have e18 := hJ.pt 18 39 (.pointer (some ⟨S.R[k].blk, j * 2, none⟩)) rfl rfl rfl (hp 18 (by decide));rw [e18] at hJ ⊢; clear e18;refine wps rfl fun K hK => ?_;have cl0 := (hJ.cells _ mm5).1;have cl1 := (hJ.cells _ mm6).1;try dsimp only at cl0 cl1
     go_simp;exact hJ.q hK (by kernel_rfl) rfl
   · intro L fx w' hJ hL hp hcl;have e9 := hJ.pt 9 30 (.agg #[.bool pi.1, .slice pi.2.1 pi.2.2.1 pi.2.2.2]) rfl rfl rfl (hp 9 (by decide));rw [e9] at hJ ⊢; clear e9;have e19 := hJ.pt 19 40 (.agg #[.bool pk.1, .slice pk.2.1 pk.2.2.1 pk.2.2.2]) rfl rfl rfl (hp 19 (by decide));rw [e19] at hJ ⊢; clear e19;refine wps rfl fun K hK => ?_;go_simp;go_at_call 87;refine (IFloor_c _ _ xi xk _ (show IntAt w' _ _ _ from hJ.base _ mm0) (show IntAt w' _ _ _ from hJ.base _ mm1) Hpz.out).mono ?_;rintro e w4 ⟨⟨v5, v6, rfl, h5, h6⟩, hb4⟩;try dsimp only
     exact hK _ _ ⟨_, by kernel_rfl, hJ.gC 20 rfl (by kernel_rfl) hb4 ⟨_, _, rfl, OwnI.mono h5 (Nat.zero_le _), OwnI.mono h6 (Nat.zero_le _)⟩ (by omega)⟩
   · intro L fx w' hJ hL hp hcl;have e20 := hJ.slot 20 (by show 20 < 30; decide) (hp 20 (by decide));refine wps rfl fun K hK => ?_;go_simp;exact hJ.q hK (by kernel_rfl) e20
   · intro L fx w' hJ hL hp hcl;have e21 := hJ.slot 21 (by show 21 < 30; decide) (hp 21 (by decide));obtain ⟨vq, vr, hvt, hq1, hr1⟩ := e21;rw [patchX (x := fx) (d := 20) (v := (.tuple #[vq, vr, .int .i64 0])) hvt] at hJ ⊢;refine wps rfl fun K hK => ?_;go_simp;exact hJ.q hK (by kernel_rfl) hq1
   · intro L fx w' hJ hL hp hcl;have e21 := hJ.slot 21 (by show 21 < 30; decide) (hp 21 (by decide));obtain ⟨vq, vr, hvt, hq1, hr1⟩ := e21;rw [patchX (x := fx) (d := 20) (v := (.tuple #[vq, vr, .int .i64 0])) hvt] at hJ ⊢;refine wps rfl fun K hK => ?_;go_simp;exact hJ.q hK (by kernel_rfl) hr1
   · intro L fx w' hJ hL hp hcl;have e21 := hJ.slot 21 (by show 21 < 30; decide) (hp 21 (by decide));obtain ⟨vq, vr, hvt, hq1, hr1⟩ := e21;rw [patchX (x := fx) (d := 20) (v := (.tuple #[vq, vr, .int .i64 0])) hvt] at hJ ⊢;refine wps rfl fun K hK => ?_;go_simp;exact hJ.q hK (by kernel_rfl) rfl
   · intro L fx w' hJ hL hp hcl;have hg0 : w.heap.size <= w'.heap.size := Nat.le_trans (by omega : w.heap.size <= w.heap.size) hJ.size;refine wps rfl fun K hK => ?_;go_simp;exact hK _ _ ⟨_, by kernel_rfl, hJ.grow 25 (by show 25 < 30; decide) _ (by kernel_rfl) (by kernel_rfl) (by intro t ht; rcases mc ht with rfl | ht; exact ⟨by show 27 ≠ 25; decide, fun _ => by cases hh : L 27 with | false => rfl | true => have := hcl 27 (by show 27 < 30; decide) hh 25 (by decide); rw [hL] at this; cases this⟩; rcases mc ht with rfl | ht; exact ⟨by show 28 ≠ 25; decide, fun h => absurd (show 9 = 8 from h) (by decide)⟩; cases ht) (by intro p hp; rcases mc hp with rfl | hp; exact ⟨⟨fun _ => rfl, fun _ => rfl⟩, fun _ q hq hne hLq => (by rcases mc hq with rfl | hq; exact absurd rfl hne; rcases mc hq with rfl | hq; (obtain ⟨g9, cs9, hx9, _, hr9, _⟩ := hJ.slot 26 (by show 26 < 30; decide) hLq; have hx9 : fx 9 = _ := hx9; show _ ≠ fx 9; rw [hx9]; intro e9; injection e9 with e9; injection e9 with e9; injection e9 with e9; exact absurd e9 (Nat.ne_of_gt hr9.lt)); cases hq)⟩; rcases mc hp with rfl | hp; exact ⟨⟨fun h => absurd (show 26 = 25 from h) (by decide), fun h => absurd (show 9 = 8 from h) (by decide)⟩, fun h => absurd (show 26 = 25 from h) (by decide)⟩; cases hp) ((Below.refl _ _).alloc (Nat.le_refl _) _) ⟨w'.heap.size, _, rfl, hJ.size, RowAt.new _ _ _, NoW.two _ _ _ _, rfl⟩ hg0⟩
   · intro L fx w' hJ hL hp hcl;have hg0 : w.heap.size <= w'.heap.size := Nat.le_trans (by omega : w.heap.size <= w.heap.size) hJ.size;refine wps rfl fun K hK => ?_;go_simp;exact hK _ _ ⟨_, by kernel_rfl, hJ.grow 26 (by show 26 < 30; decide) _ (by kernel_rfl) (by kernel_rfl) (by intro t ht; rcases mc ht with rfl | ht; exact ⟨by show 27 ≠ 26; decide, fun h => absurd (show 8 = 9 from h) (by decide)⟩; rcases mc ht with rfl | ht; exact ⟨by show 28 ≠ 26; decide, fun _ => by cases hh : L 28 with | false => rfl | true => have := hcl 28 (by show 28 < 30; decide) hh 26 (by decide); rw [hL] at this; cases this⟩; cases ht) (by intro p hp; rcases mc hp with rfl | hp; exact ⟨⟨fun h => absurd (show 25 = 26 from h) (by decide), fun h => absurd (show 8 = 9 from h) (by decide)⟩, fun h => absurd (show 25 = 26 from h) (by decide)⟩; rcases mc hp with rfl | hp; exact ⟨⟨fun _ => rfl, fun _ => rfl⟩, fun _ q hq hne hLq => (by rcases mc hq with rfl | hq; (obtain ⟨g9, cs9, hx9, _, hr9, _⟩ := hJ.slot 25 (by show 25 < 30; decide) hLq; have hx9 : fx 8 = _ := hx9; show _ ≠ fx 8; rw [hx9]; intro e9; injection e9 with e9; injection e9 with e9; injection e9 with e9; exact absurd e9 (Nat.ne_of_gt hr9.lt)); rcases mc hq with rfl | hq; exact absurd rfl hne; cases hq)⟩; cases hp) ((Below.refl _ _).alloc (Nat.le_refl _) _) ⟨w'.heap.size, _, rfl, hJ.size, RowAt.new _ _ _, NoW.two _ _ _ _, rfl⟩ hg0⟩
   · intro L fx w' hJ hL hp hcl;have e25 := hJ.slot 25 (by show 25 < 30; decide) (hp 25 (by decide));have e22 := hJ.slot 22 (by show 22 < 30; decide) (hp 22 (by decide));have e22' := e22;obtain ⟨b7, o7, l7, k7, hv0⟩ := OwnI.parts e22;rw [hv0] at e22';rw [patchX (x := fx) (d := 42) (v := (.agg #[.bool b7, .slice o7 l7 k7])) hv0] at hJ ⊢;obtain ⟨g, cs, hx, hgB, hr0, hn0, hl0⟩ := e25;obtain ⟨z0, z1, rfl⟩ : ∃ z0 z1, cs = [z0, z1] := list2 hl0;have hf0 := RowAt.free hr0 0;have hc0 := RowAt.cell hr0 0;have hf1 := RowAt.free hr0 1;have hc1 := RowAt.cell hr0 1;try dsimp only at hf0 hc0 hf1 hc1
     have hx1 := hx;rw [patchX (x := (updX fx 42 (.agg #[.bool b7, .slice o7 l7 k7]))) (d := 8) hx] at hJ ⊢;refine wps rfl fun K hK => ?_;go_simp;exact hK _ _ ⟨_, by kernel_rfl, hJ.storeNew (us := [.bool b7, .slice o7 l7 k7]) 27 8 _ _ (by show 27 < 30; decide) rfl mm0 (by intro t ht h; rcases mc ht with rfl | ht; rfl; rcases mc ht with rfl | ht; exact absurd (show 28 = 27 from h) (by decide); cases ht) (by intro t ht hne hLt; rcases mc ht with rfl | ht; exact absurd rfl hne; rcases mc ht with rfl | ht; exact hJ.apart (26, 9) mm1 (25, 8) mm0 (by show 26 ≠ 25; decide) (hcl 28 (by show 28 < 30; decide) hLt 26 (by decide)) (hp 25 (by decide)); cases ht) (by kernel_rfl) (by kernel_rfl) (by decide) (by rfl) hgB hr0 hn0 rfl (NoW.two _ _ _ _) ⟨_, _, _, _, rfl, e22'⟩ (by omega)⟩
   · intro L fx w' hJ hL hp hcl;have e26 := hJ.slot 26 (by show 26 < 30; decide) (hp 26 (by decide));have e23 := hJ.slot 23 (by show 23 < 30; decide) (hp 23 (by decide));have e23' := e23;obtain ⟨b7, o7, l7, k7, hv0⟩ := OwnI.parts e23;rw [hv0] at e23';rw [patchX (x := fx) (d := 43) (v := (.agg #[.bool b7, .slice o7 l7 k7])) hv0] at hJ ⊢;obtain ⟨g, cs, hx, hgB, hr0, hn0, hl0⟩ := e26;obtain ⟨z0, z1, rfl⟩ : ∃ z0 z1, cs = [z0, z1] := list2 hl0;have hf0 := RowAt.free hr0 0;have hc0 := RowAt.cell hr0 0;have hf1 := RowAt.free hr0 1;have hc1 := RowAt.cell hr0 1;try dsimp only at hf0 hc0 hf1 hc1
     have hx1 := hx;rw [patchX (x := (updX fx 43 (.agg #[.bool b7, .slice o7 l7 k7]))) (d := 9) hx] at hJ ⊢;refine wps rfl fun K hK => ?_;go_simp;exact hK _ _ ⟨_, by kernel_rfl, hJ.storeNew (us := [.bool b7, .slice o7 l7 k7]) 28 9 _ _ (by show 28 < 30; decide) rfl mm1 (by intro t ht h; rcases mc ht with rfl | ht; exact absurd (show 27 = 28 from h) (by decide); rcases mc ht with rfl | ht; rfl; cases ht) (by intro t ht hne hLt; rcases mc ht with rfl | ht; exact hJ.apart (25, 8) mm0 (26, 9) mm1 (by show 25 ≠ 26; decide) (hcl 27 (by show 27 < 30; decide) hLt 25 (by decide)) (hp 26 (by decide)); rcases mc ht with rfl | ht; exact absurd rfl hne; cases ht) (by kernel_rfl) (by kernel_rfl) (by decide) (by rfl) hgB hr0 hn0 rfl (NoW.two _ _ _ _) ⟨_, _, _, _, rfl, e23'⟩ (by omega)⟩
   · intro L fx w' hJ hL hp hcl;have e24 := hJ.pt 24 44 (.int .i64 0) rfl rfl rfl (hp 24 (by decide));rw [e24] at hJ ⊢; clear e24;refine wps rfl fun K hK => ?_;go_simp;exact hJ.q hK (by kernel_rfl) rfl
 · intro L x' w3 hL hJ;have hfr : Below w.drew.heap.size w.drew w3 := hJ.fr;obtain ⟨g8, cs8, hx8, hg8, hr8, b8, o8, l8, k8, hcs8, hI8⟩ := hJ.new _ mm0 (hL 27 (by show 27 < 30; decide));obtain ⟨g9, cs9, hx9, hg9, hr9, b9, o9, l9, k9, hcs9, hI9⟩ := hJ.new _ mm1 (hL 28 (by show 28 < 30; decide));subst hcs8;subst hcs9;have hx8 : x' 8 = _ := hx8;have hx9 : x' 9 = _ := hx9;rw [patchX (x := x') (d := 8) hx8];rw [patchX (x := updX x' 8 (.pointer (some ⟨g8, 0, none⟩))) (d := 9) (v := .pointer (some ⟨g9, 0, none⟩)) hx9];have hg8 : w.heap.size <= g8 := hg8;have hg9 : w.heap.size <= g9 := hg9;have G8 : Hid (RowAt w3 g8 37 [.bool b8, .slice o8 l8 k8]) := Lib.hid hr8;have G9 : Hid (RowAt w3 g9 37 [.bool b9, .slice o9 l9 k9]) := Lib.hid hr9;have I8 : Hid (OwnI w3 0 (.agg #[.bool b8, .slice o8 l8 k8]) (xi.fdiv xk)) := Lib.hid hI8;have I9 : Hid (OwnI w3 0 (.agg #[.bool b9, .slice o9 l9 k9]) (xi.fmod xk)) := Lib.hid hI9;clear hJ hL hx8 hx9 hr8 hr9 hI8 hI9 cb ci ck ci0 ci1 ck0 ck1;have L3 := Lib.hid (LadAt.below (w := w.drew) HL.out.drew hfr);have C3 := Lib.hid ((Chg.refl S.own w).drew.below hfr);simp only [pN, Nat.reduceEqDiff, ↓reduceIte];have q0 : w3.cell? ⟨g8, 0, none⟩ = some (.bool b8) := G8.out.cell 0;have q1 : w3.cell? ⟨g8, 1, none⟩ = some (.slice o8 l8 k8) := G8.out.cell 1;go_wp2_with fail
   clear q0 q1;have hqw : wlen ((xi.fdiv xk)).natAbs <= B + 2 := fdiv_wlen Hpz.out hwi;refine (INeg_c _ (xi.fdiv xk) _ (OwnI.int I8.out (by omega))).mono ?_;rintro e w4 ⟨⟨vn, rfl, hn4⟩, hb4⟩;have L4 := Lib.hid (L3.out.below hb4);have C4 := Lib.hid (C3.out.below hb4);have G4 := Lib.hid (G9.out.below hb4 G9.out.lt);have I4 := Lib.hid (I9.out.below hb4);have N4 := Lib.hid (OwnI.int (L := B + 2) hn4 (by rw [Int.natAbs_neg]; exact hqw));clear hb4 hn4 L3 C3 G9 I9 G8 I8;go_wp2_with fail
   have hlx : S.R[n].xs.length = S.R[k].xs.length := by rw [HF.out.len _ (List.getElem_mem hn), HF.out.len _ (List.getElem_mem hk)]
   have hlen2 : S.R[n].xs.length <= 4611686018427387903 := by rw [HF.out.len _ (List.getElem_mem hn)]; omega
   refine (MAdd_c S n k vn (-(xi.fdiv xk)) (B + 2) B _ L4.out hn hk (fun e => hkn e.symm) N4.out hlx (fun x hx => by have := HF.out.fit _ (List.getElem_mem hn) x hx; omega) (fun y hy => HF.out.fit _ (List.getElem_mem hk) y hy) (by omega) hlen2 (HT.out.good S.R) (HT.out.okR HF.out) (by omega)).mono ?_;rintro e w5 ⟨rfl, hL5, hC5⟩;have hA : addR S.R n k (-(xi.fdiv xk)) hn hk = meetA S.R k n j := by unfold meetA; rw [Hxi.out, Hxk.out, addT_eq hn hk]
   rw [hA] at hL5;have hns : ¬ S.own g9 := by
    intro e;have := HL.out.own_lt _ e;omega
   have G5 := Lib.hid (hC5.row G4.out hns);have I5 := Lib.hid (hC5.ownI L4.out.ownTyped I4.out);have C5 := Lib.hid (C4.out.trans hC5);have L5 := Lib.hid hL5;clear hC5 hL5 L4 C4 G4 I4 N4 hlx hlen2 hA;have q0 : w5.cell? ⟨g9, 0, none⟩ = some (.bool b9) := G5.out.cell 0;have q1 : w5.cell? ⟨g9, 1, none⟩ = some (.slice o9 l9 k9) := G5.out.cell 1;go_wp2_with fail
   clear q0 q1;refine (ISign_c _ (xi.fmod xk) _ (OwnI.int I5.out (by have := fmod_wlen (x := xi) Hpz.out hwk; omega))).mono ?_;rintro e w6 ⟨rfl, hb6⟩;have L6 := Lib.hid (L5.out.below hb6);have C6 := Lib.hid (C5.out.below hb6);clear hb6 L5 C5 G5 I5;by_cases hr0 : xi.fmod xk = 0
   · have hz : zsign (xi.fmod xk) = 0 := zsign_beq.2 hr0;rw [hz];have HR0 := Lib.hid hr0;clear hz hr0;go_wp2;refine bodyPost_ret (results_none (by kernel_rfl) _ _ _) rfl ?_;have e : meetT S.R k n j = meetA S.R k n j := by unfold meetT; rw [Hxi.out, Hxk.out, if_pos HR0.out]
     rw [e];exact ⟨rfl, L6.out, C6.out⟩
   have hz0 : ¬ zsign (xi.fmod xk) = 0 := fun h => hr0 (zsign_beq.1 h);have HR0 := Lib.hid hr0;obtain ⟨sg, hsg⟩ : ∃ s, zsign (xi.fmod xk) = s := ⟨_, rfl⟩;rw [hsg] at hz0 ⊢;have hzb : (sg == 0) = false := by simpa using hz0
   clear hsg hr0;have hlenA : (meetA S.R k n j).length = S.R.length := addT_length ..;have hmT : meetT S.R k n j = mixT (meetA S.R k n j) k n (extX (ent (meetA S.R k n j) k j) (ent (meetA S.R k n j) n j)) (extY (ent (meetA S.R k n j) k j) (ent (meetA S.R k n j) n j)) (-(ent (meetA S.R k n j) n j / extG (ent (meetA S.R k n j) k j) (ent (meetA S.R k n j) n j))) (ent (meetA S.R k n j) k j / extG (ent (meetA S.R k n j) k j) (ent (meetA S.R k n j) n j)) := by
    unfold meetT; rw [Hxi.out, Hxk.out, if_neg HR0.out]
   obtain ⟨R1, hR1⟩ : ∃ R1, meetA S.R k n j = R1 := ⟨_, rfl⟩;rw [hR1] at hmT hlenA L6 HF1 HP1;have hkA : k < R1.length := by omega
   have hnA : n < R1.length := by omega
   have HMT := Lib.hid hmT; clear hmT;have HLA := Lib.hid hlenA; clear hlenA;have HR1 := Lib.hid hR1; clear hR1;clear hjl hjk hjl1 hjk1 hi1 hk1 sb1 sb2 sb3 sb4;go_wp2_with fail
   clear hzb hz0;have cb : w6.cell? ⟨S.lb, 0, none⟩ = some (.slice (some ⟨S.o, 0, none⟩) R1.length S.cap) := L6.out.lad.cell 0;have ci : w6.cell? ⟨S.o, k, none⟩ = some (.slice (some ⟨R1[k].blk, 0, none⟩) R1[k].xs.length R1[k].cap) := L6.out.mat.hdr (i := k) hkA;have ck : w6.cell? ⟨S.o, n, none⟩ = some (.slice (some ⟨R1[n].blk, 0, none⟩) R1[n].xs.length R1[n].cap) := L6.out.mat.hdr (i := n) hnA;have hXi := L6.out.mat.row _ (List.getElem_mem (l := R1) hkA);have hXk := L6.out.mat.row _ (List.getElem_mem (l := R1) hnA);have hjl : j < R1[k].xs.length := by rw [HF1.out.len _ (List.getElem_mem hkA)]; exact hj
   have hjk : j < R1[n].xs.length := by rw [HF1.out.len _ (List.getElem_mem hnA)]; exact hj
   have hjl1 : (j : Int) < (R1[k].xs.length : Int) := by omega
   have hjk1 : (j : Int) < (R1[n].xs.length : Int) := by omega
   have hi1 : (k : Int) < (R1.length : Int) := by omega
   have hk1 : (n : Int) < (R1.length : Int) := by omega
   obtain ⟨pp, ci0, ci1, hni⟩ := hXi.get hjl;obtain ⟨pv, ck0, ck1, hnk⟩ := hXk.get hjk;have hwi : wlen (R1[k].xs[j]).natAbs <= B := HF1.out.fit _ (List.getElem_mem hkA) _ (List.getElem_mem hjl);have hwk : wlen (R1[n].xs[j]).natAbs <= B := HF1.out.fit _ (List.getElem_mem hnA) _ (List.getElem_mem hjk);obtain ⟨xp, hxi⟩ : ∃ xp, R1[k].xs[j] = xp := ⟨_, rfl⟩;obtain ⟨xv, hxk⟩ : ∃ xv, R1[n].xs[j] = xv := ⟨_, rfl⟩;rw [hxi] at hni hwi;rw [hxk] at hnk hwk;have Hxp := Lib.hid ((ent_eq hkA hjl).trans hxi); clear hxi;have Hxv := Lib.hid ((ent_eq hnA hjk).trans hxk); clear hxk;have sb1 := hXi.lt;have sb2 := hXk.lt;have sb3 : S.lb < w6.heap.size := L6.out.lad.lt;have sb4 : S.o < w6.heap.size := L6.out.mat.out.lt;clear hXi hXk;have Hnp := Lib.hid (hni.int (L := 4398046511103) (by omega));have Hnv := Lib.hid (hnk.int (L := 4398046511103) (by omega));clear hni hnk;have hxp0 : xp ≠ 0 := by have := HP1.out; rw [Hxp.out] at this; exact this
   have Hxp0 := Lib.hid hxp0; clear hxp0;refine wp_region_J ⟨24, fun q_ => [54, 55, 56, 57, 58, 59, 60, 61, 62, 63, 64, 65, 66, 67, 68, 69, 70, 71, 72, 73, 11, 12, 1022, 1023].getD q_ 0,
    fun q_ => [.val (.pointer (some ⟨S.lb, 0, none⟩)), .val (.pointer (some ⟨S.lb, 0, none⟩)), .val (.pointer (some ⟨S.lb, 0, none⟩)), .val (.slice (some ⟨S.o, 0, none⟩) R1.length S.cap), .val (.int .i64 (k : Int)), .val (.pointer (some ⟨S.o, k, none⟩)), .val (.slice (some ⟨R1[k].blk, 0, none⟩) R1[k].xs.length R1[k].cap), .val (.int .i64 (j : Int)), .val (.pointer (some ⟨R1[k].blk, j * 2, none⟩)), .val (.agg #[.bool pp.1, .slice pp.2.1 pp.2.2.1 pp.2.2.2]), .val (.pointer (some ⟨S.lb, 0, none⟩)), .val (.pointer (some ⟨S.lb, 0, none⟩)), .val (.pointer (some ⟨S.lb, 0, none⟩)), .val (.slice (some ⟨S.o, 0, none⟩) R1.length S.cap), .val (.int .i64 (n : Int)), .val (.pointer (some ⟨S.o, n, none⟩)), .val (.slice (some ⟨R1[n].blk, 0, none⟩) R1[n].xs.length R1[n].cap), .val (.int .i64 (j : Int)), .val (.pointer (some ⟨R1[n].blk, j * 2, none⟩)), .val (.agg #[.bool pv.1, .slice pv.2.1 pv.2.2.1 pv.2.2.2]), .ptr w6.heap.size 37 2, .ptr w6.heap.size 37 2, .any, .any].getD q_ .any,
    [],
    [],
    [],
    [(22, 11, 37, .cells [.bool pp.1, .slice pp.2.1 pp.2.2.1 pp.2.2.2]), (23, 12, 37, .cells [.bool pv.1, .slice pv.2.1 pv.2.2.1 pv.2.2.2])], [(⟨S.lb, 0, none⟩, .slice (some ⟨S.o, 0, none⟩) R1.length S.cap), (⟨S.o, k, none⟩, .slice (some ⟨R1[k].blk, 0, none⟩) R1[k].xs.length R1[k].cap), (⟨S.o, n, none⟩, .slice (some ⟨R1[n].blk, 0, none⟩) R1[n].xs.length R1[n].cap), (⟨R1[k].blk, j * 2, none⟩, .bool pp.1), (⟨R1[k].blk, j * 2 + 1, none⟩, .slice pp.2.1 pp.2.2.1 pp.2.2.2), (⟨R1[n].blk, j * 2, none⟩, .bool pv.1), (⟨R1[n].blk, j * 2 + 1, none⟩, .slice pv.2.1 pv.2.2.1 pv.2.2.2)], [(20, 11), (21, 12)]⟩ [54, 55, 56, 57, 58, 59, 60, 61, 62, 63, 64, 65, 66, 67, 68, 69, 70, 71, 72, 73, 11, 12] (w6.heap.size) (by kernel_rfl) (by kernel_rfl) (by kernel_rfl) (by kernel_rfl) ?_ ?_ ?_ ?_ ?_ ?_
   · exact allz
   · exact allz
   · exact allq (⟨cb, by dsimp only; omega, allz⟩) (allq (⟨ci, by dsimp only; omega, allz⟩) (allq (⟨ck, by dsimp only; omega, allz⟩) (allq (⟨ci0, by dsimp only; omega, allz⟩) (allq (⟨ci1, by dsimp only; omega, allz⟩) (allq (⟨ck0, by dsimp only; omega, allz⟩) (allq (⟨ck1, by dsimp only; omega, allz⟩) allz))))))
   · exact allz
   · refine allc ?_ (allc ?_ (allc ?_ (allc ?_ (allc ?_ (allc ?_ (allc ?_ (allc ?_ (allc ?_ (allc ?_ (allc ?_ (allc ?_ (allc ?_ (allc ?_ (allc ?_ (allc ?_ (allc ?_ (allc ?_ (allc ?_ (allc ?_ (allc ?_ (allc ?_ (allc ?_ (allc ?_ alln)))))))))))))))))))))));any_goals (first | (intro L fx w' hJ hL hp hcl; have _ := hp0 hp (by decide +kernel); refine wps rfl fun K hK => ?_; go_simp; exact hJ.q hK (by kernel_rfl) rfl) | fail)
     · intro L fx w' hJ hL hp hcl;have e0 := hJ.pt 0 54 (.pointer (some ⟨S.lb, 0, none⟩)) rfl rfl rfl (hp 0 (by decide));rw [e0] at hJ ⊢; clear e0;refine wps rfl fun K hK => ?_;go_simp;exact hJ.q hK (by kernel_rfl) rfl
     · intro L fx w' hJ hL hp hcl;have e1 := hJ.pt 1 55 (.pointer (some ⟨S.lb, 0, none⟩)) rfl rfl rfl (hp 1 (by decide));rw [e1] at hJ ⊢; clear e1;refine wps rfl fun K hK => ?_;go_simp;exact hJ.q hK (by kernel_rfl) rfl
     · intro L fx w' hJ hL hp hcl;have e2 := hJ.pt 2 56 (.pointer (some ⟨S.lb, 0, none⟩)) rfl rfl rfl (hp 2 (by decide));rw [e2] at hJ ⊢; clear e2;refine wps rfl fun K hK => ?_;have cl0 := (hJ.cells _ mm0).1;try dsimp only at cl0
       go_simp;exact hJ.q hK (by kernel_rfl) rfl
     · intro L fx w' hJ hL hp hcl;have e3 := hJ.pt 3 57 (.slice (some ⟨S.o, 0, none⟩) R1.length S.cap) rfl rfl rfl (hp 3 (by decide));rw [e3] at hJ ⊢; clear e3;have e4 := hJ.pt 4 58 (.int .i64 (k : Int)) rfl rfl rfl (hp 4 (by decide));rw [e4] at hJ ⊢; clear e4;refine wps rfl fun K hK => ?_;go_simp;exact hJ.q hK (by kernel_rfl) rfl
     · intro L fx w' hJ hL hp hcl;have e5 := hJ.pt 5 59 (.pointer (some ⟨S.o, k, none⟩)) rfl rfl rfl (hp 5 (by decide));rw [e5] at hJ ⊢; clear e5;refine wps rfl fun K hK => ?_;have cl0 := (hJ.cells _ mm1).1;try dsimp only at cl0
       go_simp;exact hJ.q hK (by kernel_rfl) rfl
     · intro L fx w' hJ hL hp hcl;have e6 := hJ.pt 6 60 (.slice (some ⟨R1[k].blk, 0, none⟩) R1[k].xs.length R1[k].cap) rfl rfl rfl (hp 6 (by decide));rw [e6] at hJ ⊢; clear e6;have e7 := hJ.pt 7 61 (.int .i64 (j : Int)) rfl rfl rfl (hp 7 (by decide));rw [e7] at hJ ⊢; clear e7;refine wps rfl fun K hK => ?_;go_simp;exact hJ.q hK (by kernel_rfl) rfl
     · intro L fx w' hJ hL hp hcl;have e8 := hJ.pt 8 62 (.pointer (some ⟨R1[k].blk, j * 2, none⟩)) rfl rfl rfl (hp 8 (by decide));rw [e8] at hJ ⊢; clear e8;refine wps rfl fun K hK => ?_;have cl0 := (hJ.cells _ mm3).1;have cl1 := (hJ.cells _ mm4).1;try dsimp only at cl0 cl1
       go_simp;exact hJ.q hK (by kernel_rfl) rfl
     · intro L fx w' hJ hL hp hcl;have e10 := hJ.pt 10 64 (.pointer (some ⟨S.lb, 0, none⟩)) rfl rfl rfl (hp 10 (by decide));rw [e10] at hJ ⊢; clear e10;refine wps rfl fun K hK => ?_;go_simp;exact hJ.q hK (by kernel_rfl) rfl
     · intro L fx w' hJ hL hp hcl;have e11 := hJ.pt 11 65 (.pointer (some ⟨S.lb, 0, none⟩)) rfl rfl rfl (hp 11 (by decide));rw [e11] at hJ ⊢; clear e11;refine wps rfl fun K hK => ?_;go_simp;exact hJ.q hK (by kernel_rfl) rfl
     · intro L fx w' hJ hL hp hcl;have e12 := hJ.pt 12 66 (.pointer (some ⟨S.lb, 0, none⟩)) rfl rfl rfl (hp 12 (by decide));rw [e12] at hJ ⊢; clear e12;refine wps rfl fun K hK => ?_;have cl0 := (hJ.cells _ mm0).1;try dsimp only at cl0
       go_simp;exact hJ.q hK (by kernel_rfl) rfl
     · intro L fx w' hJ hL hp hcl;have e13 := hJ.pt 13 67 (.slice (some ⟨S.o, 0, none⟩) R1.length S.cap) rfl rfl rfl (hp 13 (by decide));rw [e13] at hJ ⊢; clear e13;have e14 := hJ.pt 14 68 (.int .i64 (n : Int)) rfl rfl rfl (hp 14 (by decide));rw [e14] at hJ ⊢; clear e14;refine wps rfl fun K hK => ?_;go_simp;exact hJ.q hK (by kernel_rfl) rfl
     · intro L fx w' hJ hL hp hcl;have e15 := hJ.pt 15 69 (.pointer (some ⟨S.o, n, none⟩)) rfl rfl rfl (hp 15 (by decide));rw [e15] at hJ ⊢; clear e15;refine wps rfl fun K hK => ?_;have cl0 := (hJ.cells _ mm2).1;try dsimp only at cl0
       go_simp;exact hJ.q hK (by kernel_rfl) rfl
     · intro L fx w' hJ hL hp hcl;have e16 := hJ.pt 16 70 (.slice (some ⟨R1[n].blk, 0, none⟩) R1[n].xs.length R1[n].cap) rfl rfl rfl (hp 16 (by decide));rw [e16] at hJ ⊢; clear e16;have e17 := hJ.pt 17 71 (.int .i64 (j : Int)) rfl rfl rfl (hp 17 (by decide));rw [e17] at hJ ⊢; clear e17;refine wps rfl fun K hK => ?_;go_simp;exact hJ.q hK (by kernel_rfl) rfl
     · intro L fx w' hJ hL hp hcl;have e18 := hJ.pt 18 72 (.pointer (some ⟨R1[n].blk, j * 2, none⟩)) rfl rfl rfl (hp 18 (by decide));rw [e18] at hJ ⊢; clear e18;refine wps rfl fun K hK => ?_;have cl0 := (hJ.cells _ mm5).1;have cl1 := (hJ.cells _ mm6).1;try dsimp only at cl0 cl1
       go_simp;exact hJ.q hK (by kernel_rfl) rfl
     · intro L fx w' hJ hL hp hcl;have hg0 : w6.heap.size <= w'.heap.size := Nat.le_trans (by omega : w6.heap.size <= w6.heap.size) hJ.size;refine wps rfl fun K hK => ?_;go_simp;exact hK _ _ ⟨_, by kernel_rfl, hJ.grow 20 (by show 20 < 24; decide) _ (by kernel_rfl) (by kernel_rfl) (by intro t ht; rcases mc ht with rfl | ht; exact ⟨by show 22 ≠ 20; decide, fun _ => by cases hh : L 22 with | false => rfl | true => have := hcl 22 (by show 22 < 24; decide) hh 20 (by decide); rw [hL] at this; cases this⟩; rcases mc ht with rfl | ht; exact ⟨by show 23 ≠ 20; decide, fun h => absurd (show 12 = 11 from h) (by decide)⟩; cases ht) (by intro p hp; rcases mc hp with rfl | hp; exact ⟨⟨fun _ => rfl, fun _ => rfl⟩, fun _ q hq hne hLq => (by rcases mc hq with rfl | hq; exact absurd rfl hne; rcases mc hq with rfl | hq; (obtain ⟨g9, cs9, hx9, _, hr9, _⟩ := hJ.slot 21 (by show 21 < 24; decide) hLq; have hx9 : fx 12 = _ := hx9; show _ ≠ fx 12; rw [hx9]; intro e9; injection e9 with e9; injection e9 with e9; injection e9 with e9; exact absurd e9 (Nat.ne_of_gt hr9.lt)); cases hq)⟩; rcases mc hp with rfl | hp; exact ⟨⟨fun h => absurd (show 21 = 20 from h) (by decide), fun h => absurd (show 12 = 11 from h) (by decide)⟩, fun h => absurd (show 21 = 20 from h) (by decide)⟩; cases hp) ((Below.refl _ _).alloc (Nat.le_refl _) _) ⟨w'.heap.size, _, rfl, hJ.size, RowAt.new _ _ _, NoW.two _ _ _ _, rfl⟩ hg0⟩
     · intro L fx w' hJ hL hp hcl;have hg0 : w6.heap.size <= w'.heap.size := Nat.le_trans (by omega : w6.heap.size <= w6.heap.size) hJ.size;refine wps rfl fun K hK => ?_;go_simp;exact hK _ _ ⟨_, by kernel_rfl, hJ.grow 21 (by show 21 < 24; decide) _ (by kernel_rfl) (by kernel_rfl) (by intro t ht; rcases mc ht with rfl | ht; exact ⟨by show 22 ≠ 21; decide, fun h => absurd (show 11 = 12 from h) (by decide)⟩; rcases mc ht with rfl | ht; exact ⟨by show 23 ≠ 21; decide, fun _ => by cases hh : L 23 with | false => rfl | true => have := hcl 23 (by show 23 < 24; decide) hh 21 (by decide); rw [hL] at this; cases this⟩; cases ht) (by intro p hp; rcases mc hp with rfl | hp; exact ⟨⟨fun h => absurd (show 20 = 21 from h) (by decide), fun h => absurd (show 11 = 12 from h) (by decide)⟩, fun h => absurd (show 20 = 21 from h) (by decide)⟩; rcases mc hp with rfl | hp; exact ⟨⟨fun _ => rfl, fun _ => rfl⟩, fun _ q hq hne hLq => (by rcases mc hq with rfl | hq; (obtain ⟨g9, cs9, hx9, _, hr9, _⟩ := hJ.slot 20 (by show 20 < 24; decide) hLq; have hx9 : fx 11 = _ := hx9; show _ ≠ fx 11; rw [hx9]; intro e9; injection e9 with e9; injection e9 with e9; injection e9 with e9; exact absurd e9 (Nat.ne_of_gt hr9.lt)); rcases mc hq with rfl | hq; exact absurd rfl hne; cases hq)⟩; cases hp) ((Below.refl _ _).alloc (Nat.le_refl _) _) ⟨w'.heap.size, _, rfl, hJ.size, RowAt.new _ _ _, NoW.two _ _ _ _, rfl⟩ hg0⟩
     · intro L fx w' hJ hL hp hcl;have e20 := hJ.slot 20 (by show 20 < 24; decide) (hp 20 (by decide));have e9 := hJ.pt 9 63 (.agg #[.bool pp.1, .slice pp.2.1 pp.2.2.1 pp.2.2.2]) rfl rfl rfl (hp 9 (by decide));rw [e9] at hJ ⊢; clear e9;obtain ⟨g, cs, hx, hgB, hr0, hn0, hl0⟩ := e20;obtain ⟨z0, z1, rfl⟩ : ∃ z0 z1, cs = [z0, z1] := list2 hl0;have hf0 := RowAt.free hr0 0;have hc0 := RowAt.cell hr0 0;have hf1 := RowAt.free hr0 1;have hc1 := RowAt.cell hr0 1;try dsimp only at hf0 hc0 hf1 hc1
       have hx1 := hx;rw [patchX (x := (updX fx 63 (.agg #[.bool pp.1, .slice pp.2.1 pp.2.2.1 pp.2.2.2]))) (d := 11) hx] at hJ ⊢;refine wps rfl fun K hK => ?_;go_simp;exact hK _ _ ⟨_, by kernel_rfl, hJ.storeNew (us := [.bool pp.1, .slice pp.2.1 pp.2.2.1 pp.2.2.2]) 22 11 _ _ (by show 22 < 24; decide) rfl mm0 (by intro t ht h; rcases mc ht with rfl | ht; rfl; rcases mc ht with rfl | ht; exact absurd (show 23 = 22 from h) (by decide); cases ht) (by intro t ht hne hLt; rcases mc ht with rfl | ht; exact absurd rfl hne; rcases mc ht with rfl | ht; exact hJ.apart (21, 12) mm1 (20, 11) mm0 (by show 21 ≠ 20; decide) (hcl 23 (by show 23 < 24; decide) hLt 21 (by decide)) (hp 20 (by decide)); cases ht) (by kernel_rfl) (by kernel_rfl) (by decide) (by rfl) hgB hr0 hn0 rfl (NoW.two _ _ _ _) rfl (by omega)⟩
     · intro L fx w' hJ hL hp hcl;have e21 := hJ.slot 21 (by show 21 < 24; decide) (hp 21 (by decide));have e19 := hJ.pt 19 73 (.agg #[.bool pv.1, .slice pv.2.1 pv.2.2.1 pv.2.2.2]) rfl rfl rfl (hp 19 (by decide));rw [e19] at hJ ⊢; clear e19;obtain ⟨g, cs, hx, hgB, hr0, hn0, hl0⟩ := e21;obtain ⟨z0, z1, rfl⟩ : ∃ z0 z1, cs = [z0, z1] := list2 hl0;have hf0 := RowAt.free hr0 0;have hc0 := RowAt.cell hr0 0;have hf1 := RowAt.free hr0 1;have hc1 := RowAt.cell hr0 1;try dsimp only at hf0 hc0 hf1 hc1
       have hx1 := hx;rw [patchX (x := (updX fx 73 (.agg #[.bool pv.1, .slice pv.2.1 pv.2.2.1 pv.2.2.2]))) (d := 12) hx] at hJ ⊢;refine wps rfl fun K hK => ?_;go_simp;exact hK _ _ ⟨_, by kernel_rfl, hJ.storeNew (us := [.bool pv.1, .slice pv.2.1 pv.2.2.1 pv.2.2.2]) 23 12 _ _ (by show 23 < 24; decide) rfl mm1 (by intro t ht h; rcases mc ht with rfl | ht; exact absurd (show 22 = 23 from h) (by decide); rcases mc ht with rfl | ht; rfl; cases ht) (by intro t ht hne hLt; rcases mc ht with rfl | ht; exact hJ.apart (20, 11) mm0 (21, 12) mm1 (by show 20 ≠ 21; decide) (hcl 22 (by show 22 < 24; decide) hLt 20 (by decide)) (hp 21 (by decide)); rcases mc ht with rfl | ht; exact absurd rfl hne; cases ht) (by kernel_rfl) (by kernel_rfl) (by decide) (by rfl) hgB hr0 hn0 rfl (NoW.two _ _ _ _) rfl (by omega)⟩
   · intro L' x1 w7 hL hJ;have hfr : Below w6.drew.heap.size w6.drew w7 := hJ.fr;obtain ⟨g11, cs11, hx11, hg11, hr11, hcs11⟩ := hJ.new _ mm0 (hL 22 (by show 22 < 24; decide));obtain ⟨g12, cs12, hx12, hg12, hr12, hcs12⟩ := hJ.new _ mm1 (hL 23 (by show 23 < 24; decide));obtain rfl : cs11 = _ := hcs11;obtain rfl : cs12 = _ := hcs12;have hx11 : x1 11 = _ := hx11;have hx12 : x1 12 = _ := hx12;rw [patchX (x := x1) (d := 11) hx11];rw [patchX (x := updX x1 11 (.pointer (some ⟨g11, 0, none⟩))) (d := 12) (v := .pointer (some ⟨g12, 0, none⟩)) hx12];have G11 : Hid (RowAt w7 g11 37 [.bool pp.1, .slice pp.2.1 pp.2.2.1 pp.2.2.2]) := Lib.hid hr11;have G12 : Hid (RowAt w7 g12 37 [.bool pv.1, .slice pv.2.1 pv.2.2.1 pv.2.2.2]) := Lib.hid hr12;clear hJ hL hx11 hx12 hr11 hr12 cb ci ck ci0 ci1 ck0 ck1;have L7 := Lib.hid (LadAt.below (w := w6.drew) L6.out.drew hfr);have C7 := Lib.hid (C6.out.drew.below hfr);have P7 := Lib.hid (IntAt.below (w := w6.drew) Hnp.out hfr);have V7 := Lib.hid (IntAt.below (w := w6.drew) Hnv.out hfr);clear L6 C6 Hnp Hnv;simp only [pN, Nat.reduceEqDiff, ↓reduceIte];have q0 : w7.cell? ⟨g11, 0, none⟩ = some (.bool pp.1) := G11.out.cell 0;have q1 : w7.cell? ⟨g11, 1, none⟩ = some (.slice pp.2.1 pp.2.2.1 pp.2.2.2) := G11.out.cell 1;have q2 : w7.cell? ⟨g12, 0, none⟩ = some (.bool pv.1) := G12.out.cell 0;have q3 : w7.cell? ⟨g12, 1, none⟩ = some (.slice pv.2.1 pv.2.2.1 pv.2.2.2) := G12.out.cell 1;go_wp2_with fail
     clear q0 q1 q2 q3;refine (IExtF_c _ _ xp xv _ P7.out V7.out).mono ?_;rintro e w8 ⟨⟨vg, vx, vy, rfl, hge, hxe, hye⟩, hb8⟩;obtain ⟨zg, rfl⟩ := NumAt.parts hge.num;obtain ⟨zx, rfl⟩ := NumAt.parts hxe.num;obtain ⟨zy, rfl⟩ := NumAt.parts hye.num;have hge := hge.mono (Nat.zero_le _);have hxe := hxe.mono (Nat.zero_le _);have hye := hye.mono (Nat.zero_le _);unfold av at *;obtain ⟨GG, hGG⟩ : ∃ GG, extG xp xv = GG := ⟨_, rfl⟩;obtain ⟨XX, hXX⟩ : ∃ XX, extX xp xv = XX := ⟨_, rfl⟩;obtain ⟨YY, hYY⟩ : ∃ YY, extY xp xv = YY := ⟨_, rfl⟩;obtain ⟨hd1, hd2, hg0, hg1⟩ := extG_dvd xp xv;have hxl := extX_le xp xv;have hyl := extY_le xp xv;rw [hGG] at hge hd1 hd2 hg0;rw [hXX] at hxe hxl;rw [hYY] at hye hyl;have hgw : wlen GG.natAbs <= 4398046511103 := by
      refine Nat.le_trans (wlen_mono (Nat.le_of_dvd ?_ (Int.natAbs_dvd_natAbs.2 hd1))) (by omega : wlen xp.natAbs <= _);have := Hxp0.out; omega
     have hxw : wlen XX.natAbs <= B + 2 := wlen_succ hxl hwk;have hyw : wlen YY.natAbs <= B + 2 := wlen_succ hyl hwi;have HG0 := Lib.hid (hg0 Hxp0.out);have HD1 := Lib.hid hd1;have HD2 := Lib.hid hd2;have HGG := Lib.hid hGG; clear hGG;have HXX := Lib.hid hXX; clear hXX;have HYY := Lib.hid hYY; clear hYY;clear hd1 hd2 hg0 hg1 hxl hyl;have GA_0 := Lib.hid (G11.out.below hb8 G11.out.lt);have GB_0 := Lib.hid (G12.out.below hb8 G12.out.lt);have GE_0 := Lib.hid hge;have XE_0 := Lib.hid hxe;have YE_0 := Lib.hid hye;have PA_0 := Lib.hid (P7.out.below hb8);have VA_0 := Lib.hid (V7.out.below hb8);have LL_0 := Lib.hid (L7.out.below hb8);have CC_0 := Lib.hid (C7.out.below hb8);clear G11 G12 P7 V7 L7 C7 hge hxe hye hb8;obtain ⟨n13, n14, n15, hb9⟩ := three_new w8 #[.bool zg.1, .slice zg.2.1 zg.2.2.1 zg.2.2.2] #[.bool zx.1, .slice zx.2.1 zx.2.2.1 zx.2.2.2] #[.bool zy.1, .slice zy.2.1 zy.2.2.1 zy.2.2.2] 37 37 37;have GA_1 := Lib.hid (RowAt.below (w := w8) GA_0.out hb9 GA_0.out.lt);have GB_1 := Lib.hid (RowAt.below (w := w8) GB_0.out hb9 GB_0.out.lt);have GE_1 := Lib.hid (OwnI.below (w := w8) GE_0.out hb9);have XE_1 := Lib.hid (OwnI.below (w := w8) XE_0.out hb9);have YE_1 := Lib.hid (OwnI.below (w := w8) YE_0.out hb9);have PA_1 := Lib.hid (IntAt.below (w := w8) PA_0.out hb9);have VA_1 := Lib.hid (IntAt.below (w := w8) VA_0.out hb9);have LL_1 := Lib.hid (LadAt.below (w := w8) LL_0.out hb9);have CC_1 := Lib.hid (Chg.below CC_0.out hb9);clear GA_0 GB_0 GE_0 XE_0 YE_0 PA_0 VA_0 LL_0 CC_0;have N13_1 := Lib.hid n13;have N14_1 := Lib.hid n14;have N15_1 := Lib.hid n15;clear n13 n14 n15 hb9;have qa0 : (((w8.alloc (.cells #[.bool zg.1, .slice zg.2.1 zg.2.2.1 zg.2.2.2] 37)).alloc (.cells #[.bool zx.1, .slice zx.2.1 zx.2.2.1 zx.2.2.2] 37)).alloc (.cells #[.bool zy.1, .slice zy.2.1 zy.2.2.1 zy.2.2.2] 37)).cell? ⟨g11, 0, none⟩ = some (.bool pp.1) := GA_1.out.cell 0;have qa1 : (((w8.alloc (.cells #[.bool zg.1, .slice zg.2.1 zg.2.2.1 zg.2.2.2] 37)).alloc (.cells #[.bool zx.1, .slice zx.2.1 zx.2.2.1 zx.2.2.2] 37)).alloc (.cells #[.bool zy.1, .slice zy.2.1 zy.2.2.1 zy.2.2.2] 37)).cell? ⟨g11, 1, none⟩ = some (.slice pp.2.1 pp.2.2.1 pp.2.2.2) := GA_1.out.cell 1;have qb0 : (((w8.alloc (.cells #[.bool zg.1, .slice zg.2.1 zg.2.2.1 zg.2.2.2] 37)).alloc (.cells #[.bool zx.1, .slice zx.2.1 zx.2.2.1 zx.2.2.2] 37)).alloc (.cells #[.bool zy.1, .slice zy.2.1 zy.2.2.1 zy.2.2.2] 37)).cell? ⟨w8.heap.size, 0, none⟩ = some (.bool zg.1) := N13_1.out.cell 0;have qb1 : (((w8.alloc (.cells #[.bool zg.1, .slice zg.2.1 zg.2.2.1 zg.2.2.2] 37)).alloc (.cells #[.bool zx.1, .slice zx.2.1 zx.2.2.1 zx.2.2.2] 37)).alloc (.cells #[.bool zy.1, .slice zy.2.1 zy.2.2.1 zy.2.2.2] 37)).cell? ⟨w8.heap.size, 1, none⟩ = some (.slice zg.2.1 zg.2.2.1 zg.2.2.2) := N13_1.out.cell 1;go_wp2_with fail
     clear qa0 qa1 qb0 qb1;generalize (((w8.alloc (.cells #[.bool zg.1, .slice zg.2.1 zg.2.2.1 zg.2.2.2] 37)).alloc (.cells #[.bool zx.1, .slice zx.2.1 zx.2.2.1 zx.2.2.2] 37)).alloc (.cells #[.bool zy.1, .slice zy.2.1 zy.2.2.1 zy.2.2.2] 37)) = w9 at *;refine (IExact_c _ _ xp GG _ (PA_1.out.mono (by omega)) (OwnI.int GE_1.out (by omega)) HG0.out HD1.out).mono ?_;rintro e w10 ⟨⟨va, rfl, hva⟩, hb10⟩;obtain ⟨za, rfl⟩ := NumAt.parts hva.num;have hva := hva.mono (Nat.zero_le _);unfold av at *;have GA_2 := Lib.hid (RowAt.below (w := w9) GA_1.out hb10 GA_1.out.lt);have GB_2 := Lib.hid (RowAt.below (w := w9) GB_1.out hb10 GB_1.out.lt);have N13_2 := Lib.hid (RowAt.below (w := w9) N13_1.out hb10 N13_1.out.lt);have N14_2 := Lib.hid (RowAt.below (w := w9) N14_1.out hb10 N14_1.out.lt);have N15_2 := Lib.hid (RowAt.below (w := w9) N15_1.out hb10 N15_1.out.lt);have GE_2 := Lib.hid (OwnI.below (w := w9) GE_1.out hb10);have XE_2 := Lib.hid (OwnI.below (w := w9) XE_1.out hb10);have YE_2 := Lib.hid (OwnI.below (w := w9) YE_1.out hb10);have PA_2 := Lib.hid (IntAt.below (w := w9) PA_1.out hb10);have VA_2 := Lib.hid (IntAt.below (w := w9) VA_1.out hb10);have LL_2 := Lib.hid (LadAt.below (w := w9) LL_1.out hb10);have CC_2 := Lib.hid (Chg.below CC_1.out hb10);clear GA_1 GB_1 N13_1 N14_1 N15_1 GE_1 XE_1 YE_1 PA_1 VA_1 LL_1 CC_1;have AE_2 := Lib.hid hva;clear hva hb10;have hb11 : Below w10.heap.size w10 (w10.alloc (.cells #[.bool za.1, .slice za.2.1 za.2.2.1 za.2.2.2] 37)) := (Below.refl _ _).alloc (Nat.le_refl _) _;have n16 := RowAt.new w10 #[.bool za.1, .slice za.2.1 za.2.2.1 za.2.2.2] 37;have GA_3 := Lib.hid (RowAt.below (w := w10) GA_2.out hb11 GA_2.out.lt);have GB_3 := Lib.hid (RowAt.below (w := w10) GB_2.out hb11 GB_2.out.lt);have N13_3 := Lib.hid (RowAt.below (w := w10) N13_2.out hb11 N13_2.out.lt);have N14_3 := Lib.hid (RowAt.below (w := w10) N14_2.out hb11 N14_2.out.lt);have N15_3 := Lib.hid (RowAt.below (w := w10) N15_2.out hb11 N15_2.out.lt);have GE_3 := Lib.hid (OwnI.below (w := w10) GE_2.out hb11);have XE_3 := Lib.hid (OwnI.below (w := w10) XE_2.out hb11);have YE_3 := Lib.hid (OwnI.below (w := w10) YE_2.out hb11);have AE_3 := Lib.hid (OwnI.below (w := w10) AE_2.out hb11);have PA_3 := Lib.hid (IntAt.below (w := w10) PA_2.out hb11);have VA_3 := Lib.hid (IntAt.below (w := w10) VA_2.out hb11);have LL_3 := Lib.hid (LadAt.below (w := w10) LL_2.out hb11);have CC_3 := Lib.hid (Chg.below CC_2.out hb11);clear GA_2 GB_2 N13_2 N14_2 N15_2 GE_2 XE_2 YE_2 AE_2 PA_2 VA_2 LL_2 CC_2;have N16_3 := Lib.hid n16;clear n16 hb11;have qa0 : (w10.alloc (.cells #[.bool za.1, .slice za.2.1 za.2.2.1 za.2.2.2] 37)).cell? ⟨g12, 0, none⟩ = some (.bool pv.1) := GB_3.out.cell 0;have qa1 : (w10.alloc (.cells #[.bool za.1, .slice za.2.1 za.2.2.1 za.2.2.2] 37)).cell? ⟨g12, 1, none⟩ = some (.slice pv.2.1 pv.2.2.1 pv.2.2.2) := GB_3.out.cell 1;have qb0 : (w10.alloc (.cells #[.bool za.1, .slice za.2.1 za.2.2.1 za.2.2.2] 37)).cell? ⟨w8.heap.size, 0, none⟩ = some (.bool zg.1) := N13_3.out.cell 0;have qb1 : (w10.alloc (.cells #[.bool za.1, .slice za.2.1 za.2.2.1 za.2.2.2] 37)).cell? ⟨w8.heap.size, 1, none⟩ = some (.slice zg.2.1 zg.2.2.1 zg.2.2.2) := N13_3.out.cell 1;go_wp2_with fail
     clear qa0 qa1 qb0 qb1;generalize (w10.alloc (.cells #[.bool za.1, .slice za.2.1 za.2.2.1 za.2.2.2] 37)) = w11 at *;refine (IExact_c _ _ xv GG _ (VA_3.out.mono (by omega)) (OwnI.int GE_3.out (by omega)) HG0.out HD2.out).mono ?_;rintro e w12 ⟨⟨vb, rfl, hvb⟩, hb12⟩;obtain ⟨zb, rfl⟩ := NumAt.parts hvb.num;have hvb := hvb.mono (Nat.zero_le _);unfold av at *;have N14_4 := Lib.hid (RowAt.below (w := w11) N14_3.out hb12 N14_3.out.lt);have N15_4 := Lib.hid (RowAt.below (w := w11) N15_3.out hb12 N15_3.out.lt);have N16_4 := Lib.hid (RowAt.below (w := w11) N16_3.out hb12 N16_3.out.lt);have XE_4 := Lib.hid (OwnI.below (w := w11) XE_3.out hb12);have YE_4 := Lib.hid (OwnI.below (w := w11) YE_3.out hb12);have AE_4 := Lib.hid (OwnI.below (w := w11) AE_3.out hb12);have LL_4 := Lib.hid (LadAt.below (w := w11) LL_3.out hb12);have CC_4 := Lib.hid (Chg.below CC_3.out hb12);clear N14_3 N15_3 N16_3 XE_3 YE_3 AE_3 LL_3 CC_3;clear GA_3 GB_3 N13_3 GE_3 PA_3 VA_3;have BE_4 := Lib.hid hvb;clear hvb hb12;have hb13 : Below w12.heap.size w12 (w12.alloc (.cells #[.bool zb.1, .slice zb.2.1 zb.2.2.1 zb.2.2.2] 37)) := (Below.refl _ _).alloc (Nat.le_refl _) _;have n18 := RowAt.new w12 #[.bool zb.1, .slice zb.2.1 zb.2.2.1 zb.2.2.2] 37;have N14_5 := Lib.hid (RowAt.below (w := w12) N14_4.out hb13 N14_4.out.lt);have N15_5 := Lib.hid (RowAt.below (w := w12) N15_4.out hb13 N15_4.out.lt);have N16_5 := Lib.hid (RowAt.below (w := w12) N16_4.out hb13 N16_4.out.lt);have XE_5 := Lib.hid (OwnI.below (w := w12) XE_4.out hb13);have YE_5 := Lib.hid (OwnI.below (w := w12) YE_4.out hb13);have AE_5 := Lib.hid (OwnI.below (w := w12) AE_4.out hb13);have BE_5 := Lib.hid (OwnI.below (w := w12) BE_4.out hb13);have LL_5 := Lib.hid (LadAt.below (w := w12) LL_4.out hb13);have CC_5 := Lib.hid (Chg.below CC_4.out hb13);clear N14_4 N15_4 N16_4 XE_4 YE_4 AE_4 BE_4 LL_4 CC_4;have N18_5 := Lib.hid n18;clear n18 hb13;go_wp2;generalize (w12.alloc (.cells #[.bool zb.1, .slice zb.2.1 zb.2.2.1 zb.2.2.2] 37)) = w13 at *;have hs18 := N18_5.out.lt;have hs16 := N16_5.out.lt;have hs15 := N15_5.out.lt;have hs14 := N14_5.out.lt;obtain ⟨aq, haq⟩ : ∃ aq, xp / GG = aq := ⟨_, rfl⟩;obtain ⟨bq, hbq⟩ : ∃ bq, xv / GG = bq := ⟨_, rfl⟩;have haw : wlen aq.natAbs <= B := by rw [<- haq]; exact Nat.le_trans (wlen_mono (Int.natAbs_ediv_le_natAbs ..)) hwi
     have hbqw : wlen bq.natAbs <= B := by rw [<- hbq]; exact Nat.le_trans (wlen_mono (Int.natAbs_ediv_le_natAbs ..)) hwk
     have AE := AE_5.out;rw [haq] at AE;have AE := Lib.hid AE;have BE := BE_5.out;rw [hbq] at BE;have BE := Lib.hid BE;have HAQ := Lib.hid haq; clear haq;have HBQ := Lib.hid hbq; clear hbq;clear AE_5 BE_5;refine wp_region_K ⟨11, fun q_ => [93, 94, 95, 96, 97, 98, 99, 100, 101, 102, 103].getD q_ 0,
      fun q_ => [.val (.pointer (some ⟨S.lb, 0, none⟩)), .val (.int .i64 (k : Int)), .val (.int .i64 (n : Int)), .val (.agg #[.bool zx.1, .slice zx.2.1 zx.2.2.1 zx.2.2.2]), .val (.agg #[.bool zy.1, .slice zy.2.1 zy.2.2.1 zy.2.2.2]), .val (.agg #[.bool zx.1, .slice zx.2.1 zx.2.2.1 zx.2.2.2, .bool zy.1, .slice zy.2.1 zy.2.2.1 zy.2.2.2]), .val (.agg #[.bool zb.1, .slice zb.2.1 zb.2.2.1 zb.2.2.2]), .int 0 (-bq), .val (.agg #[.bool za.1, .slice za.2.1 za.2.2.1 za.2.2.2]), .int2 0 (-bq) aq, .int4 0 XX YY (-bq) aq].getD q_ .any,
      [],
      [(.agg #[.bool zx.1, .slice zx.2.1 zx.2.2.1 zx.2.2.2], .int 0 XX), (.agg #[.bool zy.1, .slice zy.2.1 zy.2.2.1 zy.2.2.2], .int 0 YY), (.agg #[.bool za.1, .slice za.2.1 za.2.2.1 za.2.2.2], .int 0 aq), (.agg #[.bool zb.1, .slice zb.2.1 zb.2.2.1 zb.2.2.2], .int 0 bq)],
      [(w8.heap.size + 1, 37, [.bool zx.1, .slice zx.2.1 zx.2.2.1 zx.2.2.2]), (w8.heap.size + 2, 37, [.bool zy.1, .slice zy.2.1 zy.2.2.1 zy.2.2.2]), (w10.heap.size, 37, [.bool za.1, .slice za.2.1 za.2.2.1 za.2.2.2]), (w12.heap.size, 37, [.bool zb.1, .slice zb.2.1 zb.2.2.1 zb.2.2.2])],
      [], [], []⟩ [93, 94, 95, 96, 97, 98, 99, 100, 101, 102, 103, 104] (w13.heap.size) (by kernel_rfl) (by kernel_rfl) (by kernel_rfl) (by kernel_rfl) (by kernel_rfl) ?_ ?_ ?_ ?_ ?_ ?_
     · exact allq (XE_5.out) (allq (YE_5.out) (allq (AE.out) (allq (BE.out) allz)))
     · exact allq (⟨N14_5.out, (N14_5.out).lt, allz⟩) (allq (⟨N15_5.out, (N15_5.out).lt, allz⟩) (allq (⟨N16_5.out, (N16_5.out).lt, allz⟩) (allq (⟨N18_5.out, (N18_5.out).lt, allz⟩) allz)))
     · exact allz
     · exact allz
     · refine allc ?_ (allc ?_ (allc ?_ (allc ?_ (allc ?_ (allc ?_ (allc ?_ (allc ?_ (allc ?_ (allc ?_ (allc ?_ alln))))))))));any_goals (first | (intro L fx w' hJ hL hp hcl; have _ := hp0 hp (by decide +kernel); refine wps rfl fun K hK => ?_; go_simp; exact hJ.q hK (by kernel_rfl) rfl) | fail)
       · intro L fx w' hJ hL hp hcl;refine wps rfl fun K hK => ?_;have rw0 := (hJ.rows _ mm0).1;have cl0 : w'.cell? ⟨w8.heap.size + 1, 0, none⟩ = some (.bool zx.1) := rw0.cell 0;have cl1 : w'.cell? ⟨w8.heap.size + 1, 1, none⟩ = some (.slice zx.2.1 zx.2.2.1 zx.2.2.2) := rw0.cell 1;go_simp;exact hJ.q hK (by kernel_rfl) rfl
       · intro L fx w' hJ hL hp hcl;refine wps rfl fun K hK => ?_;have rw0 := (hJ.rows _ mm1).1;have cl0 : w'.cell? ⟨w8.heap.size + 2, 0, none⟩ = some (.bool zy.1) := rw0.cell 0;have cl1 : w'.cell? ⟨w8.heap.size + 2, 1, none⟩ = some (.slice zy.2.1 zy.2.2.1 zy.2.2.2) := rw0.cell 1;go_simp;exact hJ.q hK (by kernel_rfl) rfl
       · intro L fx w' hJ hL hp hcl;have e3 := hJ.pt 3 96 (.agg #[.bool zx.1, .slice zx.2.1 zx.2.2.1 zx.2.2.2]) rfl rfl rfl (hp 3 (by decide));rw [e3] at hJ ⊢; clear e3;have e4 := hJ.pt 4 97 (.agg #[.bool zy.1, .slice zy.2.1 zy.2.2.1 zy.2.2.2]) rfl rfl rfl (hp 4 (by decide));rw [e4] at hJ ⊢; clear e4;refine wps rfl fun K hK => ?_;go_simp;exact hJ.q hK (by kernel_rfl) rfl
       · intro L fx w' hJ hL hp hcl;refine wps rfl fun K hK => ?_;have rw0 := (hJ.rows _ mm3).1;have cl0 : w'.cell? ⟨w12.heap.size, 0, none⟩ = some (.bool zb.1) := rw0.cell 0;have cl1 : w'.cell? ⟨w12.heap.size, 1, none⟩ = some (.slice zb.2.1 zb.2.2.1 zb.2.2.2) := rw0.cell 1;go_simp;exact hJ.q hK (by kernel_rfl) rfl
       · intro L fx w' hJ hL hp hcl;have e6 := hJ.pt 6 99 (.agg #[.bool zb.1, .slice zb.2.1 zb.2.2.1 zb.2.2.2]) rfl rfl rfl (hp 6 (by decide));rw [e6] at hJ ⊢; clear e6;refine wps rfl fun K hK => ?_;go_simp;go_at_call 69;refine (INeg_c _ bq _ (OwnI.int (show OwnI w' _ _ _ from hJ.base _ mm3) (by omega))).mono ?_;rintro e w4 ⟨⟨v5, rfl, h5⟩, hb4⟩;try dsimp only
         exact hK _ _ ⟨_, by kernel_rfl, hJ.gC 7 rfl (by kernel_rfl) hb4 (OwnI.mono h5 (Nat.zero_le _)) (by omega)⟩
       · intro L fx w' hJ hL hp hcl;refine wps rfl fun K hK => ?_;have rw0 := (hJ.rows _ mm2).1;have cl0 : w'.cell? ⟨w10.heap.size, 0, none⟩ = some (.bool za.1) := rw0.cell 0;have cl1 : w'.cell? ⟨w10.heap.size, 1, none⟩ = some (.slice za.2.1 za.2.2.1 za.2.2.2) := rw0.cell 1;go_simp;exact hJ.q hK (by kernel_rfl) rfl
       · intro L fx w' hJ hL hp hcl;have e7 := hJ.slot 7 (by show 7 < 11; decide) (hp 7 (by decide));have e8 := hJ.pt 8 101 (.agg #[.bool za.1, .slice za.2.1 za.2.2.1 za.2.2.2]) rfl rfl rfl (hp 8 (by decide));rw [e8] at hJ ⊢; clear e8;have e7' := e7;obtain ⟨b7, o7, l7, k7, hv0⟩ := OwnI.parts e7;rw [hv0] at e7';rw [patchX (x := (updX fx 101 (.agg #[.bool za.1, .slice za.2.1 za.2.2.1 za.2.2.2]))) (d := 100) (v := (.agg #[.bool b7, .slice o7 l7 k7])) hv0] at hJ ⊢;refine wps rfl fun K hK => ?_;go_simp;exact hK _ _ ⟨_, by kernel_rfl, hJ.pC 9 rfl (by kernel_rfl) ⟨_, _, _, _, _, _, _, _, rfl, e7', (show OwnI w' _ _ _ from hJ.base _ mm2)⟩ (by omega)⟩
       · intro L fx w' hJ hL hp hcl;have e9 := hJ.slot 9 (by show 9 < 11; decide) (hp 9 (by decide));have e5 := hJ.pt 5 98 (.agg #[.bool zx.1, .slice zx.2.1 zx.2.2.1 zx.2.2.2, .bool zy.1, .slice zy.2.1 zy.2.2.1 zy.2.2.2]) rfl rfl rfl (hp 5 (by decide));rw [e5] at hJ ⊢; clear e5;obtain ⟨b1, o1, l1, k1, b2, o2, l2, k2, hv0, hO1, hO2⟩ := e9;rw [patchX (x := (updX fx 98 (.agg #[.bool zx.1, .slice zx.2.1 zx.2.2.1 zx.2.2.2, .bool zy.1, .slice zy.2.1 zy.2.2.1 zy.2.2.2]))) (d := 102) (v := (.agg #[.bool b1, .slice o1 l1 k1, .bool b2, .slice o2 l2 k2])) hv0] at hJ ⊢;refine wps rfl fun K hK => ?_;go_simp;exact hK _ _ ⟨_, by kernel_rfl, hJ.pC 10 rfl (by kernel_rfl) ⟨zx, zy, (b1, o1, l1, k1), (b2, o2, l2, k2), rfl, (show OwnI w' _ _ _ from hJ.base _ mm0), (show OwnI w' _ _ _ from hJ.base _ mm1), hO1, hO2⟩ (by omega)⟩
     · intro L2 x2 w14 hL hJ;have hfr : Below w13.drew.heap.size w13.drew w14 := hJ.fr;have e0 : x2 93 = .pointer (some ⟨S.lb, 0, none⟩) := hJ.slot 0 (by show 0 < 11; decide) (hL 0 (by show 0 < 11; decide));have e1 : x2 94 = .int .i64 (k : Int) := hJ.slot 1 (by show 1 < 11; decide) (hL 1 (by show 1 < 11; decide));have e2 : x2 95 = .int .i64 (n : Int) := hJ.slot 2 (by show 2 < 11; decide) (hL 2 (by show 2 < 11; decide));obtain ⟨mp, mq, mr, ms, e10, hm1, hm2, hm3, hm4⟩ := hJ.slot 10 (by show 10 < 11; decide) (hL 10 (by show 10 < 11; decide));have e10 : x2 103 = .agg #[.bool mp.1, .slice mp.2.1 mp.2.2.1 mp.2.2.2, .bool mq.1, .slice mq.2.1 mq.2.2.1 mq.2.2.2, .bool mr.1, .slice mr.2.1 mr.2.2.1 mr.2.2.2, .bool ms.1, .slice ms.2.1 ms.2.2.1 ms.2.2.2] := e10;rw [patchX (x := x2) (d := 93) (v := .pointer (some ⟨S.lb, 0, none⟩)) e0];rw [patchX (x := (updX x2 93 (.pointer (some ⟨S.lb, 0, none⟩)))) (d := 94) (v := .int .i64 (k : Int)) e1];rw [patchX (x := (updX (updX x2 93 (.pointer (some ⟨S.lb, 0, none⟩))) 94 (.int .i64 (k : Int)))) (d := 95) (v := .int .i64 (n : Int)) e2];rw [patchX (x := (updX (updX (updX x2 93 (.pointer (some ⟨S.lb, 0, none⟩))) 94 (.int .i64 (k : Int))) 95 (.int .i64 (n : Int)))) (d := 103) (v := .agg #[.bool mp.1, .slice mp.2.1 mp.2.2.1 mp.2.2.2, .bool mq.1, .slice mq.2.1 mq.2.2.1 mq.2.2.2, .bool mr.1, .slice mr.2.1 mr.2.2.1 mr.2.2.2, .bool ms.1, .slice ms.2.1 ms.2.2.1 ms.2.2.2]) e10];have LF := Lib.hid (LadAt.below (w := w13.drew) LL_5.out.drew hfr);have CF := Lib.hid (CC_5.out.drew.below hfr);have M1 := Lib.hid (OwnI.int (L := B + 2) hm1 hxw);have M2 := Lib.hid (OwnI.int (L := B + 2) hm2 hyw);have M3 := Lib.hid (OwnI.int (L := B + 2) hm3 (by rw [Int.natAbs_neg]; omega));have M4 := Lib.hid (OwnI.int (L := B + 2) hm4 (by omega));clear hJ hL e0 e1 e2 e10 hm1 hm2 hm3 hm4 LL_5 CC_5;refine wps rfl fun K hK => ?_;go_simp;go_at_call 91;have hlx : R1[k].xs.length = R1[n].xs.length := by rw [HF1.out.len _ (List.getElem_mem hkA), HF1.out.len _ (List.getElem_mem hnA)]
       have hlen2 : R1[k].xs.length <= 4611686018427387903 := by rw [HF1.out.len _ (List.getElem_mem hkA)]; omega
       have hdet : XX * aq - YY * (-bq) = 1 := by
        have := ext_det xp xv (by rw [HGG.out]; exact HG0.out);rw [HGG.out, HXX.out, HYY.out, HAQ.out, HBQ.out] at this;rw [Int.mul_neg];omega
       refine (MMix_c (S.withR R1) k n mp mq mr ms XX YY (-bq) aq (B + 2) B _ LF.out hkA hnA hkn M1.out M2.out M3.out M4.out hlx (fun x hx => HF1.out.fit _ (List.getElem_mem hkA) x hx) (fun y hy => HF1.out.fit _ (List.getElem_mem hnA) y hy) (by omega) hlen2 (HT.out.good R1) (HT.out.okR HF1.out) (by omega) hdet).mono ?_;rintro e w15 ⟨rfl, hL15, hC15⟩;try dsimp only
       refine hK _ _ ⟨⟨updX (updX (updX (updX (updX x2 93 (.pointer (some ⟨S.lb, 0, none⟩))) 94 (.int .i64 (k : Int))) 95 (.int .i64 (n : Int))) 103 (.agg #[.bool mp.1, .slice mp.2.1 mp.2.2.1 mp.2.2.2, .bool mq.1, .slice mq.2.1 mq.2.2.1 mq.2.2.2, .bool mr.1, .slice mr.2.1 mr.2.2.1 mr.2.2.2, .bool ms.1, .slice ms.2.1 ms.2.2.1 ms.2.2.2])) 104 (.tuple #[]), by kernel_rfl⟩, ?_⟩;clear hK;have hE : meetT S.R k n j = mixR R1 k n XX YY (-bq) aq hkA hnA := by
        rw [HMT.out, Hxp.out, Hxv.out, HGG.out, HXX.out, HYY.out, HAQ.out, HBQ.out, mixT_eq hkA hnA]
       have hown : ∀ q, (S.withR R1).own q ↔ S.own q := by
        intro q;rw [<- HR1.out];unfold meetA;rw [addT_eq hn hk];exact own_setXs S n _ q
       have HE := Lib.hid hE; clear hE;have HO := Lib.hid hown; clear hown;have LG := Lib.hid hL15; clear hL15;have CG := Lib.hid (CF.out.trans (hC15.mono (fun q _ e => (HO.out q).1 e))); clear hC15;go_wp2;refine bodyPost_end (results_none (by kernel_rfl) _ _ _) rfl ?_;rw [HE.out];exact ⟨rfl, LG.out, CG.out⟩
theorem results_mat_tmp {fn : Func} {p q : Tmp} (h : fn.results = #[.cell p 24, .tmp q]) (tmps : Array Value) (w : World) (g : Nat) (a b c : Value) (hp : tmps.getD p undef = .pointer (some ⟨g, 0, none⟩)) (hr : RowAt w g 24 [a, b, c]) :
 (results fn tmps).run Tryz.prog w = .ok (.tuple #[.agg #[a, b, c], tmps.getD q undef]) w := by
 have hp' : tmps[p]?.getD undef = .pointer (some ⟨g, 0, none⟩) := by simpa using hp
 simp [results, h, hp', asAddr, run_loadVar_row w g 24 24 #[a, b, c] (0, 0) _ hr Tryz.underlying24 rfl (by kernel_rfl)]
theorem RowAt.set3 {w : World} {b : Nat} {t : TypeId} {x y z : Value} (h : RowAt w b t [x, y, z]) (u v s : Value) : RowAt (((w.setCell ⟨b, 0, none⟩ u).setCell ⟨b, 1, none⟩ v).setCell ⟨b, 2, none⟩ s) b t [u, v, s] := by
 have := ((h.set 0 u).set 1 v).set 2 s;exact this
theorem NoW.mat (a b : Int) (ao : Option Addr) (l k : Nat) : NoW [.int .i64 a, .int .i64 b, .slice ao l k] := NoW.i64 (NoW.i64 (NoW.slice NoW.nil))
theorem RowN.setMat {w : World} {b : Nat} {xs : List Int} (h : RowN w b xs) {g : Nat} {x y : Int} {ao : Option Addr} {l k : Nat} (hr : RowAt w g 24 [.int .i64 x, .int .i64 y, .slice ao l k]) (u v : Int) (ao' : Option Addr) (l' k' : Nat) : RowN (((w.setCell ⟨g, 0, none⟩ (.int .i64 u)).setCell ⟨g, 1, none⟩ (.int .i64 v)).setCell ⟨g, 2, none⟩ (.slice ao' l' k')) b xs := by
 have h1 := h.setFar hr (by decide) (NoW.mat x y ao l k) 0 (.int .i64 u);have r1 : RowAt _ g 24 [.int .i64 u, .int .i64 y, .slice ao l k] := hr.set 0 (.int .i64 u);have h2 := h1.setFar r1 (by decide) (NoW.mat u y ao l k) 1 (.int .i64 v);have r2 : RowAt _ g 24 [.int .i64 u, .int .i64 v, .slice ao l k] := r1.set 1 (.int .i64 v);exact h2.setFar r2 (by decide) (NoW.mat u v ao l k) 2 (.slice ao' l' k')
set_option maxRecDepth 100000 in
set_option maxHeartbeats 4000000 in
theorem MLeast_c (r c : Int) (ao : Option Addr) (len cap : Nat) (xs : List Int) (w : World) (hr : -9223372036854775808 <= r /\ r <= 9223372036854775807) (hc : -9223372036854775808 <= c /\ c <= 9223372036854775807) (h : LsAt w 17592186044415 ao xs) (hl : len = xs.length) (hs : soundM r c len = true) (hlen : xs.length <= 8796093022208) :
 Calls Tryz.prog 53 #[.agg #[.int .i64 r, .int .i64 c, .slice ao len cap]] w fun e w' => (∃ b, e = .returned (.tuple #[.agg #[.int .i64 r, .int .i64 c, .slice (some ⟨b, 0, none⟩) xs.length xs.length], .int .i64 0]) /\ w.heap.size <= b /\ RowN w' b xs) /\ Below w.heap.size w w' := by
 subst hl;have HL := Lib.hid h; clear h;have HS := Lib.hid (chkM_ok hs); clear hs;go_enter Tryz.func53, Tryz.ntmps53;go_wp2_with fail
 obtain ⟨r1, r2, hb⟩ := two_new w #[.int .i64 r, .int .i64 c, .slice ao xs.length cap] #[.int .i64 0, .int .i64 0, .slice none 0 0] 24 24;generalize (w.alloc (.cells #[.int .i64 r, .int .i64 c, .slice ao xs.length cap] 24)).alloc (.cells #[.int .i64 0, .int .i64 0, .slice none 0 0] 24) = w2 at *;refine (Check_c r c ao xs.length cap _ hr hc).mono ?_;rintro e w3 ⟨rfl, hb3⟩;rw [HS.out];have R1 := r1.below hb3 r1.lt;have R2 := Lib.hid (r2.below hb3 r2.lt);have L3 := Lib.hid ((HL.out.below hb).below hb3);have B3 := Lib.hid (hb.trans (hb3.mono hb.size));have hs2 : w.heap.size + 1 < w3.heap.size := R2.out.lt;have e0 : w3.cell? ⟨w.heap.size, 0, none⟩ = some (.int .i64 r) := R1.cell 0;have e1 : w3.cell? ⟨w.heap.size, 1, none⟩ = some (.int .i64 c) := R1.cell 1;have e2 : w3.cell? ⟨w.heap.size, 2, none⟩ = some (.slice ao xs.length cap) := R1.cell 2;have hne : ¬ w.heap.size + 1 = w.heap.size := by omega
 have hlt : w.heap.size < w3.heap.size := by omega
 clear r1 r2 hb hb3 R1;go_wp2
 go_region_held3 (fun w' => w'.cell? ⟨w.heap.size, 0, none⟩ = some (.int .i64 r) /\ w'.cell? ⟨w.heap.size, 1, none⟩ = some (.int .i64 c) /\ w'.cell? ⟨w.heap.size, 2, none⟩ = some (.slice ao xs.length cap))
  (first
   | exact ⟨e0, e1, e2⟩
   | exact ⟨k0, k1, k2⟩
   | exact ⟨m0, m1, m2⟩)
  (first
   | (go_at_call 55; (refine (EachLeast_c ao cap xs _ (LsAt.below (w := w3) L3.out (Below.refl _ _).drew) hlen).mono ?_); rintro e w4 ⟨⟨b, rfl, hbl, hRb⟩, hb4⟩; have k0 := (hb4.cell (p := ⟨w.heap.size, 0, none⟩) hlt).trans e0; have k1 := (hb4.cell (p := ⟨w.heap.size, 1, none⟩) hlt).trans e1; have k2 := (hb4.cell (p := ⟨w.heap.size, 2, none⟩) hlt).trans e2; have hR4 := RowAt.below (w := w3.drew) R2.out hb4 R2.out.lt; have z0 := hR4.cell 0; have z1 := hR4.cell 1; have z2 := hR4.cell 2; have y0 := hR4.free 0; have y1 := hR4.free 1; have y2 := hR4.free 2; have m0 := ((World.cell?_setCell_far _ ⟨w.heap.size + 1, 2, none⟩ ⟨w.heap.size, 0, none⟩ (.slice (some ⟨b, 0, none⟩) xs.length xs.length) hne).trans ((World.cell?_setCell_far _ ⟨w.heap.size + 1, 1, none⟩ ⟨w.heap.size, 0, none⟩ (.int .i64 c) hne).trans ((World.cell?_setCell_far w4 ⟨w.heap.size + 1, 0, none⟩ ⟨w.heap.size, 0, none⟩ (.int .i64 r) hne).trans k0))); have m1 := ((World.cell?_setCell_far _ ⟨w.heap.size + 1, 2, none⟩ ⟨w.heap.size, 1, none⟩ (.slice (some ⟨b, 0, none⟩) xs.length xs.length) hne).trans ((World.cell?_setCell_far _ ⟨w.heap.size + 1, 1, none⟩ ⟨w.heap.size, 1, none⟩ (.int .i64 c) hne).trans ((World.cell?_setCell_far w4 ⟨w.heap.size + 1, 0, none⟩ ⟨w.heap.size, 1, none⟩ (.int .i64 r) hne).trans k1))); have m2 := ((World.cell?_setCell_far _ ⟨w.heap.size + 1, 2, none⟩ ⟨w.heap.size, 2, none⟩ (.slice (some ⟨b, 0, none⟩) xs.length xs.length) hne).trans ((World.cell?_setCell_far _ ⟨w.heap.size + 1, 1, none⟩ ⟨w.heap.size, 2, none⟩ (.int .i64 c) hne).trans ((World.cell?_setCell_far w4 ⟨w.heap.size + 1, 0, none⟩ ⟨w.heap.size, 2, none⟩ (.int .i64 r) hne).trans k2)))))
 go_wp2;have hs4 := hb4.size;have hbl : w3.heap.size <= b := hbl;have hbw : Below w.heap.size w w4 := B3.out.drew.trans (hb4.mono B3.out.size);refine bodyPost_ret (results_mat_tmp (p := 2) (q := 3) (by kernel_rfl) _ _ (w.heap.size + 1) _ _ _ rfl (hR4.set3 (.int .i64 r) (.int .i64 c) (.slice (some ⟨b, 0, none⟩) xs.length xs.length))) rfl ?_;exact ⟨⟨b, rfl, by omega, hRb.setMat hR4 r c _ _ _⟩, ((hbw.setCell (p := ⟨w.heap.size + 1, 0, none⟩) (Nat.le_succ _) _).setCell (p := ⟨w.heap.size + 1, 1, none⟩) (Nat.le_succ _) _).setCell (p := ⟨w.heap.size + 1, 2, none⟩) (Nat.le_succ _) _⟩
set_option maxRecDepth 100000 in
set_option maxHeartbeats 4000000 in
theorem MLines_c (r c : Int) (ao : Option Addr) (len cap : Nat) (xs : List Int) (w : World) (hr : -9223372036854775808 <= r /\ r <= 9223372036854775807) (hc : -9223372036854775808 <= c /\ c <= 9223372036854775807) (h : LsAt w 17592186044415 ao xs) (hl : len = xs.length) (hs : soundM r c len = true) (hlen : xs.length <= 8796093022208) :
 Calls Tryz.prog 35 #[.agg #[.int .i64 r, .int .i64 c, .slice ao len cap]] w fun e w' => (∃ g b, e = .returned (.func (.func 54) #[] #[.pointer (some ⟨g, 0, none⟩)]) /\ w.heap.size <= g /\ w.heap.size <= b /\ RowAt w' g 24 [.int .i64 r, .int .i64 c, .slice (some ⟨b, 0, none⟩) xs.length xs.length] /\ RowN w' b xs) /\ Below w.heap.size w w' := by
 subst hl;have HL := Lib.hid h; clear h;have hb0 : Below w.heap.size w (w.alloc (.cells #[.int .i64 r, .int .i64 c, .slice ao xs.length cap] 24)) := (Below.refl _ _).alloc (Nat.le_refl _) _;have HB0 := Lib.hid hb0; clear hb0;go_enter Tryz.func35, Tryz.ntmps35;go_wp2_with fail
 generalize w.alloc (.cells #[.int .i64 r, .int .i64 c, .slice ao xs.length cap] 24) = w1 at *;refine (MLeast_c r c ao xs.length cap xs _ hr hc (HL.out.below HB0.out) rfl hs hlen).mono ?_;rintro e w2 ⟨⟨b, rfl, hb, hR⟩, hb2⟩;have hbw : Below w.heap.size w w2 := HB0.out.trans (hb2.mono HB0.out.size);have hs1 := HB0.out.size;have HBW := Lib.hid hbw; clear hbw;have HR := Lib.hid hR; clear hR;have hs2 := hb2.size;clear hb2;go_wp2;go_ret;have hb3 : Below w2.heap.size w2 (w2.alloc (.cells #[.int .i64 r, .int .i64 c, .slice (some ⟨b, 0, none⟩) xs.length xs.length] 24)) := (Below.refl _ _).alloc (Nat.le_refl _) _;have hr3 := RowAt.new w2 #[.int .i64 r, .int .i64 c, .slice (some ⟨b, 0, none⟩) xs.length xs.length] 24;have hsz := HBW.out.size;exact ⟨⟨w2.heap.size, b, rfl, by omega, by omega, hr3, HR.out.below hb3⟩, HBW.out.trans (hb3.mono (by omega))⟩
theorem lead_ne : ∀ {xs : List Int} {j : Nat} (_ : lead xs = j) (hj : j < xs.length), xs[j] ≠ 0
 | x :: xs, j, h, hj => by
  unfold lead at h;by_cases h0 : x = 0
  · rw [if_pos h0] at h;subst h;simpa using lead_ne (xs := xs) rfl (by simpa using hj)
  · rw [if_neg h0] at h;subst h;simpa using h0
theorem NumAt.sign {w : World} {p : P4} {x : Int} (h : NumAt w (av p) x) (hx : x ≠ 0) : p.1 = decide (x < 0) := by
 obtain ⟨n, ao, len, cap, ws, he, hW, hl, hL, hc, rfl⟩ := h.1;unfold av at he;have : p.1 = n := by injection he with he; simp at he; exact he.1
 rw [this];exact zi_neg_iff hx
def turnT (R : List Hd) (i : Nat) : List Hd := if h : i < R.length then turnR R i h else R
def swapT (R : List Hd) (i j : Nat) : List Hd := if h : i < R.length /\ j < R.length then swapR R i j h.1 h.2 else R
theorem turnT_eq {R : List Hd} {i : Nat} (hi : i < R.length) : turnT R i = turnR R i hi := by unfold turnT; rw [dif_pos hi]
theorem swapT_eq {R : List Hd} {i j : Nat} (hi : i < R.length) (hj : j < R.length) : swapT R i j = swapR R i j hi hj := by unfold swapT; rw [dif_pos ⟨hi, hj⟩]
theorem turnT_length (R : List Hd) (i : Nat) : (turnT R i).length = R.length := by
 unfold turnT; split
 · unfold turnR; rw [setXs_length]
 · rfl
theorem swapT_length (R : List Hd) (i j : Nat) : (swapT R i j).length = R.length := by
 unfold swapT; split
 · exact swapR_length ..
 · rfl
theorem mixT_length (R : List Hd) (i j : Nat) (a b c d : Int) : (mixT R i j a b c d).length = R.length := by
 unfold mixT; split
 · unfold mixR; rw [setXs_length, setXs_length]
 · rfl
theorem meetT_length (R : List Hd) (k n j : Nat) : (meetT R k n j).length = R.length := by
 unfold meetT meetA; split
 · exact addT_length ..
 · rw [mixT_length]; exact addT_length ..
def swapsT (at_ : Nat) : Nat -> List Hd -> List Hd
 | 0, R => R
 | i + 1, R => if i + 1 <= at_ then R else swapsT at_ i (swapT R (i + 1) i)
inductive PutT (B c n : Nat) : Nat -> Int -> List Hd -> Bool -> List Hd -> Prop
 | zero {at_ : Nat} {last : Int} {R R' : List Hd} (hF : Fit B c R) (h : leadOf R n = c ∨ (leadOf R n : Int) <= last) (hs : SOut B c (leadsOf R n) n n R R') : PutT B c n at_ last R false R'
 | stop {at_ : Nat} {last : Int} {R R' : List Hd} (hF : Fit B c R) (h1 : leadOf R n < c) (h2 : last < leadOf R n) (a : Nat) (ha : at_ <= a) (hn : a <= n) (hlt : ∀ i, at_ <= i -> i < a -> leadOf R i < leadOf R n) (hb : a = n ∨ leadOf R n < leadOf R a)
  (hF2 : Fit B c (swapsT a n (if ent R n (leadOf R n) < 0 then turnT R n else R)))
  (hs : SOut B c (leadsOf (swapsT a n (if ent R n (leadOf R n) < 0 then turnT R n else R)) (n + 1)) (n + 1) (n + 1) (swapsT a n (if ent R n (leadOf R n) < 0 then turnT R n else R)) R') : PutT B c n at_ last R true R'
 | meet {at_ : Nat} {last : Int} {R R' : List Hd} {b : Bool} (hF : Fit B c R) (h1 : leadOf R n < c) (h2 : last < leadOf R n) (a : Nat) (ha : at_ <= a) (hn : a < n) (hlt : ∀ i, at_ <= i -> i < a -> leadOf R i < leadOf R n) (hj : leadOf R a = leadOf R n)
  (hp : ent R a (leadOf R n) ≠ 0) (hF1 : Fit B c (meetA R a n (leadOf R n))) (hp1 : ent (meetA R a n (leadOf R n)) a (leadOf R n) ≠ 0)
  (hs : PutT B c n a (leadOf R n) (meetT R a n (leadOf R n)) b R') : PutT B c n at_ last R b R'
theorem own_turnT (S : LSt) (i k : Nat) : (S.withR (turnT S.R i)).own k ↔ S.own k := by
 unfold turnT; split
 · exact own_setXs S i _ k
 · exact Iff.rfl
theorem own_addT (S : LSt) (i j : Nat) (x : Int) (k : Nat) : (S.withR (addT S.R i j x)).own k ↔ S.own k := by
 unfold addT; split
 · exact own_setXs S i _ k
 · exact Iff.rfl
theorem own_mixT (S : LSt) (i j : Nat) (a b c d : Int) (k : Nat) : (S.withR (mixT S.R i j a b c d)).own k ↔ S.own k := by
 unfold mixT; split
 · exact (own_setXs (S.withR (setXs S.R i _)) j _ k).trans (own_setXs S i _ k)
 · exact Iff.rfl
theorem own_meetT (S : LSt) (a n j k : Nat) : (S.withR (meetT S.R a n j)).own k ↔ S.own k := by
 unfold meetT meetA; split
 · exact own_addT S n a _ k
 · exact (own_mixT (S.withR (addT S.R n a _)) a n _ _ _ _ k).trans (own_addT S n a _ k)
theorem own_swapT (S : LSt) (i j k : Nat) : (S.withR (swapT S.R i j)).own k ↔ S.own k := by
 unfold swapT; split
 · rename_i h;exact or_congr (rws_blk (fun b => swapR_blk h.1 h.2 b) k) Iff.rfl
 · exact Iff.rfl
set_option maxRecDepth 100000 in
set_option maxHeartbeats 8000000 in
theorem Put_c (S : LSt) (n B c : Nat) (res : Bool) (R' : List Hd) (w : World) (h : LadAt w S) (hn : n < S.R.length) (hB : B <= 4000000000000) (hP : PutT B c n 0 (-1) S.R res R') (hR : S.R.length <= 100000) (hc : c <= 1000000) (hT : S.sat B c) :
 Calls Tryz.prog 51 #[.pointer (some ⟨S.lb, 0, none⟩), .int .i64 (n : Int)] w fun e w' => e = .returned (.bool res) /\ LadAt w' (S.withR R') /\ Chg S.own w w' := by
 have HT := Lib.hid hT; clear hT;have HL := Lib.hid h; clear h;have HP := Lib.hid hP; clear hP;go_enter Tryz.func51, Tryz.ntmps51;go_wp2;go_loopw [5, 6] (fun a_ l_ wr => ∃ (at_ : Nat) (last : Int) (R : List Hd), at_ <= n /\ (-1 <= last /\ last <= (c : Int)) /\ a_ = .int .i64 (at_ : Int) /\ l_ = .int .i64 last /\ Hid (R.length = S.R.length) /\ Hid (PutT B c n at_ last R res R') /\ Hid (LadAt wr (S.withR R)) /\ Hid (Chg S.own w wr) /\ Hid (∀ k, (S.withR R).own k ↔ S.own k)) (fun _ l_ _ => ((c : Int) - intOf l_).toNat)
 case atStart => exact ⟨0, -1, S.R, Nat.zero_le _, ⟨by omega, by omega⟩, rfl, rfl, rfl, HP, HL, Chg.refl .., fun _ => Iff.rfl⟩
 case round =>
  obtain ⟨at_, last, R, hat, ⟨hl1, hl2⟩, rfl, rfl, hRl, hPt, hL, hC, hO⟩ := hrel;have hnR : n < R.length := by have := hRl.out; omega
  have hF : Hid (Fit B c R) := by
   have := hPt.out;cases this with
   | zero hF _ _ => exact hF
   | stop hF _ _ _ _ _ _ _ _ _ => exact hF
   | meet hF _ _ _ _ _ _ _ _ _ _ _ => exact hF
  have hcn : R[n].xs.length = c := hF.out.len _ (List.getElem_mem hnR);have hlead : leadOf R n = lead R[n].xs := leadOf_eq hnR;have hle := lead_le R[n].xs;have hn1 : (n : Int) < (R.length : Int) := by omega
  have cb : wr.cell? ⟨S.lb, 0, none⟩ = some (.slice (some ⟨S.o, 0, none⟩) R.length S.cap) := hL.out.lad.cell 0;have cn : wr.cell? ⟨S.o, n, none⟩ = some (.slice (some ⟨R[n].blk, 0, none⟩) R[n].xs.length R[n].cap) := hL.out.mat.hdr (i := n) hnR;rw [hcn] at cn hle;have Hcn := Lib.hid hcn; clear hcn;have Hlead := Lib.hid hlead; clear hlead;go_wp2_with fail
  have hLd := Lead_c R[n].blk R[n].cap R[n].xs wr (hL.out.mat.row _ (List.getElem_mem (l := R) hnR)) (fun x hx => by have := hF.out.fit _ (List.getElem_mem hnR) x hx; omega) (by rw [Hcn.out]; omega);rw [Hcn.out] at hLd;refine hLd.mono ?_;rintro e w2 ⟨rfl, hb2⟩;have L2 := Lib.hid (hL.out.below hb2);have C2 := Lib.hid (hC.out.below hb2);clear hLd hL hC hb2 cb cn;have cb : w2.cell? ⟨S.lb, 0, none⟩ = some (.slice (some ⟨S.o, 0, none⟩) R.length S.cap) := L2.out.lad.cell 0;have cn : w2.cell? ⟨S.o, n, none⟩ = some (.slice (some ⟨R[n].blk, 0, none⟩) R[n].xs.length R[n].cap) := L2.out.mat.hdr (i := n) hnR;rw [Hcn.out] at cn;obtain ⟨jj, hjj⟩ : ∃ jj, lead R[n].xs = jj := ⟨_, rfl⟩;rw [hjj] at hle ⊢;have hPj := hPt.out;have hld := Hlead.out;rw [hjj] at hld;have Hld := Lib.hid hld; clear hld;by_cases hz : jj = c ∨ (jj : Int) <= last
  · have hfin : res = false /\ SOut B c (leadsOf R n) n n R R' := by
     cases hPj with
     | zero _ _ hs => exact ⟨rfl, hs⟩
     | stop _ h1 h2 _ _ _ _ _ _ _ => rw [Hld.out] at h1 h2; omega
     | meet _ h1 h2 _ _ _ _ _ _ _ _ _ => rw [Hld.out] at h1 h2; omega
    obtain ⟨rfl, hs⟩ := hfin;have HSO := Lib.hid hs; clear hs;clear hPj hPt;by_cases hz1 : jj = c
    · have hz2 : ((jj : Int) == (c : Int)) = true := by rw [hz1]; simp
      obtain ⟨j2, hj2⟩ : ∃ j2, j2 = jj := ⟨_, rfl⟩;have hz3 : (jj : Int) = (c : Int) := by omega
      have Hz1 := Lib.hid hz1;clear hz hz1 hz2 hj2;go_wp2_with fail
      refine (Settle_c (S.withR R) n B c R' _ L2.out (Nat.le_of_lt hnR) (by omega) hF.out HSO.out (by show R.length <= 1000000; have := hRl.out; omega) hc HT.out).mono ?_;rintro e w3 ⟨rfl, hL3, hC3⟩;have CF := Lib.hid (C2.out.trans (hC3.mono (fun q _ e => (hO.out q).1 e)));have LF := Lib.hid hL3;clear hL3 hC3;go_wp2;go_ret;exact ⟨rfl, LF.out, CF.out⟩
    · have hz3 : ¬ (jj : Int) = (c : Int) := by omega
      have hz2 : ((jj : Int) == (c : Int)) = false := beq_eq_false_iff_ne.2 hz3;have hz4 : (jj : Int) <= last := by omega
      have Hz1 := Lib.hid hz1;clear hz hz1;go_wp2_with fail
      refine (Settle_c (S.withR R) n B c R' _ L2.out (Nat.le_of_lt hnR) (by omega) hF.out HSO.out (by show R.length <= 1000000; have := hRl.out; omega) hc HT.out).mono ?_;rintro e w3 ⟨rfl, hL3, hC3⟩;have CF := Lib.hid (C2.out.trans (hC3.mono (fun q _ e => (hO.out q).1 e)));have LF := Lib.hid hL3;clear hL3 hC3;go_wp2;go_ret;exact ⟨rfl, LF.out, CF.out⟩
  · have hz3 : ¬ (jj : Int) = (c : Int) := by omega
    have hz2 : ((jj : Int) == (c : Int)) = false := beq_eq_false_iff_ne.2 hz3;have hz4 : ¬ (jj : Int) <= last := by omega
    have hjc : jj < c := by omega
    have hjl : last < (jj : Int) := by omega
    have Hjj := Lib.hid hjj; clear hjj;clear hz hPj;go_wp2;clear hz2 hz3 hz4 cb cn;go_loopw [5] (fun a_ wq => ∃ a : Nat, at_ <= a /\ a <= n /\ a_ = .int .i64 (a : Int) /\ Hid (∀ i, at_ <= i -> i < a -> leadOf R i < jj) /\ Hid (LadAt wq (S.withR R)) /\ Hid (Chg S.own w wq)) (fun a_ _ => n - (intOf a_).toNat)
    case atStart => exact ⟨at_, Nat.le_refl _, hat, rfl, fun i h1 h2 => by omega, L2, C2⟩
    case round =>
     obtain ⟨a, ha1, ha2, rfl, hlt, hLq, hCq⟩ := hrel;by_cases han : a < n
     · have haR : a < R.length := by omega
       have han1 : (a : Int) < (n : Int) := by omega
       have haR1 : (a : Int) < (R.length : Int) := by omega
       have cb : wr.cell? ⟨S.lb, 0, none⟩ = some (.slice (some ⟨S.o, 0, none⟩) R.length S.cap) := hLq.out.lad.cell 0;have ca : wr.cell? ⟨S.o, a, none⟩ = some (.slice (some ⟨R[a].blk, 0, none⟩) R[a].xs.length R[a].cap) := hLq.out.mat.hdr (i := a) haR;go_wp2_with fail
       refine (Lead_c R[a].blk R[a].cap R[a].xs _ (hLq.out.mat.row _ (List.getElem_mem (l := R) haR)) (fun x hx => by have := hF.out.fit _ (List.getElem_mem haR) x hx; omega) (by rw [hF.out.len _ (List.getElem_mem haR)]; omega)).mono ?_;rintro e w3 ⟨rfl, hb3⟩;have L3 := Lib.hid (hLq.out.below hb3);have C3 := Lib.hid (hCq.out.below hb3);clear hLq hCq hb3 cb ca;obtain ⟨la, hla⟩ : ∃ la, lead R[a].xs = la := ⟨_, rfl⟩;have hla2 : leadOf R a = la := (leadOf_eq haR).trans hla;rw [hla];have Hla := Lib.hid hla2; clear hla hla2;by_cases hlj : la < jj
       · have hlj1 : (la : Int) < (jj : Int) := by omega
         go_wp2;go_roundw
         case rel => exact ⟨a + 1, by omega, by omega, by go_num, Lib.hid (fun i h1 h2 => (Nat.lt_succ_iff_lt_or_eq.1 h2).elim (fun h => hlt.out i h1 h) (fun h => by subst h; rw [Hla.out]; exact hlj)), L3, C3⟩
         case measure => simp [intOf]; omega
       · have hlj1 : ¬ (la : Int) < (jj : Int) := by omega
         have haR2 : (a : Int) < (R.length : Int) := by omega
         have cb : w3.cell? ⟨S.lb, 0, none⟩ = some (.slice (some ⟨S.o, 0, none⟩) R.length S.cap) := L3.out.lad.cell 0;have ca : w3.cell? ⟨S.o, a, none⟩ = some (.slice (some ⟨R[a].blk, 0, none⟩) R[a].xs.length R[a].cap) := L3.out.mat.hdr (i := a) haR;have hanb : ((a : Int) == (n : Int)) = false := beq_eq_false_iff_ne.2 (by omega);have hane : ¬ (a : Int) = (n : Int) := by omega
         go_wp2_with fail
         refine (Lead_c R[a].blk R[a].cap R[a].xs _ (L3.out.mat.row _ (List.getElem_mem (l := R) haR)) (fun x hx => by have := hF.out.fit _ (List.getElem_mem haR) x hx; omega) (by rw [hF.out.len _ (List.getElem_mem haR)]; omega)).mono ?_;rintro e w4 ⟨rfl, hb4⟩;have L4 := Lib.hid (L3.out.below hb4);have C4 := Lib.hid (C3.out.below hb4);clear L3 C3 hb4 cb ca;have hla3 : lead R[a].xs = la := (leadOf_eq haR).symm.trans Hla.out;rw [hla3];clear hla3;by_cases hlaj : la = jj
         · have hcase : ent R a jj ≠ 0 /\ Fit B c (meetA R a n jj) /\ ent (meetA R a n jj) a jj ≠ 0 /\ PutT B c n a (jj : Int) (meetT R a n jj) res R' := by
            have hPj := hPt.out;have hx := hlt.out;have hl := Hla.out;have hd := Hld.out;cases hPj with
            | zero _ h _ => rw [hd] at h; omega
            | stop _ h1 h2 a' ha' hn' hlt' hb' _ _ =>
             rw [hd] at hlt' hb';rcases Nat.lt_trichotomy a' a with h | h | h
             · have := hx a' ha' h; omega
             · subst h; omega
             · have := hlt' a ha1 h; omega
            | meet _ h1 h2 a' ha' hn' hlt' hj' hp hF1 hp1 hs =>
             rw [hd] at hlt' hj' hp hF1 hp1 hs;have haa : a' = a := by
              rcases Nat.lt_trichotomy a' a with h | h | h
              · have := hx a' ha' h; omega
              · exact h
              · have := hlt' a ha1 h; omega
             subst haa;exact ⟨hp, hF1, hp1, hs⟩
           obtain ⟨m1, m2, m3, m4⟩ := hcase;have M4 := Lib.hid m4; clear m4;have hlb : ((la : Int) != (jj : Int)) = false := by rw [hlaj]; simp
           have hle2 : (la : Int) = (jj : Int) := by omega
           have Hlaj := Lib.hid hlaj; clear hlaj;have hmt := Meet_c (S.withR R) a n jj B c w4 L4.out haR hnR (by omega) hjc hB hF.out m2 m1 m3 (by show R.length <= 1000000; have := hRl.out; omega) hc HT.out;have HMt := Lib.hid hmt;clear m1 m2 m3 hmt;go_wp2_with fail
           refine HMt.out.mono ?_;rintro e w5 ⟨rfl, hL5, hC5⟩;have L5 := Lib.hid hL5;have C5 := Lib.hid (C4.out.trans (hC5.mono (fun q _ e => (hO.out q).1 e)));clear hL5 hC5 hlb hle2 hanb hane;go_wp2;go_roundw
           case rel => exact ⟨a, (jj : Int), meetT R a n jj, by omega, ⟨by omega, by omega⟩, by go_num, by go_num, Lib.hid ((meetT_length ..).trans hRl.out), M4, L5, C5, Lib.hid (fun q => (own_meetT (S.withR R) a n jj q).trans (hO.out q))⟩
           case measure =>
            simp only [intOf];omega
         · have hbr : a = n ∨ jj < leadOf R a := by have := Hla.out; omega
           have Hbr := Lib.hid hbr; clear hbr;have hlb : ((la : Int) != (jj : Int)) = true := by rw [bne_iff_ne]; omega
           have hle2 : ¬ (la : Int) = (jj : Int) := by omega
           clear hlaj;have hstop : res = true /\ Fit B c (swapsT a n (if ent R n jj < 0 then turnT R n else R)) /\ SOut B c (leadsOf (swapsT a n (if ent R n jj < 0 then turnT R n else R)) (n + 1)) (n + 1) (n + 1) (swapsT a n (if ent R n jj < 0 then turnT R n else R)) R' := by
            have hPj := hPt.out;have hx := hlt.out;have hd := Hld.out;have hbr := Hbr.out;cases hPj with
            | zero _ h _ => rw [hd] at h; omega
            | stop _ h1 h2 a' ha' hn' hlt' hb' hF2 hs =>
             rw [hd] at hlt' hb' hF2 hs;have haa : a' = a := by
              rcases Nat.lt_trichotomy a' a with h | h | h
              · have := hx a' ha' h; omega
              · exact h
              · have := hlt' a ha1 h; omega
             subst haa;exact ⟨rfl, hF2, hs⟩
            | meet _ h1 h2 a' ha' hn' hlt' hj' hp hF1 hp1 hs =>
             rw [hd] at hlt' hj';rcases Nat.lt_trichotomy a' a with h | h | h
             · have := hx a' ha' h; omega
             · subst h; omega
             · have := hlt' a ha1 h; omega
           obtain ⟨rfl, hF2, hs2⟩ := hstop;have HF2 := Lib.hid hF2; clear hF2;have HS2 := Lib.hid hs2; clear hs2;have hXn := L4.out.mat.row _ (List.getElem_mem (l := R) hnR);have hjn : jj < R[n].xs.length := by rw [Hcn.out]; exact hjc
           obtain ⟨pn, cp0, cp1, hpn⟩ := hXn.get hjn;have hx0 : R[n].xs[jj] ≠ 0 := lead_ne Hjj.out hjn;have hsg := hpn.sign hx0;have heN := ent_eq hnR hjn;have HXn := Lib.hid hXn; clear hXn;have Hsg := Lib.hid hsg; clear hsg;have HeN := Lib.hid heN; clear heN;clear hpn hx0;have cb : w4.cell? ⟨S.lb, 0, none⟩ = some (.slice (some ⟨S.o, 0, none⟩) R.length S.cap) := L4.out.lad.cell 0;have cn : w4.cell? ⟨S.o, n, none⟩ = some (.slice (some ⟨R[n].blk, 0, none⟩) R[n].xs.length R[n].cap) := L4.out.mat.hdr (i := n) hnR;have sb1 := HXn.out.lt;have sb3 : S.lb < w4.heap.size := L4.out.lad.lt;have sb4 : S.o < w4.heap.size := L4.out.mat.out.lt;have hjn1 : (jj : Int) < (R[n].xs.length : Int) := by omega
           go_wp2;refine wp_region_J ⟨18, fun q_ => [73, 74, 75, 76, 77, 78, 79, 80, 81, 82, 83, 84, 85, 86, 87, 88, 89, 90].getD q_ 0,
            fun q_ => [.val (.pointer (some ⟨S.lb, 0, none⟩)), .val (.pointer (some ⟨S.lb, 0, none⟩)), .val (.pointer (some ⟨S.lb, 0, none⟩)), .val (.slice (some ⟨S.o, 0, none⟩) R.length S.cap), .val (.int .i64 (n : Int)), .val (.pointer (some ⟨S.o, n, none⟩)), .val (.slice (some ⟨R[n].blk, 0, none⟩) R[n].xs.length R[n].cap), .val (.pointer (some ⟨S.lb, 0, none⟩)), .val (.pointer (some ⟨S.lb, 0, none⟩)), .val (.pointer (some ⟨S.lb, 0, none⟩)), .val (.slice (some ⟨S.o, 0, none⟩) R.length S.cap), .val (.int .i64 (n : Int)), .val (.pointer (some ⟨S.o, n, none⟩)), .val (.slice (some ⟨R[n].blk, 0, none⟩) R[n].xs.length R[n].cap), .val (.int .i64 (jj : Int)), .val (.pointer (some ⟨R[n].blk, jj * 2, none⟩)), .val (.pointer (some ⟨R[n].blk, jj * 2, none⟩)), .val (.bool pn.1)].getD q_ .any,
            [],
            [],
            [],
            [], [(⟨S.lb, 0, none⟩, .slice (some ⟨S.o, 0, none⟩) R.length S.cap), (⟨S.o, n, none⟩, .slice (some ⟨R[n].blk, 0, none⟩) R[n].xs.length R[n].cap), (⟨R[n].blk, jj * 2, none⟩, .bool pn.1)], []⟩ [73, 74, 75, 76, 77, 78, 79, 80, 81, 82, 83, 84, 85, 86, 87, 88, 89, 90] (w4.heap.size) (by kernel_rfl) (by kernel_rfl) (by kernel_rfl) (by kernel_rfl) ?_ ?_ ?_ ?_ ?_ ?_
           · intro p hp;cases hp
           · intro p hp;cases hp
           · intro p hp;rcases mc hp with rfl | hp
             · refine ⟨cb, by show S.lb < w4.heap.size; omega, ?_⟩;intro t ht;cases ht
             rcases mc hp with rfl | hp
             · refine ⟨cn, by show S.o < w4.heap.size; omega, ?_⟩;intro t ht;cases ht
             rcases mc hp with rfl | hp
             · refine ⟨cp0, by show R[n].blk < w4.heap.size; omega, ?_⟩;intro t ht;cases ht
             cases hp
           · intro t ht;cases ht
           · refine allc ?_ (allc ?_ (allc ?_ (allc ?_ (allc ?_ (allc ?_ (allc ?_ (allc ?_ (allc ?_ (allc ?_ (allc ?_ (allc ?_ (allc ?_ (allc ?_ (allc ?_ (allc ?_ (allc ?_ (allc ?_ alln)))))))))))))))));any_goals (first | (intro L fx w' hJ hL hp hcl; have _ := hp0 hp (by decide +kernel); refine wps rfl fun K hK => ?_; go_simp; exact hJ.q hK (by kernel_rfl) rfl) | fail)
             · intro L fx w' hJ hL hp hcl;have e0 := hJ.pt 0 73 (.pointer (some ⟨S.lb, 0, none⟩)) rfl rfl rfl (hp 0 (by decide));rw [e0] at hJ ⊢; clear e0;refine wps rfl fun K hK => ?_;go_simp;exact hJ.q hK (by kernel_rfl) rfl
             · intro L fx w' hJ hL hp hcl;have e1 := hJ.pt 1 74 (.pointer (some ⟨S.lb, 0, none⟩)) rfl rfl rfl (hp 1 (by decide));rw [e1] at hJ ⊢; clear e1;refine wps rfl fun K hK => ?_;go_simp;exact hJ.q hK (by kernel_rfl) rfl
             · intro L fx w' hJ hL hp hcl;have e2 := hJ.pt 2 75 (.pointer (some ⟨S.lb, 0, none⟩)) rfl rfl rfl (hp 2 (by decide));rw [e2] at hJ ⊢; clear e2;refine wps rfl fun K hK => ?_;have cl0 := (hJ.cells _ mm0).1;try dsimp only at cl0
               go_simp;exact hJ.q hK (by kernel_rfl) rfl
             · intro L fx w' hJ hL hp hcl;have e3 := hJ.pt 3 76 (.slice (some ⟨S.o, 0, none⟩) R.length S.cap) rfl rfl rfl (hp 3 (by decide));rw [e3] at hJ ⊢; clear e3;have e4 := hJ.pt 4 77 (.int .i64 (n : Int)) rfl rfl rfl (hp 4 (by decide));rw [e4] at hJ ⊢; clear e4;refine wps rfl fun K hK => ?_;go_simp;exact hJ.q hK (by kernel_rfl) rfl
             · intro L fx w' hJ hL hp hcl;have e5 := hJ.pt 5 78 (.pointer (some ⟨S.o, n, none⟩)) rfl rfl rfl (hp 5 (by decide));rw [e5] at hJ ⊢; clear e5;refine wps rfl fun K hK => ?_;have cl0 := (hJ.cells _ mm1).1;try dsimp only at cl0
               go_simp;exact hJ.q hK (by kernel_rfl) rfl
             · intro L fx w' hJ hL hp hcl;have e7 := hJ.pt 7 80 (.pointer (some ⟨S.lb, 0, none⟩)) rfl rfl rfl (hp 7 (by decide));rw [e7] at hJ ⊢; clear e7;refine wps rfl fun K hK => ?_;go_simp;exact hJ.q hK (by kernel_rfl) rfl
             · intro L fx w' hJ hL hp hcl;have e8 := hJ.pt 8 81 (.pointer (some ⟨S.lb, 0, none⟩)) rfl rfl rfl (hp 8 (by decide));rw [e8] at hJ ⊢; clear e8;refine wps rfl fun K hK => ?_;go_simp;exact hJ.q hK (by kernel_rfl) rfl
             · intro L fx w' hJ hL hp hcl;have e9 := hJ.pt 9 82 (.pointer (some ⟨S.lb, 0, none⟩)) rfl rfl rfl (hp 9 (by decide));rw [e9] at hJ ⊢; clear e9;refine wps rfl fun K hK => ?_;have cl0 := (hJ.cells _ mm0).1;try dsimp only at cl0
               go_simp;exact hJ.q hK (by kernel_rfl) rfl
             · intro L fx w' hJ hL hp hcl;have e10 := hJ.pt 10 83 (.slice (some ⟨S.o, 0, none⟩) R.length S.cap) rfl rfl rfl (hp 10 (by decide));rw [e10] at hJ ⊢; clear e10;have e11 := hJ.pt 11 84 (.int .i64 (n : Int)) rfl rfl rfl (hp 11 (by decide));rw [e11] at hJ ⊢; clear e11;refine wps rfl fun K hK => ?_;go_simp;exact hJ.q hK (by kernel_rfl) rfl
             · intro L fx w' hJ hL hp hcl;have e12 := hJ.pt 12 85 (.pointer (some ⟨S.o, n, none⟩)) rfl rfl rfl (hp 12 (by decide));rw [e12] at hJ ⊢; clear e12;refine wps rfl fun K hK => ?_;have cl0 := (hJ.cells _ mm1).1;try dsimp only at cl0
               go_simp;exact hJ.q hK (by kernel_rfl) rfl
             · intro L fx w' hJ hL hp hcl;have e13 := hJ.pt 13 86 (.slice (some ⟨R[n].blk, 0, none⟩) R[n].xs.length R[n].cap) rfl rfl rfl (hp 13 (by decide));rw [e13] at hJ ⊢; clear e13;refine wps rfl fun K hK => ?_;go_simp;go_at_call 19;refine (Lead_c R[n].blk R[n].cap R[n].xs _ (RowN.below (w := w4.drew) HXn.out hJ.fr) (fun x hx => by have := hF.out.fit _ (List.getElem_mem hnR) x hx; omega) (by rw [Hcn.out]; omega)).mono ?_;rintro e w4 ⟨rfl, hb4⟩;try dsimp only
               rw [Hjj.out];exact hK _ _ ⟨_, by kernel_rfl, hJ.gC 14 rfl (by kernel_rfl) hb4 rfl (by omega)⟩
             · intro L fx w' hJ hL hp hcl;have e6 := hJ.pt 6 79 (.slice (some ⟨R[n].blk, 0, none⟩) R[n].xs.length R[n].cap) rfl rfl rfl (hp 6 (by decide));rw [e6] at hJ ⊢; clear e6;have e14 := hJ.pt 14 87 (.int .i64 (jj : Int)) rfl rfl rfl (hp 14 (by decide));rw [e14] at hJ ⊢; clear e14;refine wps rfl fun K hK => ?_;go_simp;exact hJ.q hK (by kernel_rfl) rfl
             · intro L fx w' hJ hL hp hcl;have e15 := hJ.pt 15 88 (.pointer (some ⟨R[n].blk, jj * 2, none⟩)) rfl rfl rfl (hp 15 (by decide));rw [e15] at hJ ⊢; clear e15;refine wps rfl fun K hK => ?_;go_simp;exact hJ.q hK (by kernel_rfl) rfl
             · intro L fx w' hJ hL hp hcl;have e16 := hJ.pt 16 89 (.pointer (some ⟨R[n].blk, jj * 2, none⟩)) rfl rfl rfl (hp 16 (by decide));rw [e16] at hJ ⊢; clear e16;refine wps rfl fun K hK => ?_;have cl0 := (hJ.cells _ mm2).1;try dsimp only at cl0
               go_simp;exact hJ.q hK (by kernel_rfl) rfl
           · intro L' x1 w7 hL hJ;have hfr : Below w4.drew.heap.size w4.drew w7 := hJ.fr;have e17 : x1 90 = .bool pn.1 := hJ.slot 17 (by show 17 < 18; decide) (hL 17 (by show 17 < 18; decide));rw [patchX (x := x1) (d := 90) (v := .bool pn.1) e17];clear hJ hL e17 cb cn cp0 cp1;have L7 := Lib.hid (LadAt.below (w := w4.drew) L4.out.drew hfr);have C7 := Lib.hid (C4.out.drew.below hfr);clear hfr;simp only [pN, Nat.reduceEqDiff, ↓reduceIte];cases hneg : pn.1
             · have hif : (if ent R n jj < 0 then turnT R n else R) = R := if_neg (by
                have := Hsg.out; rw [hneg] at this; rw [HeN.out]; simpa using this.symm)
               have HRF := Lib.hid HF2.out; have HSF := Lib.hid HS2.out;rw [hif] at HRF HSF;clear hif;obtain ⟨RF, hRF⟩ : ∃ RF, swapsT a n R = RF := ⟨_, rfl⟩;rw [hRF] at HRF HSF;have HRFe := Lib.hid hRF; clear hRF;go_wp2;go_loopw [8] (fun i_ wq => ∃ (i : Nat) (R8 : List Hd), i <= n /\ a <= i /\ i_ = .int .i64 (i : Int) /\ Hid (swapsT a i R8 = RF) /\ Hid (R8.length = S.R.length) /\ Hid (LadAt wq (S.withR R8)) /\ Hid (Chg S.own w wq) /\ Hid (∀ k, (S.withR R8).own k ↔ S.own k)) (fun i_ _ => (intOf i_).toNat)
               case atStart => exact ⟨n, R, Nat.le_refl _, ha2, rfl, HRFe, hRl, L7, C7, hO⟩
               case round =>
                obtain ⟨i, R8, hin, hai, rfl, hSw, hR8, hL8, hC8, hO8⟩ := hrel;by_cases hia : a < i
                · obtain ⟨i', rfl⟩ : ∃ i', i = i' + 1 := ⟨i - 1, by omega⟩;have hi8 : i' + 1 < R8.length := by have := hR8.out; have := hRl.out; omega
                  have hi8' : i' < R8.length := by omega
                  have hia1 : (a : Int) < ((i' + 1 : Nat) : Int) := by omega
                  have hcast : ((i' + 1 : Nat) : Int) - 1 = (i' : Int) := by omega
                  have hms := MSwap_c (S.withR R8) (i' + 1) i' wr hL8.out hi8 hi8' (by omega) (HT.out.good R8);have HMs := Lib.hid hms; clear hms;have hcast2 : ((i' + 1 : Nat) : Int) = (i' : Int) + 1 := by omega
                  rw [hcast2] at hia1 hcast HMs ⊢;clear hcast2;have hia2 : (a : Int) < (i' : Int) + 1 := hia1;have hcast3 : (i' : Int) + 1 - 1 = (i' : Int) := by omega
                  go_wp2_with fail
                  refine HMs.out.mono ?_;rintro e w9 ⟨rfl, hL9, hC9⟩;have L9 := Lib.hid hL9;have C9 := Lib.hid (hC8.out.trans (hC9.mono (fun q _ e => (hO8.out q).1 e)));clear hL9 hC9;go_wp2;go_roundw
                  case rel =>
                   refine ⟨i', swapT R8 (i' + 1) i', by omega, by omega, by go_num, ?_, Lib.hid ((swapT_length ..).trans hR8.out), ?_, C9, Lib.hid (fun q => (own_swapT (S.withR R8) (i' + 1) i' q).trans (hO8.out q))⟩
                   · have := hSw.out;unfold swapsT at this;rw [if_neg (by omega)] at this;exact this
                   · rw [swapT_eq hi8 hi8']; exact L9
                  case measure => simp only [intOf]; omega
                · obtain rfl : i = a := by omega
                  have hR8F : R8 = RF := by
                   have := hSw.out;cases i with
                   | zero => exact this
                   | succ q => unfold swapsT at this; rw [if_pos (Nat.le_refl _)] at this; exact this
                  subst hR8F;have hset := Settle_c (S.withR R8) (n + 1) B c R' wr hL8.out (by show n + 1 <= R8.length; have := hR8.out; omega) (by omega) HRF.out HSF.out (by show R8.length <= 1000000; have := hR8.out; omega) hc HT.out;have HSet := Lib.hid hset; clear hset;have hcn1 : ((n + 1 : Nat) : Int) = (n : Int) + 1 := by omega
                  rw [hcn1] at HSet;clear hcn1;have hgt : ¬ (i : Int) > (i : Int) := by omega
                  go_wp2_with fail
                  refine HSet.out.mono ?_;rintro e w9 ⟨rfl, hL9, hC9⟩;have L9 := Lib.hid hL9;have C9 := Lib.hid (hC8.out.trans (hC9.mono (fun q _ e => (hO8.out q).1 e)));clear hL9 hC9;go_wp2;go_ret;exact ⟨rfl, L9.out, C9.out⟩
             · have hif : (if ent R n jj < 0 then turnT R n else R) = turnT R n := if_pos (by
                have := Hsg.out; rw [hneg] at this; rw [HeN.out]; simpa using this.symm)
               have hlenN : R[n].xs.length <= 4611686018427387903 := by rw [Hcn.out]; omega
               have hmt := MTurn_c (S.withR R) n w7 L7.out hnR (fun x hx => by have := hF.out.fit _ (List.getElem_mem hnR) x hx; omega) hlenN (HT.out.good R) (HT.out.okR hF.out);have HMt := Lib.hid hmt; clear hmt;go_wp2_with fail
               refine HMt.out.mono ?_;rintro e w8 ⟨rfl, hL8, hC8⟩;have C8 := Lib.hid (C7.out.trans (hC8.mono (fun q _ e => (hO.out q).1 e)));have L8 : Hid (LadAt w8 (S.withR (turnT R n))) := by rw [turnT_eq hnR]; exact hL8
               have O8 : Hid (∀ k, (S.withR (turnT R n)).own k ↔ S.own k) := fun q => (own_turnT (S.withR R) n q).trans (hO.out q);have N8 : Hid ((turnT R n).length = S.R.length) := (turnT_length ..).trans hRl.out;clear hL8 hC8;have HRF := Lib.hid HF2.out; have HSF := Lib.hid HS2.out;rw [hif] at HRF HSF;clear hif;obtain ⟨RF, hRF⟩ : ∃ RF, swapsT a n (turnT R n) = RF := ⟨_, rfl⟩;rw [hRF] at HRF HSF;have HRFe := Lib.hid hRF; clear hRF;go_wp2;go_loopw [8] (fun i_ wq => ∃ (i : Nat) (R8 : List Hd), i <= n /\ a <= i /\ i_ = .int .i64 (i : Int) /\ Hid (swapsT a i R8 = RF) /\ Hid (R8.length = S.R.length) /\ Hid (LadAt wq (S.withR R8)) /\ Hid (Chg S.own w wq) /\ Hid (∀ k, (S.withR R8).own k ↔ S.own k)) (fun i_ _ => (intOf i_).toNat)
               case atStart => exact ⟨n, (turnT R n), Nat.le_refl _, ha2, rfl, HRFe, N8, L8, C8, O8⟩
               case round =>
                obtain ⟨i, R8, hin, hai, rfl, hSw, hR8, hL8, hC8, hO8⟩ := hrel;by_cases hia : a < i
                · obtain ⟨i', rfl⟩ : ∃ i', i = i' + 1 := ⟨i - 1, by omega⟩;have hi8 : i' + 1 < R8.length := by have := hR8.out; have := hRl.out; omega
                  have hi8' : i' < R8.length := by omega
                  have hia1 : (a : Int) < ((i' + 1 : Nat) : Int) := by omega
                  have hcast : ((i' + 1 : Nat) : Int) - 1 = (i' : Int) := by omega
                  have hms := MSwap_c (S.withR R8) (i' + 1) i' wr hL8.out hi8 hi8' (by omega) (HT.out.good R8);have HMs := Lib.hid hms; clear hms;have hcast2 : ((i' + 1 : Nat) : Int) = (i' : Int) + 1 := by omega
                  rw [hcast2] at hia1 hcast HMs ⊢;clear hcast2;have hia2 : (a : Int) < (i' : Int) + 1 := hia1;have hcast3 : (i' : Int) + 1 - 1 = (i' : Int) := by omega
                  go_wp2_with fail
                  refine HMs.out.mono ?_;rintro e w9 ⟨rfl, hL9, hC9⟩;have L9 := Lib.hid hL9;have C9 := Lib.hid (hC8.out.trans (hC9.mono (fun q _ e => (hO8.out q).1 e)));clear hL9 hC9;go_wp2;go_roundw
                  case rel =>
                   refine ⟨i', swapT R8 (i' + 1) i', by omega, by omega, by go_num, ?_, Lib.hid ((swapT_length ..).trans hR8.out), ?_, C9, Lib.hid (fun q => (own_swapT (S.withR R8) (i' + 1) i' q).trans (hO8.out q))⟩
                   · have := hSw.out;unfold swapsT at this;rw [if_neg (by omega)] at this;exact this
                   · rw [swapT_eq hi8 hi8']; exact L9
                  case measure => simp only [intOf]; omega
                · obtain rfl : i = a := by omega
                  have hR8F : R8 = RF := by
                   have := hSw.out;cases i with
                   | zero => exact this
                   | succ q => unfold swapsT at this; rw [if_pos (Nat.le_refl _)] at this; exact this
                  subst hR8F;have hset := Settle_c (S.withR R8) (n + 1) B c R' wr hL8.out (by show n + 1 <= R8.length; have := hR8.out; omega) (by omega) HRF.out HSF.out (by show R8.length <= 1000000; have := hR8.out; omega) hc HT.out;have HSet := Lib.hid hset; clear hset;have hcn1 : ((n + 1 : Nat) : Int) = (n : Int) + 1 := by omega
                  rw [hcn1] at HSet;clear hcn1;have hgt : ¬ (i : Int) > (i : Int) := by omega
                  go_wp2_with fail
                  refine HSet.out.mono ?_;rintro e w9 ⟨rfl, hL9, hC9⟩;have L9 := Lib.hid hL9;have C9 := Lib.hid (hC8.out.trans (hC9.mono (fun q _ e => (hO8.out q).1 e)));clear hL9 hC9;go_wp2;go_ret;exact ⟨rfl, L9.out, C9.out⟩
     · have hbr : a = n ∨ jj < leadOf R a := by omega
       have Hbr := Lib.hid hbr; clear hbr;have hnlt : ¬ (a : Int) < (n : Int) := by omega
       have hanb : ((a : Int) == (n : Int)) = true := by rw [beq_iff_eq]; omega
       have hstop : res = true /\ Fit B c (swapsT a n (if ent R n jj < 0 then turnT R n else R)) /\ SOut B c (leadsOf (swapsT a n (if ent R n jj < 0 then turnT R n else R)) (n + 1)) (n + 1) (n + 1) (swapsT a n (if ent R n jj < 0 then turnT R n else R)) R' := by
        have hPj := hPt.out;have hx := hlt.out;have hd := Hld.out;have hbr := Hbr.out;cases hPj with
        | zero _ h _ => rw [hd] at h; omega
        | stop _ h1 h2 a' ha' hn' hlt' hb' hF2 hs =>
         rw [hd] at hlt' hb' hF2 hs;have haa : a' = a := by
          rcases Nat.lt_trichotomy a' a with h | h | h
          · have := hx a' ha' h; omega
          · exact h
          · have := hlt' a ha1 h; omega
         subst haa;exact ⟨rfl, hF2, hs⟩
        | meet _ h1 h2 a' ha' hn' hlt' hj' hp hF1 hp1 hs =>
         rw [hd] at hlt' hj';rcases Nat.lt_trichotomy a' a with h | h | h
         · have := hx a' ha' h; omega
         · subst h; omega
         · have := hlt' a ha1 h; omega
       obtain ⟨rfl, hF2, hs2⟩ := hstop;have HF2 := Lib.hid hF2; clear hF2;have HS2 := Lib.hid hs2; clear hs2;have hXn := hLq.out.mat.row _ (List.getElem_mem (l := R) hnR);have hjn : jj < R[n].xs.length := by rw [Hcn.out]; exact hjc
       obtain ⟨pn, cp0, cp1, hpn⟩ := hXn.get hjn;have hx0 : R[n].xs[jj] ≠ 0 := lead_ne Hjj.out hjn;have hsg := hpn.sign hx0;have heN := ent_eq hnR hjn;have HXn := Lib.hid hXn; clear hXn;have Hsg := Lib.hid hsg; clear hsg;have HeN := Lib.hid heN; clear heN;clear hpn hx0;have cb : wr.cell? ⟨S.lb, 0, none⟩ = some (.slice (some ⟨S.o, 0, none⟩) R.length S.cap) := hLq.out.lad.cell 0;have cn : wr.cell? ⟨S.o, n, none⟩ = some (.slice (some ⟨R[n].blk, 0, none⟩) R[n].xs.length R[n].cap) := hLq.out.mat.hdr (i := n) hnR;have sb1 := HXn.out.lt;have sb3 : S.lb < wr.heap.size := hLq.out.lad.lt;have sb4 : S.o < wr.heap.size := hLq.out.mat.out.lt;have hjn1 : (jj : Int) < (R[n].xs.length : Int) := by omega
       go_wp2;refine wp_region_J ⟨18, fun q_ => [73, 74, 75, 76, 77, 78, 79, 80, 81, 82, 83, 84, 85, 86, 87, 88, 89, 90].getD q_ 0,
        fun q_ => [.val (.pointer (some ⟨S.lb, 0, none⟩)), .val (.pointer (some ⟨S.lb, 0, none⟩)), .val (.pointer (some ⟨S.lb, 0, none⟩)), .val (.slice (some ⟨S.o, 0, none⟩) R.length S.cap), .val (.int .i64 (n : Int)), .val (.pointer (some ⟨S.o, n, none⟩)), .val (.slice (some ⟨R[n].blk, 0, none⟩) R[n].xs.length R[n].cap), .val (.pointer (some ⟨S.lb, 0, none⟩)), .val (.pointer (some ⟨S.lb, 0, none⟩)), .val (.pointer (some ⟨S.lb, 0, none⟩)), .val (.slice (some ⟨S.o, 0, none⟩) R.length S.cap), .val (.int .i64 (n : Int)), .val (.pointer (some ⟨S.o, n, none⟩)), .val (.slice (some ⟨R[n].blk, 0, none⟩) R[n].xs.length R[n].cap), .val (.int .i64 (jj : Int)), .val (.pointer (some ⟨R[n].blk, jj * 2, none⟩)), .val (.pointer (some ⟨R[n].blk, jj * 2, none⟩)), .val (.bool pn.1)].getD q_ .any,
        [],
        [],
        [],
        [], [(⟨S.lb, 0, none⟩, .slice (some ⟨S.o, 0, none⟩) R.length S.cap), (⟨S.o, n, none⟩, .slice (some ⟨R[n].blk, 0, none⟩) R[n].xs.length R[n].cap), (⟨R[n].blk, jj * 2, none⟩, .bool pn.1)], []⟩ [73, 74, 75, 76, 77, 78, 79, 80, 81, 82, 83, 84, 85, 86, 87, 88, 89, 90] (wr.heap.size) (by kernel_rfl) (by kernel_rfl) (by kernel_rfl) (by kernel_rfl) ?_ ?_ ?_ ?_ ?_ ?_
       · intro p hp;cases hp
       · intro p hp;cases hp
       · intro p hp;rcases mc hp with rfl | hp
         · refine ⟨cb, by show S.lb < wr.heap.size; omega, ?_⟩;intro t ht;cases ht
         rcases mc hp with rfl | hp
         · refine ⟨cn, by show S.o < wr.heap.size; omega, ?_⟩;intro t ht;cases ht
         rcases mc hp with rfl | hp
         · refine ⟨cp0, by show R[n].blk < wr.heap.size; omega, ?_⟩;intro t ht;cases ht
         cases hp
       · intro t ht;cases ht
       · refine allc ?_ (allc ?_ (allc ?_ (allc ?_ (allc ?_ (allc ?_ (allc ?_ (allc ?_ (allc ?_ (allc ?_ (allc ?_ (allc ?_ (allc ?_ (allc ?_ (allc ?_ (allc ?_ (allc ?_ (allc ?_ alln)))))))))))))))));any_goals (first | (intro L fx w' hJ hL hp hcl; have _ := hp0 hp (by decide +kernel); refine wps rfl fun K hK => ?_; go_simp; exact hJ.q hK (by kernel_rfl) rfl) | fail)
         · intro L fx w' hJ hL hp hcl;have e0 := hJ.pt 0 73 (.pointer (some ⟨S.lb, 0, none⟩)) rfl rfl rfl (hp 0 (by decide));rw [e0] at hJ ⊢; clear e0;refine wps rfl fun K hK => ?_;go_simp;exact hJ.q hK (by kernel_rfl) rfl
         · intro L fx w' hJ hL hp hcl;have e1 := hJ.pt 1 74 (.pointer (some ⟨S.lb, 0, none⟩)) rfl rfl rfl (hp 1 (by decide));rw [e1] at hJ ⊢; clear e1;refine wps rfl fun K hK => ?_;go_simp;exact hJ.q hK (by kernel_rfl) rfl
         · intro L fx w' hJ hL hp hcl;have e2 := hJ.pt 2 75 (.pointer (some ⟨S.lb, 0, none⟩)) rfl rfl rfl (hp 2 (by decide));rw [e2] at hJ ⊢; clear e2;refine wps rfl fun K hK => ?_;have cl0 := (hJ.cells _ mm0).1;try dsimp only at cl0
           go_simp;exact hJ.q hK (by kernel_rfl) rfl
         · intro L fx w' hJ hL hp hcl;have e3 := hJ.pt 3 76 (.slice (some ⟨S.o, 0, none⟩) R.length S.cap) rfl rfl rfl (hp 3 (by decide));rw [e3] at hJ ⊢; clear e3;have e4 := hJ.pt 4 77 (.int .i64 (n : Int)) rfl rfl rfl (hp 4 (by decide));rw [e4] at hJ ⊢; clear e4;refine wps rfl fun K hK => ?_;go_simp;exact hJ.q hK (by kernel_rfl) rfl
         · intro L fx w' hJ hL hp hcl;have e5 := hJ.pt 5 78 (.pointer (some ⟨S.o, n, none⟩)) rfl rfl rfl (hp 5 (by decide));rw [e5] at hJ ⊢; clear e5;refine wps rfl fun K hK => ?_;have cl0 := (hJ.cells _ mm1).1;try dsimp only at cl0
           go_simp;exact hJ.q hK (by kernel_rfl) rfl
         · intro L fx w' hJ hL hp hcl;have e7 := hJ.pt 7 80 (.pointer (some ⟨S.lb, 0, none⟩)) rfl rfl rfl (hp 7 (by decide));rw [e7] at hJ ⊢; clear e7;refine wps rfl fun K hK => ?_;go_simp;exact hJ.q hK (by kernel_rfl) rfl
         · intro L fx w' hJ hL hp hcl;have e8 := hJ.pt 8 81 (.pointer (some ⟨S.lb, 0, none⟩)) rfl rfl rfl (hp 8 (by decide));rw [e8] at hJ ⊢; clear e8;refine wps rfl fun K hK => ?_;go_simp;exact hJ.q hK (by kernel_rfl) rfl
         · intro L fx w' hJ hL hp hcl;have e9 := hJ.pt 9 82 (.pointer (some ⟨S.lb, 0, none⟩)) rfl rfl rfl (hp 9 (by decide));rw [e9] at hJ ⊢; clear e9;refine wps rfl fun K hK => ?_;have cl0 := (hJ.cells _ mm0).1;try dsimp only at cl0
           go_simp;exact hJ.q hK (by kernel_rfl) rfl
         · intro L fx w' hJ hL hp hcl;have e10 := hJ.pt 10 83 (.slice (some ⟨S.o, 0, none⟩) R.length S.cap) rfl rfl rfl (hp 10 (by decide));rw [e10] at hJ ⊢; clear e10;have e11 := hJ.pt 11 84 (.int .i64 (n : Int)) rfl rfl rfl (hp 11 (by decide));rw [e11] at hJ ⊢; clear e11;refine wps rfl fun K hK => ?_;go_simp;exact hJ.q hK (by kernel_rfl) rfl
         · intro L fx w' hJ hL hp hcl;have e12 := hJ.pt 12 85 (.pointer (some ⟨S.o, n, none⟩)) rfl rfl rfl (hp 12 (by decide));rw [e12] at hJ ⊢; clear e12;refine wps rfl fun K hK => ?_;have cl0 := (hJ.cells _ mm1).1;try dsimp only at cl0
           go_simp;exact hJ.q hK (by kernel_rfl) rfl
         · intro L fx w' hJ hL hp hcl;have e13 := hJ.pt 13 86 (.slice (some ⟨R[n].blk, 0, none⟩) R[n].xs.length R[n].cap) rfl rfl rfl (hp 13 (by decide));rw [e13] at hJ ⊢; clear e13;refine wps rfl fun K hK => ?_;go_simp;go_at_call 19;refine (Lead_c R[n].blk R[n].cap R[n].xs _ (RowN.below (w := wr.drew) HXn.out hJ.fr) (fun x hx => by have := hF.out.fit _ (List.getElem_mem hnR) x hx; omega) (by rw [Hcn.out]; omega)).mono ?_;rintro e w4 ⟨rfl, hb4⟩;try dsimp only
           rw [Hjj.out];exact hK _ _ ⟨_, by kernel_rfl, hJ.gC 14 rfl (by kernel_rfl) hb4 rfl (by omega)⟩
         · intro L fx w' hJ hL hp hcl;have e6 := hJ.pt 6 79 (.slice (some ⟨R[n].blk, 0, none⟩) R[n].xs.length R[n].cap) rfl rfl rfl (hp 6 (by decide));rw [e6] at hJ ⊢; clear e6;have e14 := hJ.pt 14 87 (.int .i64 (jj : Int)) rfl rfl rfl (hp 14 (by decide));rw [e14] at hJ ⊢; clear e14;refine wps rfl fun K hK => ?_;go_simp;exact hJ.q hK (by kernel_rfl) rfl
         · intro L fx w' hJ hL hp hcl;have e15 := hJ.pt 15 88 (.pointer (some ⟨R[n].blk, jj * 2, none⟩)) rfl rfl rfl (hp 15 (by decide));rw [e15] at hJ ⊢; clear e15;refine wps rfl fun K hK => ?_;go_simp;exact hJ.q hK (by kernel_rfl) rfl
         · intro L fx w' hJ hL hp hcl;have e16 := hJ.pt 16 89 (.pointer (some ⟨R[n].blk, jj * 2, none⟩)) rfl rfl rfl (hp 16 (by decide));rw [e16] at hJ ⊢; clear e16;refine wps rfl fun K hK => ?_;have cl0 := (hJ.cells _ mm2).1;try dsimp only at cl0
           go_simp;exact hJ.q hK (by kernel_rfl) rfl
       · intro L' x1 w7 hL hJ;have hfr : Below wr.drew.heap.size wr.drew w7 := hJ.fr;have e17 : x1 90 = .bool pn.1 := hJ.slot 17 (by show 17 < 18; decide) (hL 17 (by show 17 < 18; decide));rw [patchX (x := x1) (d := 90) (v := .bool pn.1) e17];clear hJ hL e17 cb cn cp0 cp1;have L7 := Lib.hid (LadAt.below (w := wr.drew) hLq.out.drew hfr);have C7 := Lib.hid (hCq.out.drew.below hfr);clear hfr;simp only [pN, Nat.reduceEqDiff, ↓reduceIte];cases hneg : pn.1
         · have hif : (if ent R n jj < 0 then turnT R n else R) = R := if_neg (by
            have := Hsg.out; rw [hneg] at this; rw [HeN.out]; simpa using this.symm)
           have HRF := Lib.hid HF2.out; have HSF := Lib.hid HS2.out;rw [hif] at HRF HSF;clear hif;obtain ⟨RF, hRF⟩ : ∃ RF, swapsT a n R = RF := ⟨_, rfl⟩;rw [hRF] at HRF HSF;have HRFe := Lib.hid hRF; clear hRF;go_wp2;go_loopw [8] (fun i_ wq => ∃ (i : Nat) (R8 : List Hd), i <= n /\ a <= i /\ i_ = .int .i64 (i : Int) /\ Hid (swapsT a i R8 = RF) /\ Hid (R8.length = S.R.length) /\ Hid (LadAt wq (S.withR R8)) /\ Hid (Chg S.own w wq) /\ Hid (∀ k, (S.withR R8).own k ↔ S.own k)) (fun i_ _ => (intOf i_).toNat)
           case atStart => exact ⟨n, R, Nat.le_refl _, ha2, rfl, HRFe, hRl, L7, C7, hO⟩
           case round =>
            obtain ⟨i, R8, hin, hai, rfl, hSw, hR8, hL8, hC8, hO8⟩ := hrel;by_cases hia : a < i
            · obtain ⟨i', rfl⟩ : ∃ i', i = i' + 1 := ⟨i - 1, by omega⟩;have hi8 : i' + 1 < R8.length := by have := hR8.out; have := hRl.out; omega
              have hi8' : i' < R8.length := by omega
              have hia1 : (a : Int) < ((i' + 1 : Nat) : Int) := by omega
              have hcast : ((i' + 1 : Nat) : Int) - 1 = (i' : Int) := by omega
              have hms := MSwap_c (S.withR R8) (i' + 1) i' wr hL8.out hi8 hi8' (by omega) (HT.out.good R8);have HMs := Lib.hid hms; clear hms;have hcast2 : ((i' + 1 : Nat) : Int) = (i' : Int) + 1 := by omega
              rw [hcast2] at hia1 hcast HMs ⊢;clear hcast2;have hia2 : (a : Int) < (i' : Int) + 1 := hia1;have hcast3 : (i' : Int) + 1 - 1 = (i' : Int) := by omega
              go_wp2_with fail
              refine HMs.out.mono ?_;rintro e w9 ⟨rfl, hL9, hC9⟩;have L9 := Lib.hid hL9;have C9 := Lib.hid (hC8.out.trans (hC9.mono (fun q _ e => (hO8.out q).1 e)));clear hL9 hC9;go_wp2;go_roundw
              case rel =>
               refine ⟨i', swapT R8 (i' + 1) i', by omega, by omega, by go_num, ?_, Lib.hid ((swapT_length ..).trans hR8.out), ?_, C9, Lib.hid (fun q => (own_swapT (S.withR R8) (i' + 1) i' q).trans (hO8.out q))⟩
               · have := hSw.out;unfold swapsT at this;rw [if_neg (by omega)] at this;exact this
               · rw [swapT_eq hi8 hi8']; exact L9
              case measure => simp only [intOf]; omega
            · obtain rfl : i = a := by omega
              have hR8F : R8 = RF := by
               have := hSw.out;cases i with
               | zero => exact this
               | succ q => unfold swapsT at this; rw [if_pos (Nat.le_refl _)] at this; exact this
              subst hR8F;have hset := Settle_c (S.withR R8) (n + 1) B c R' wr hL8.out (by show n + 1 <= R8.length; have := hR8.out; omega) (by omega) HRF.out HSF.out (by show R8.length <= 1000000; have := hR8.out; omega) hc HT.out;have HSet := Lib.hid hset; clear hset;have hcn1 : ((n + 1 : Nat) : Int) = (n : Int) + 1 := by omega
              rw [hcn1] at HSet;clear hcn1;have hgt : ¬ (i : Int) > (i : Int) := by omega
              go_wp2_with fail
              refine HSet.out.mono ?_;rintro e w9 ⟨rfl, hL9, hC9⟩;have L9 := Lib.hid hL9;have C9 := Lib.hid (hC8.out.trans (hC9.mono (fun q _ e => (hO8.out q).1 e)));clear hL9 hC9;go_wp2;go_ret;exact ⟨rfl, L9.out, C9.out⟩
         · have hif : (if ent R n jj < 0 then turnT R n else R) = turnT R n := if_pos (by
            have := Hsg.out; rw [hneg] at this; rw [HeN.out]; simpa using this.symm)
           have hlenN : R[n].xs.length <= 4611686018427387903 := by rw [Hcn.out]; omega
           have hmt := MTurn_c (S.withR R) n w7 L7.out hnR (fun x hx => by have := hF.out.fit _ (List.getElem_mem hnR) x hx; omega) hlenN (HT.out.good R) (HT.out.okR hF.out);have HMt := Lib.hid hmt; clear hmt;go_wp2_with fail
           refine HMt.out.mono ?_;rintro e w8 ⟨rfl, hL8, hC8⟩;have C8 := Lib.hid (C7.out.trans (hC8.mono (fun q _ e => (hO.out q).1 e)));have L8 : Hid (LadAt w8 (S.withR (turnT R n))) := by rw [turnT_eq hnR]; exact hL8
           have O8 : Hid (∀ k, (S.withR (turnT R n)).own k ↔ S.own k) := fun q => (own_turnT (S.withR R) n q).trans (hO.out q);have N8 : Hid ((turnT R n).length = S.R.length) := (turnT_length ..).trans hRl.out;clear hL8 hC8;have HRF := Lib.hid HF2.out; have HSF := Lib.hid HS2.out;rw [hif] at HRF HSF;clear hif;obtain ⟨RF, hRF⟩ : ∃ RF, swapsT a n (turnT R n) = RF := ⟨_, rfl⟩;rw [hRF] at HRF HSF;have HRFe := Lib.hid hRF; clear hRF;go_wp2;go_loopw [8] (fun i_ wq => ∃ (i : Nat) (R8 : List Hd), i <= n /\ a <= i /\ i_ = .int .i64 (i : Int) /\ Hid (swapsT a i R8 = RF) /\ Hid (R8.length = S.R.length) /\ Hid (LadAt wq (S.withR R8)) /\ Hid (Chg S.own w wq) /\ Hid (∀ k, (S.withR R8).own k ↔ S.own k)) (fun i_ _ => (intOf i_).toNat)
           case atStart => exact ⟨n, (turnT R n), Nat.le_refl _, ha2, rfl, HRFe, N8, L8, C8, O8⟩
           case round =>
            obtain ⟨i, R8, hin, hai, rfl, hSw, hR8, hL8, hC8, hO8⟩ := hrel;by_cases hia : a < i
            · obtain ⟨i', rfl⟩ : ∃ i', i = i' + 1 := ⟨i - 1, by omega⟩;have hi8 : i' + 1 < R8.length := by have := hR8.out; have := hRl.out; omega
              have hi8' : i' < R8.length := by omega
              have hia1 : (a : Int) < ((i' + 1 : Nat) : Int) := by omega
              have hcast : ((i' + 1 : Nat) : Int) - 1 = (i' : Int) := by omega
              have hms := MSwap_c (S.withR R8) (i' + 1) i' wr hL8.out hi8 hi8' (by omega) (HT.out.good R8);have HMs := Lib.hid hms; clear hms;have hcast2 : ((i' + 1 : Nat) : Int) = (i' : Int) + 1 := by omega
              rw [hcast2] at hia1 hcast HMs ⊢;clear hcast2;have hia2 : (a : Int) < (i' : Int) + 1 := hia1;have hcast3 : (i' : Int) + 1 - 1 = (i' : Int) := by omega
              go_wp2_with fail
              refine HMs.out.mono ?_;rintro e w9 ⟨rfl, hL9, hC9⟩;have L9 := Lib.hid hL9;have C9 := Lib.hid (hC8.out.trans (hC9.mono (fun q _ e => (hO8.out q).1 e)));clear hL9 hC9;go_wp2;go_roundw
              case rel =>
               refine ⟨i', swapT R8 (i' + 1) i', by omega, by omega, by go_num, ?_, Lib.hid ((swapT_length ..).trans hR8.out), ?_, C9, Lib.hid (fun q => (own_swapT (S.withR R8) (i' + 1) i' q).trans (hO8.out q))⟩
               · have := hSw.out;unfold swapsT at this;rw [if_neg (by omega)] at this;exact this
               · rw [swapT_eq hi8 hi8']; exact L9
              case measure => simp only [intOf]; omega
            · obtain rfl : i = a := by omega
              have hR8F : R8 = RF := by
               have := hSw.out;cases i with
               | zero => exact this
               | succ q => unfold swapsT at this; rw [if_pos (Nat.le_refl _)] at this; exact this
              subst hR8F;have hset := Settle_c (S.withR R8) (n + 1) B c R' wr hL8.out (by show n + 1 <= R8.length; have := hR8.out; omega) (by omega) HRF.out HSF.out (by show R8.length <= 1000000; have := hR8.out; omega) hc HT.out;have HSet := Lib.hid hset; clear hset;have hcn1 : ((n + 1 : Nat) : Int) = (n : Int) + 1 := by omega
              rw [hcn1] at HSet;clear hcn1;have hgt : ¬ (i : Int) > (i : Int) := by omega
              go_wp2_with fail
              refine HSet.out.mono ?_;rintro e w9 ⟨rfl, hL9, hC9⟩;have L9 := Lib.hid hL9;have C9 := Lib.hid (hC8.out.trans (hC9.mono (fun q _ e => (hO8.out q).1 e)));clear hL9 hC9;go_wp2;go_ret;exact ⟨rfl, L9.out, C9.out⟩
def rotT : Nat -> Nat -> List Hd -> List Hd
 | 0, _, R => R
 | k + 1, i, R => rotT k (i + 1) (swapT R i (i + 1))
inductive RedT (B c : Nat) : Nat -> Nat -> List Hd -> Nat -> List Hd -> Prop
 | fin {d e : Nat} {R : List Hd} (h : e <= d) : RedT B c d e R d R
 | ok {d e k : Nat} {R R1 R' : List Hd} (h : d < e) (hp : PutT B c d 0 (-1) R true R1) (hs : RedT B c (d + 1) e R1 k R') : RedT B c d e R k R'
 | zero {d e k : Nat} {R R1 R' : List Hd} (h : d < e) (hp : PutT B c d 0 (-1) R false R1) (hs : RedT B c d (e - 1) (rotT (e - 1 - d) d R1) k R') : RedT B c d e R k R'
theorem SOut.length {B c : Nat} {ls : List Nat} {n m : Nat} {R R' : List Hd} (h : SOut B c ls n m R R') : R'.length = R.length := by
 induction h with
 | done => rfl
 | step h1 _ ih => rw [ih, h1.length]
theorem swapsT_length (a : Nat) : ∀ (i : Nat) (R : List Hd), (swapsT a i R).length = R.length
 | 0, R => rfl
 | i + 1, R => by
  unfold swapsT; split
  · rfl
  · rw [swapsT_length a i, swapT_length]
theorem PutT.length {B c n a : Nat} {l : Int} {R R' : List Hd} {b : Bool} (h : PutT B c n a l R b R') : R'.length = R.length := by
 induction h with
 | zero _ _ hs => exact hs.length
 | stop _ _ _ _ _ _ _ _ _ hs =>
  rw [hs.length, swapsT_length];split
  · exact turnT_length ..
  · rfl
 | meet _ _ _ _ _ _ _ _ _ _ _ _ ih => rw [ih, meetT_length]
theorem own_addR (S : LSt) (R : List Hd) (i j : Nat) (x : Int) (q : Nat) : (S.withR (addT R i j x)).own q ↔ (S.withR R).own q := own_addT (S.withR R) i j x q
theorem own_turnR (S : LSt) (R : List Hd) (i q : Nat) : (S.withR (turnT R i)).own q ↔ (S.withR R).own q := own_turnT (S.withR R) i q
theorem own_meetR (S : LSt) (R : List Hd) (k n j q : Nat) : (S.withR (meetT R k n j)).own q ↔ (S.withR R).own q := own_meetT (S.withR R) k n j q
theorem own_SIn {B c i n k : Nat} {ls : List Nat} {R R' : List Hd} (h : SIn B c ls i n k R R') : ∀ (S : LSt) (q : Nat), (S.withR R').own q ↔ (S.withR R).own q := by
 induction h with
 | done _ => exact fun _ _ => Iff.rfl
 | step _ _ _ _ _ ih => exact fun S q => (ih S q).trans (own_addR S _ _ _ _ q)
theorem own_SOut {B c n m : Nat} {ls : List Nat} {R R' : List Hd} (h : SOut B c ls n m R R') : ∀ (S : LSt) (q : Nat), (S.withR R').own q ↔ (S.withR R).own q := by
 induction h with
 | done => exact fun _ _ => Iff.rfl
 | step h1 _ ih => exact fun S q => (ih S q).trans (own_SIn h1 S q)
theorem own_swapsT (a : Nat) : ∀ (i : Nat) (R : List Hd) (S : LSt) (q : Nat), (S.withR (swapsT a i R)).own q ↔ (S.withR R).own q
 | 0, R, S, q => Iff.rfl
 | i + 1, R, S, q => by
  unfold swapsT; split
  · exact Iff.rfl
  · exact (own_swapsT a i _ S q).trans (own_swapT (S.withR R) _ _ q)
theorem own_PutT {B c n a : Nat} {l : Int} {R R' : List Hd} {b : Bool} (h : PutT B c n a l R b R') : ∀ (S : LSt) (q : Nat), (S.withR R').own q ↔ (S.withR R).own q := by
 induction h with
 | zero _ _ hs => exact own_SOut hs
 | stop _ _ _ _ _ _ _ _ _ hs =>
  refine fun S q => (own_SOut hs S q).trans ((own_swapsT _ _ _ S q).trans ?_);split
  · exact own_turnR S _ _ q
  · exact Iff.rfl
 | meet _ _ _ _ _ _ _ _ _ _ _ _ ih => exact fun S q => (ih S q).trans (own_meetR S _ _ _ _ q)
set_option maxRecDepth 100000 in
set_option maxHeartbeats 8000000 in
theorem Reduce_c (S : LSt) (B c k : Nat) (R' : List Hd) (w : World) (h : LadAt w S) (hB : B <= 4000000000000) (hP : RedT B c 0 S.R.length S.R k R') (hR : S.R.length <= 100000) (hc : c <= 1000000) (hT : S.sat B c) :
 Calls Tryz.prog 34 #[.pointer (some ⟨S.lb, 0, none⟩)] w fun e w' => e = .returned (.int .i64 (k : Int)) /\ LadAt w' (S.withR R') /\ Chg S.own w w' := by
 have HT := Lib.hid hT; clear hT;have cb : w.cell? ⟨S.lb, 0, none⟩ = some (.slice (some ⟨S.o, 0, none⟩) S.R.length S.cap) := h.lad.cell 0;have HL := Lib.hid h; clear h;have HP := Lib.hid hP; clear hP;go_enter Tryz.func34, Tryz.ntmps34;go_wp2
 go_region_held3 (fun w' => w'.cell? ⟨S.lb, 0, none⟩ = some (.slice (some ⟨S.o, 0, none⟩) S.R.length S.cap)) (first | exact cb) (fail)
 go_wp2;have HL1 := Lib.hid HL.out.drew;have HC1 := Lib.hid (Chg.refl S.own w).drew;clear cb;go_loopw [3, 4] (fun d_ e_ wr => ∃ (d e : Nat) (R : List Hd), d <= e /\ e <= S.R.length /\ d_ = .int .i64 (d : Int) /\ e_ = .int .i64 (e : Int) /\ Hid (RedT B c d e R k R') /\ Hid (R.length = S.R.length) /\ Hid (LadAt wr (S.withR R)) /\ Hid (Chg S.own w wr) /\ Hid (∀ q, (S.withR R).own q ↔ S.own q)) (fun d_ e_ _ => (intOf e_ - intOf d_).toNat)
 case atStart => exact ⟨0, S.R.length, S.R, Nat.zero_le _, Nat.le_refl _, rfl, rfl, HP, rfl, HL1, HC1, fun _ => Iff.rfl⟩
 case round =>
  obtain ⟨d, e, R, hde, heR, rfl, rfl, hRed, hRl, hL, hC, hO⟩ := hrel;by_cases hd : d < e
  · have hd1 : (d : Int) < (e : Int) := by omega
    have hdR : d < R.length := by have := hRl.out; omega
    have hcase : ∃ b R1, PutT B c d 0 (-1) R b R1 /\ (b = true -> RedT B c (d + 1) e R1 k R') /\ (b = false -> RedT B c d (e - 1) (rotT (e - 1 - d) d R1) k R') := by
     cases hRed.out with
     | fin h => omega
     | ok _ hp hs => exact ⟨true, _, hp, fun _ => hs, fun h => by cases h⟩
     | zero _ hp hs => exact ⟨false, _, hp, fun h => (by cases h), fun _ => hs⟩
    obtain ⟨b, R1, hp, hs1, hs2⟩ := hcase;have hput := Put_c (S.withR R) d B c b R1 wr hL.out hdR hB hp (by show R.length <= 100000; have := hRl.out; omega) hc HT.out;have HPut := Lib.hid hput;have HR1 := Lib.hid (hp.length.trans hRl.out);have HO1 := Lib.hid (fun q => (own_PutT hp S q).trans (hO.out q));have HS1 := Lib.hid hs1;have HS2 := Lib.hid hs2;clear hput hp hs1 hs2 hRed;go_wp2_with fail
    refine HPut.out.mono ?_;rintro e' w2 ⟨rfl, hL2, hC2⟩;have L2 := Lib.hid hL2;have C2 := Lib.hid (hC.out.trans (hC2.mono (fun q _ e => (hO.out q).1 e)));clear hL2 hC2 hL hC;cases b
    · have HSF := Lib.hid (HS2.out rfl);have hec : ((e - 1 : Nat) : Int) = (e : Int) - 1 := by omega
      have Hec := Lib.hid hec; clear hec;go_wp2;go_loopw [5] (fun i_ wq => ∃ (i : Nat) (R2 : List Hd), d <= i /\ i <= e - 1 /\ i_ = .int .i64 (i : Int) /\ Hid (rotT (e - 1 - i) i R2 = rotT (e - 1 - d) d R1) /\ Hid (R2.length = S.R.length) /\ Hid (LadAt wq (S.withR R2)) /\ Hid (Chg S.own w wq) /\ Hid (∀ q, (S.withR R2).own q ↔ S.own q)) (fun i_ _ => ((e : Int) - intOf i_).toNat)
      case atStart => exact ⟨d, R1, Nat.le_refl _, by omega, rfl, rfl, HR1, L2, C2, HO1⟩
      case round =>
       obtain ⟨i, R2, hdi, hie, rfl, hRot, hR2, hL2, hC2, hO2⟩ := hrel;by_cases hi : i < e - 1
       · have hi1 : (i : Int) < (e : Int) - 1 := by omega
         have hiR : i < R2.length := by have := hR2.out; omega
         have hiR1 : i + 1 < R2.length := by have := hR2.out; omega
         have hms := MSwap_c (S.withR R2) i (i + 1) wr hL2.out hiR hiR1 (by omega) (HT.out.good R2);have hcast : ((i + 1 : Nat) : Int) = (i : Int) + 1 := by omega
         rw [hcast] at hms;have HMs := Lib.hid hms; clear hms hcast;go_wp2_with fail
         refine HMs.out.mono ?_;rintro e'' w9 ⟨rfl, hL9, hC9⟩;have L9 := Lib.hid hL9;have C9 := Lib.hid (hC2.out.trans (hC9.mono (fun q _ e => (hO2.out q).1 e)));clear hL9 hC9;go_wp2;go_roundw
         case rel =>
          refine ⟨i + 1, swapT R2 i (i + 1), by omega, by omega, by go_num, ?_, Lib.hid ((swapT_length ..).trans hR2.out), ?_, C9, Lib.hid (fun q => (own_swapT (S.withR R2) i (i + 1) q).trans (hO2.out q))⟩
          · have h2 := hRot.out;have h3 : e - 1 - i = (e - 1 - (i + 1)) + 1 := by omega
            rw [h3] at h2;exact h2
          · rw [swapT_eq hiR hiR1]; exact L9
         case measure => simp only [intOf]; omega
       · have hi1 : ¬ (i : Int) < (e : Int) - 1 := by omega
         have hie2 : e - 1 - i = 0 := by omega
         have hfin : R2 = rotT (e - 1 - d) d R1 := by
          have h2 := hRot.out;rw [hie2] at h2;exact h2
         have HFin := Lib.hid hfin; clear hfin hie2;go_wp2;go_roundw
         case rel =>
          refine ⟨d, e - 1, R2, by omega, by omega, by go_num, by go_num, ?_, hR2, hL2, hC2, hO2⟩;rw [HFin.out];exact HSF
         case measure => simp only [intOf]; omega
    · have HSF := Lib.hid (HS1.out rfl);go_wp2;go_roundw
      case rel => exact ⟨d + 1, e, R1, by omega, by omega, by go_num, by go_num, HSF, HR1, L2, C2, HO1⟩
      case measure => simp only [intOf]; omega
  · have hd1 : ¬ (d : Int) < (e : Int) := by omega
    have hfin : d = k /\ R = R' := by
     cases hRed.out with
     | fin h => exact ⟨rfl, rfl⟩
     | ok h _ _ => omega
     | zero h _ _ => omega
    have HFin := Lib.hid hfin; clear hfin;go_wp2;go_ret;rw [<- HFin.out.1, <- HFin.out.2];exact ⟨rfl, hL.out, hC.out⟩
end Go.Proofs.YtdgfhcaokigieaaGreat
