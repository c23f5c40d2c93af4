/- Part 4 of 8 of the proof that the law ModhnfRoads returns true for every input of bulk at most 1048576 and leaves its arguments as they were. -/
import Derived.RangeFuncNested
import Derived.RangeFuncBound
import Derived.RangeFuncCalls
import Derived.RangeFuncLeaves
import Derived.Shelf.Abstract
import Derived.Shelf.RegionOpen
import Derived.WalkKit
import Derived.OwnWalkIn
import Derived.TacticsInMore
import Derived.LoopNIn
import Derived.LoopIn
import Derived.Maps.AppendAt
import Derived.Test.YtjjlmfmoihooiaaGreatRoA
import Derived.Test.YtjjlmfmoihooiaaGreatRoB
import Derived.Test.YtjjlmfmoihooiaaGreatRoC
set_option linter.all false
set_option maxRecDepth 100000
set_option maxHeartbeats 8000000
namespace Go.Proofs.YtjjlmfmoihooiaaGreat
open Go.RowKit
def iv (n : Nat) : Value := .int .i64 (n : Int)
theorem vX (n : Nat) : (madeCells (Value.int .i64 0).cells (n * 1)).toList = (List.replicate n 0).map iv := by
 rw [fB _ rfl]; simp [iv]
theorem yj : (Tryz.prog.info? 3).map (fun i => (i.zero, i.size, i.bytes)) = some (some (.int .i64 0), 1, 8) := by kernel_rfl
theorem yQ {w : World} {ops : Array Oper} {rest : List Oper} {o : Oper} {a : Act} {Q : Exit -> Act -> World -> Prop}
 (hg : o.guard = none) (l c : Operand) (hop : o.op = Op.makeSlice 34 l c)
 {kl kc : IntKind} {L C : Int} (n m : Nat) (hl : a.eval l = .int kl L) (hc : a.eval c = .int kc C) (hL : L = (n : Int)) (hC : C = (m : Int)) (hnm : n <= m) (b2 : m <= 35184372088832)
 (hK : ∀ b w', Made w w' b 3 ((List.replicate m 0).map iv) -> wpList Tryz.prog ops Q rest (a.put o.dst (.slice (some ⟨b, 0, none⟩) n m)) w') :
 wpList Tryz.prog ops Q (o :: rest) a w :=
 eB hg l c 34 hop 3 (.int .i64 0) 1 8 Tryz.underlying34 yj n m hl hc hL hC hnm Cp (by unfold maxLen; omega)
  (fun b w' h => hK b w' (by rw [vX] at h; exact h))
theorem eF.lI {w : World} {S : cR} (h : eF w S) {g : Nat} {t : TypeId} {cs : List Value} (hr : aa w g t cs) (h1 : t ≠ 37) (h2 : t ≠ 22) (h3 : t ≠ 70) (hn : aN cs) (i : Nat) (u : Value) : eF (w.setCell ⟨g, i, none⟩ u) S :=
 ⟨h.box.other (h.box.ne hr (fun e => h3 e.symm)) u, ⟨h.dU.out.other (fun e => hr.neP h.dU.out h2 e.symm) u, fun r hr' => (h.dU.row r hr').kK hr h1 hn i u, h.dU.nd⟩⟩
theorem aI.lI {w : World} {S : cR} (h : aI w S) {g : Nat} {t : TypeId} {cs : List Value} (hr : aa w g t cs) (h1 : t ≠ 37) (h2 : t ≠ 22) (h3 : t ≠ 70) (h4 : t ≠ 125) (h5 : t ≠ 109) (hn : aN cs) (i : Nat) (u : Value) : aI (w.setCell ⟨g, i, none⟩ u) S :=
 have hs := h.sd.lI hr h1 h2 h3 hn i u
 ⟨h.lad.other (h.lad.ne hr (fun e => h5 e.symm)) u, h.sides.other (fun e => hr.neP h.sides h4 e.symm) u, hs.box, hs.dU, fun t' ht => by
  obtain ⟨V, hV⟩ := h.ext t' ht;exact ⟨V, hV.sd.lI hr h1 h2 h3 hn i u, hV.box3.other (hV.box3.ne hr (fun e => h3 e.symm)) u, hV.rel, hV.own, hV.apart⟩⟩
theorem NoIv (ls : List Nat) : aN (ls.map iv) := by
 intro c hc n;obtain ⟨x, _, rfl⟩ := List.mem_map.1 hc;simp [iv]
def AV.Ay (B : Nat) (x y : Int) : AV := AV.free (fun w v => ∃ a b, v = .tuple #[a, b, .int .i64 0] /\ ai w B a x /\ ai w B b y) (fun ⟨a, b, e, h, h'⟩ hb => ⟨a, b, e, ai.below h hb, ai.below h' hb⟩) (fun ⟨a, b, e, h, h'⟩ hr _ ht k u _ => ⟨a, b, e, ai.setRow h hr ht k u, ai.setRow h' hr ht k u⟩)
theorem oV {x y : Int} {B : Nat} (hy : y ≠ 0) (h : ag x.natAbs <= B) : ag (x.fdiv y).natAbs <= B + 2 := by
 have h1 : (x.tdiv y).natAbs <= x.natAbs := by rw [Int.natAbs_tdiv]; exact Ec _ _
 have h2 : (x.fdiv y).natAbs <= x.natAbs + 1 := by
  by_cases hs : x.tmod y = 0 \/ (decide (x.tmod y < 0)) = decide (y < 0)
  . rw [(ku hy hs).1]; omega
  . have hs1 : x.tmod y ≠ 0 := fun e => hs (.inl e);have hs2 : ¬ (decide (x.tmod y < 0)) = decide (y < 0) := fun e => hs (.inr e);rw [(my hy hs1 hs2).1]; omega
 have h3 := aJ h2;have h4 := o4 x.natAbs 1;have h5 : ag 1 <= 1 := an Cr;have h6 : max (ag x.natAbs) (ag 1) <= B + 1 := Nat.max_le.2 ⟨by omega, by omega⟩;omega
theorem gn (S : cR) (i : Nat) (xs : List Int) (k : Nat) : (S.aB (dI S.R i xs)).own k ↔ S.own k := or_congr (uH (fun b => tH b) k) Iff.rfl
def az (R : List Hd) (i j : Nat) : Int := ((R[i]?).map (fun h => h.xs.getD j 0)).getD 0
def aR (R : List Hd) (i : Nat) : Nat := ((R[i]?).map (fun h => lead h.xs)).getD 0
theorem gE {R : List Hd} {i j : Nat} (hi : i < R.length) (hj : j < R[i].xs.length) : az R i j = R[i].xs[j] := by
 unfold az; simp [hi, hj]
theorem gg {R : List Hd} {i : Nat} (hi : i < R.length) : aR R i = lead R[i].xs := by
 unfold aR; simp [hi]
structure Fit (B c : Nat) (R : List Hd) : Prop where
 len : ∀ h ∈ R, h.xs.length = c
 fit : ∀ h ∈ R, ∀ x ∈ h.xs, ag x.natAbs <= B
def iI (R : List Hd) (i j : Nat) (k : Int) : List Hd := if h : i < R.length /\ j < R.length then ji R i j k h.1 h.2 else R
theorem n7 {R : List Hd} {i j : Nat} {k : Int} (hi : i < R.length) (hj : j < R.length) : iI R i j k = ji R i j k hi hj := by unfold iI; rw [dif_pos ⟨hi, hj⟩]
theorem dq (R : List Hd) (i j : Nat) (k : Int) : (iI R i j k).length = R.length := by
 unfold iI; split
 . unfold ji; rw [aE]
 . rfl
inductive u6 (B c : Nat) (ls : List Nat) (i n : Nat) : Nat -> List Hd -> List Hd -> Prop
 | done {k : Nat} {R : List Hd} (h : n <= k) : u6 B c ls i n k R R
 | step {k : Nat} {R R' : List Hd} (h : k < n) (hF : Fit B c R) (hc : ls.getD k 0 < c) (hp : az R k (ls.getD k 0) ≠ 0) (hs : u6 B c ls i n (k + 1) (iI R i k (-((az R i (ls.getD k 0)).fdiv (az R k (ls.getD k 0))))) R') : u6 B c ls i n k R R'
inductive iE (B c : Nat) (ls : List Nat) (n : Nat) : Nat -> List Hd -> List Hd -> Prop
 | done {R : List Hd} : iE B c ls n 0 R R
 | step {m : Nat} {R R1 R' : List Hd} (h1 : u6 B c ls m n (m + 1) R R1) (h2 : iE B c ls n m R1 R') : iE B c ls n (m + 1) R R'
theorem iE.inv {B c : Nat} {ls : List Nat} {n m : Nat} {R R' : List Hd} (h : iE B c ls n (m + 1) R R') : ∃ R1, u6 B c ls m n (m + 1) R R1 /\ iE B c ls n m R1 R' := by
 cases h with
 | step h1 h2 => exact ⟨_, h1, h2⟩
theorem iE.zero {B c : Nat} {ls : List Nat} {n : Nat} {R R' : List Hd} (h : iE B c ls n 0 R R') : R = R' := by
 cases h; rfl
theorem u6.inv {B c : Nat} {ls : List Nat} {i n k : Nat} {R R' : List Hd} (h : u6 B c ls i n k R R') (hk : k < n) : Fit B c R /\ ls.getD k 0 < c /\ az R k (ls.getD k 0) ≠ 0 /\ u6 B c ls i n (k + 1) (iI R i k (-((az R i (ls.getD k 0)).fdiv (az R k (ls.getD k 0))))) R' := by
 cases h with
 | done h => omega
 | step _ hF hc hp hs => exact ⟨hF, hc, hp, hs⟩
theorem u6.fin {B c : Nat} {ls : List Nat} {i n k : Nat} {R R' : List Hd} (h : u6 B c ls i n k R R') (hk : n <= k) : R = R' := by
 cases h with
 | done h => rfl
 | step h _ _ _ _ => omega
theorem u6.length {B c : Nat} {ls : List Nat} {i n k : Nat} {R R' : List Hd} (h : u6 B c ls i n k R R') : R'.length = R.length := by
 induction h with
 | done _ => rfl
 | step _ _ _ _ _ ih => rw [ih, dq]
def ep (R : List Hd) (n : Nat) : List Nat := (List.range n).map (aR R)
theorem u7 (ls : List Nat) (i v : Nat) : (ls.map iv).set i (.int .i64 (v : Int)) = (ls.set i v).map iv := by
 rw [ET]; rfl
theorem nv (ls : List Nat) {i : Nat} (h : i < ls.length) : (ls.map iv)[i]? = some (.int .i64 ((ls.getD i 0 : Nat) : Int)) := by
 simp [iv, h]
def cR.sat (S : cR) (B c : Nat) : Prop := ∀ t, S.two = some t -> t.Ok /\ ∀ R, Fit B c R -> t.fit R
theorem cR.sat.jX {S : cR} {B c : Nat} (h : S.sat B c) (R : List Hd) : (S.aB R).jX := fun t ht => (h t ht).1
theorem cR.sat.yN {S : cR} {B c : Nat} (h : S.sat B c) {R : List Hd} (hF : Fit B c R) : (S.aB R).yN := fun t ht => (h t ht).2 R hF
theorem iM (S : cR) (n B c : Nat) (R' : List Hd) (w : World) (h : aI w S) (hn : n <= S.R.length) (hB : B <= 4398046511103) (hF : Fit B c S.R) (hS : iE B c (ep S.R n) n n S.R R') (hR : S.R.length <= 1000000) (hc : c <= 1000000) (hT : S.sat B c) :
 Calls Tryz.prog 117 #[.pointer (some ⟨S.lb, 0, none⟩), .int .i64 (n : Int)] w fun e w' => e = .returned (.tuple #[]) /\ aI w' (S.aB R') /\ aU S.own w w' := by
 have HL := H5 h; clear h;have HF := H5 hF; clear hF;have HS := H5 hS; clear hS;have HT := H5 hT; clear hT;go_enter Tryz.func117, Tryz.ntmps117;go_wp2_with (at_make; refine yQ rfl _ _ rfl n n rfl rfl Cp Cp (Ct _) Cp ?_; intro gl w1 hm1)
 have L1 := H5 (HL.out.below hm1.below);have C1 := H5 (aU.bC (S := S.own) hm1.below);have hgl : gl = w.heap.size := hm1.at_;have Hgl := H5 hgl; clear hgl;have hr1 := hm1.row;go_loopw [16] (fun i wr => ∃ (m : Nat) (ls : List Nat), m <= n /\ i = .int .i64 (m : Int) /\ Hid (ls.length = n /\ ∀ j (h : j < ls.length), j < m -> ls[j] = aR S.R j) /\ Hid (aa wr gl 3 (ls.map iv)) /\ Hid (aI wr S) /\ Hid (aU S.own w wr)) (fun i _ => n - (intOf i).toNat)
 case atStart => exact ⟨0, List.replicate n 0, Cx _, rfl, ⟨by simp, fun j _ h => by omega⟩, hr1, L1, C1⟩
 case round =>
  obtain ⟨m, ls, hm, rfl, Hls, hG, hL, hC⟩ := hrel;by_cases hmn : m < n
  . have hmR : m < S.R.length := by omega
    have c0 : wr.cell? ⟨S.lb, 0, none⟩ = some (.slice (some ⟨S.o, 0, none⟩) S.R.length S.cap) := hL.out.lad.cell 0;have cm : wr.cell? ⟨S.o, m, none⟩ = some (.slice (some ⟨S.R[m].blk, 0, none⟩) S.R[m].xs.length S.R[m].cap) := hL.out.dU.dA hmR;have hm1' : (m : Int) < (S.R.length : Int) := by omega
    have hm2' : (m : Int) < (n : Int) := by omega
    go_wp2_with fail
    refine (kI S.R[m].blk S.R[m].cap S.R[m].xs _ (hL.out.dU.row _ (Cu hmR)) (fun x hx => by have := HF.out.fit _ (Cu hmR) x hx; omega) (by have := HF.out.len _ (Cu hmR); omega)).mono ?_;rintro e w2 ⟨rfl, hb2⟩;have L2 := H5 (hL.out.below hb2);have C2 := H5 (hC.out.below hb2);have G2 := hG.out.below hb2 hG.out.lt;have hml : m < ls.length := by rw [Hls.out.1]; exact hmn
    have d0 : w2.cell? ⟨gl, m, none⟩ = some (.int .i64 ((ls.getD m 0 : Nat) : Int)) := (G2.cell m).trans (nv ls hml);have f0 := G2.free m;have G2 := H5 G2;have hbn : w.heap.size <= gl := by have := Hgl.out; omega
    clear hL hC hG hb2 c0 cm;go_wp2;go_roundw
    case rel =>
     refine ⟨m + 1, ls.set m (aR S.R m), by omega, by go_num, H5 ⟨by simpa using Hls.out.1, fun j hj hjm => ?_⟩, ?_, ?_, H5 (C2.out.lI (p := ⟨gl, m, none⟩) hbn _)⟩
     . rw [DL];split
       . rename_i e; subst e; rfl
       . exact Hls.out.2 j (by simpa using hj) Cp
     . rw [<- u7, gg hmR];exact H5 (G2.out.set m _)
     . exact H5 (L2.out.lI G2.out Cr Cr Cr Cr Cr (NoIv ls) m _)
    case measure => simp [intOf]; omega
  . obtain rfl : m = n := by omega
    have hlsE : ls = ep S.R m := by
     refine Dx (by simp [ep, Hls.out.1]) fun j h1 h2 => ?_;rw [Hls.out.2 j h1 (by have := Hls.out.1; omega)];simp [ep]
    have HLE := H5 hlsE; clear hlsE;have hbn : w.heap.size <= gl := by have := Hgl.out; omega
    have hso : ¬ S.own gl := by
     intro e;have := HL.out.qq _ e;omega
    have Hso := H5 hso; clear hso;have HS2 := HS.out;rw [<- HLE.out] at HS2;have HS2 := H5 HS2;have HG := hG;go_wp2;go_loopw [6] (fun iv_ wo => ∃ (q : Nat) (R1 : List Hd), q <= m /\ iv_ = .int .i64 ((q : Int) - 1) /\ Hid (R1.length = S.R.length) /\ Hid (iE B c ls m q R1 R') /\ Hid (aI wo (S.aB R1)) /\ Hid (aa wo gl 3 (ls.map iv)) /\ Hid (aU S.own w wo) /\ Hid (∀ k, (S.aB R1).own k ↔ S.own k)) (fun iv_ _ => (intOf iv_ + 1).toNat)
    case atStart => exact ⟨m, S.R, Ct _, by go_num, rfl, HS2, hL, HG, hC, H5 (fun _ => Iff.rfl)⟩
    case round =>
     obtain ⟨q, R1, hq, rfl, hR1, HO, hL1, hG1, hC1, Hown⟩ := hrel;rcases q with _ | ii
     . have e : ((0 : Nat) : Int) - 1 = -1 := by omega
       rw [e];go_wp2;refine bodyPost_end (results_none (by kernel_rfl) _ _ _) rfl ?_;have hRR : R1 = R' := HO.out.zero;rw [<- hRR];exact ⟨rfl, hL1.out, hC1.out⟩
     . have e : ((ii + 1 : Nat) : Int) - 1 = (ii : Int) := by omega
       rw [e];obtain ⟨R1', HI, HO'⟩ := HO.out.inv;have HI := H5 HI;have HO' := H5 HO';have hii : ii < S.R.length := by omega
       clear HO;go_wp2;go_loopw [7] (fun kv_ wi => ∃ (kk : Nat) (R2 : List Hd), ii < kk /\ kk <= m /\ kv_ = .int .i64 (kk : Int) /\ Hid (R2.length = S.R.length) /\ Hid (u6 B c ls ii m kk R2 R1') /\ Hid (aI wi (S.aB R2)) /\ Hid (aa wi gl 3 (ls.map iv)) /\ Hid (aU S.own w wi) /\ Hid (∀ k, (S.aB R2).own k ↔ S.own k)) (fun kv_ _ => m - (intOf kv_).toNat)
       case atStart => exact ⟨ii + 1, R1, by omega, by omega, by go_num, hR1, HI, hL1, hG1, hC1, Hown⟩
       case round =>
        obtain ⟨kk, R2, hik, hkm, rfl, hR2, HI2, hL2, hG2, hC2, Hown2⟩ := hrel;by_cases hkm' : kk < m
        . have hkR : kk < R2.length := by have := hR2.out; omega
          have hiR : ii < R2.length := by have := hR2.out; omega
          have hkl : kk < ls.length := by rw [Hls.out.1]; exact hkm'
          obtain ⟨HF2, Hc2, Hp2, HI3⟩ := HI2.out.inv hkm';have HF2 := H5 HF2;have Hp2 := H5 Hp2;have HI3 := H5 HI3;obtain ⟨jj, hjj⟩ := Cs (ls.getD kk 0);rw [hjj] at Hc2 Hp2 HI3;have hkm1 : (kk : Int) < (m : Int) := by omega
          have hi1 : (ii : Int) < (R2.length : Int) := by omega
          have hk1 : (kk : Int) < (R2.length : Int) := by omega
          have hjl : jj < R2[ii].xs.length := by rw [HF2.out.len _ (Cu hiR)]; exact Hc2
          have hjk : jj < R2[kk].xs.length := by rw [HF2.out.len _ (Cu hkR)]; exact Hc2
          have hjl1 : (jj : Int) < (R2[ii].xs.length : Int) := by omega
          have hjk1 : (jj : Int) < (R2[kk].xs.length : Int) := by omega
          have dj : wr.cell? ⟨gl, kk, none⟩ = some (.int .i64 (jj : Int)) := by rw [hG2.out.cell, nv ls hkl, hjj]
          have Hjj := H5 hjj; clear hjj;clear HI2;go_wp2;clear dj;have cb : wr.cell? ⟨S.lb, 0, none⟩ = some (.slice (some ⟨S.o, 0, none⟩) R2.length S.cap) := hL2.out.lad.cell 0;have ci : wr.cell? ⟨S.o, ii, none⟩ = some (.slice (some ⟨R2[ii].blk, 0, none⟩) R2[ii].xs.length R2[ii].cap) := hL2.out.dU.dA (i := ii) hiR;have ck : wr.cell? ⟨S.o, kk, none⟩ = some (.slice (some ⟨R2[kk].blk, 0, none⟩) R2[kk].xs.length R2[kk].cap) := hL2.out.dU.dA (i := kk) hkR;have hXi := hL2.out.dU.row _ (Cu (l := R2) hiR);have hXk := hL2.out.dU.row _ (Cu (l := R2) hkR);obtain ⟨pi, ci0, ci1, hni⟩ := hXi.get hjl;obtain ⟨pk, ck0, ck1, hnk⟩ := hXk.get hjk;have hwi : ag (R2[ii].xs[jj]).natAbs <= B := HF2.out.fit _ (Cu hiR) _ (Cu hjl);have hwk : ag (R2[kk].xs[jj]).natAbs <= B := HF2.out.fit _ (Cu hkR) _ (Cu hjk);have hpz : R2[kk].xs[jj] ≠ 0 := by have := Hp2.out; rw [gE hkR hjk] at this; exact this
          obtain ⟨xi, hxi⟩ := Cs (R2[ii].xs[jj]);obtain ⟨xk, hxk⟩ := Cs (R2[kk].xs[jj]);rw [hxi] at hni hwi;rw [hxk] at hnk hwk hpz;have Hni := H5 (hni.int (L := 17592186044415) Cp);have Hnk := H5 (hnk.int (L := 17592186044415) Cp);have Hpz := H5 hpz; clear hpz;have Hxi := H5 hxi; clear hxi;have Hxk := H5 hxk; clear hxk;have sb1 := hXi.lt;have sb2 := hXk.lt;have sb3 := hL2.out.lad.lt;have sb4 := hL2.out.dU.out.lt;have sb3 : S.lb < wr.heap.size := sb3;have sb4 : S.o < wr.heap.size := sb4;clear hXi hXk hni hnk Hp2;refine eK ⟨30, fun q_ => [49, 50, 51, 52, 53, 54, 55, 56, 57, 58, 59, 60, 61, 62, 63, 64, 65, 66, 67, 68, 69, 48, 70, 71, 72, 9, 10, 1027, 1028, 11].getD q_ 0,
           fun q_ => [.val (.pointer (some ⟨S.lb, 0, none⟩)), .val (.pointer (some ⟨S.lb, 0, none⟩)), .val (.pointer (some ⟨S.lb, 0, none⟩)), .val (.slice (some ⟨S.o, 0, none⟩) R2.length S.cap), .val (.int .i64 (ii : Int)), .val (.pointer (some ⟨S.o, ii, none⟩)), .val (.slice (some ⟨R2[ii].blk, 0, none⟩) R2[ii].xs.length R2[ii].cap), .val (.int .i64 (jj : Int)), .val (.pointer (some ⟨R2[ii].blk, jj * 2, none⟩)), .val (.agg #[.bool pi.1, .slice pi.2.1 pi.2.2.1 pi.2.2.2]), .val (.pointer (some ⟨S.lb, 0, none⟩)), .val (.pointer (some ⟨S.lb, 0, none⟩)), .val (.pointer (some ⟨S.lb, 0, none⟩)), .val (.slice (some ⟨S.o, 0, none⟩) R2.length S.cap), .val (.int .i64 (kk : Int)), .val (.pointer (some ⟨S.o, kk, none⟩)), .val (.slice (some ⟨R2[kk].blk, 0, none⟩) R2[kk].xs.length R2[kk].cap), .val (.int .i64 (jj : Int)), .val (.pointer (some ⟨R2[kk].blk, jj * 2, none⟩)), .val (.agg #[.bool pk.1, .slice pk.2.1 pk.2.2.1 pk.2.2.2]), .Ay 0 (xi.fdiv xk) (xi.fmod xk), .Ay 0 (xi.fdiv xk) (xi.fmod xk), .int 0 (xi.fdiv xk), .int 0 (xi.fmod xk), .val (.int .i64 0), .ptr wr.heap.size 37 2, .ptr wr.heap.size 37 2, .any, .any, .val (.int .i64 0)].getD q_ .any,
           [],
           [(.agg #[.bool pi.1, .slice pi.2.1 pi.2.2.1 pi.2.2.2], .at_ 17592186044415 xi), (.agg #[.bool pk.1, .slice pk.2.1 pk.2.2.1 pk.2.2.2], .at_ 17592186044415 xk)],
           [],
           [(27, 9, 37, .int 0 (xi.fdiv xk)), (28, 10, 37, .int 0 (xi.fmod xk))], [(⟨S.lb, 0, none⟩, .slice (some ⟨S.o, 0, none⟩) R2.length S.cap), (⟨S.o, ii, none⟩, .slice (some ⟨R2[ii].blk, 0, none⟩) R2[ii].xs.length R2[ii].cap), (⟨S.o, kk, none⟩, .slice (some ⟨R2[kk].blk, 0, none⟩) R2[kk].xs.length R2[kk].cap), (⟨R2[ii].blk, jj * 2, none⟩, .bool pi.1), (⟨R2[ii].blk, jj * 2 + 1, none⟩, .slice pi.2.1 pi.2.2.1 pi.2.2.2), (⟨R2[kk].blk, jj * 2, none⟩, .bool pk.1), (⟨R2[kk].blk, jj * 2 + 1, none⟩, .slice pk.2.1 pk.2.2.1 pk.2.2.2)], [(25, 9), (26, 10)]⟩ [49, 50, 51, 52, 53, 54, 55, 56, 57, 58, 59, 60, 61, 62, 63, 64, 65, 66, 67, 68, 69, 48, 70, 71, 72, 9, 10, 11] (wr.heap.size) (by kernel_rfl) (by kernel_rfl) (by kernel_rfl) (by kernel_rfl) ?_ ?_ ?_ ?_ ?_ ?_
          . exact bO (Hni.out) (bO (Hnk.out) bf)
          . exact bf
          . exact bO (⟨cb, by dsimp only; omega, bf⟩) (bO (⟨ci, by dsimp only; omega, bf⟩) (bO (⟨ck, by dsimp only; omega, bf⟩) (bO (⟨ci0, by dsimp only; omega, bf⟩) (bO (⟨ci1, by dsimp only; omega, bf⟩) (bO (⟨ck0, by dsimp only; omega, bf⟩) (bO (⟨ck1, by dsimp only; omega, bf⟩) bf))))))
          . exact bf
          . refine aj ?_ (aj ?_ (aj ?_ (aj ?_ (aj ?_ (aj ?_ (aj ?_ (aj ?_ (aj ?_ (aj ?_ (aj ?_ (aj ?_ (aj ?_ (aj ?_ (aj ?_ (aj ?_ (aj ?_ (aj ?_ (aj ?_ (aj ?_ (aj ?_ (aj ?_ (aj ?_ (aj ?_ (aj ?_ (aj ?_ (aj ?_ (aj ?_ (aj ?_ (aj ?_ lk)))))))))))))))))))))))))))));any_goals (first | (intro L fx w' hJ hL hp hcl; have _ := tN hp (by decide +kernel); refine aX rfl fun K hK => ?_; go_simp; exact hJ.q hK (by kernel_rfl) rfl) | fail)
            . intro L fx w' hJ hL hp hcl;have e0 := hJ.pt 0 49 (.pointer (some ⟨S.lb, 0, none⟩)) rfl rfl rfl (hp 0 Cr);rw [e0] at hJ |-; clear e0;refine aX rfl fun K hK => ?_;go_simp;exact hJ.q hK (by kernel_rfl) rfl
            . intro L fx w' hJ hL hp hcl;have e1 := hJ.pt 1 50 (.pointer (some ⟨S.lb, 0, none⟩)) rfl rfl rfl (hp 1 Cr);rw [e1] at hJ |-; clear e1;refine aX rfl fun K hK => ?_;go_simp;exact hJ.q hK (by kernel_rfl) rfl
            . intro L fx w' hJ hL hp hcl;have e2 := hJ.pt 2 51 (.pointer (some ⟨S.lb, 0, none⟩)) rfl rfl rfl (hp 2 Cr);rw [e2] at hJ |-; clear e2;refine aX rfl fun K hK => ?_;have cl0 := (hJ.cells _ gM).1;try dsimp only at cl0
              go_simp;exact hJ.q hK (by kernel_rfl) rfl
            . intro L fx w' hJ hL hp hcl;have e3 := hJ.pt 3 52 (.slice (some ⟨S.o, 0, none⟩) R2.length S.cap) rfl rfl rfl (hp 3 Cr);rw [e3] at hJ |-; clear e3;have e4 := hJ.pt 4 53 (.int .i64 (ii : Int)) rfl rfl rfl (hp 4 Cr);rw [e4] at hJ |-; clear e4;refine aX rfl fun K hK => ?_;go_simp;exact hJ.q hK (by kernel_rfl) rfl
            . intro L fx w' hJ hL hp hcl;have e5 := hJ.pt 5 54 (.pointer (some ⟨S.o, ii, none⟩)) rfl rfl rfl (hp 5 Cr);rw [e5] at hJ |-; clear e5;refine aX rfl fun K hK => ?_;have cl0 := (hJ.cells _ jk).1;try dsimp only at cl0
              go_simp;exact hJ.q hK (by kernel_rfl) rfl
            . intro L fx w' hJ hL hp hcl;have e6 := hJ.pt 6 55 (.slice (some ⟨R2[ii].blk, 0, none⟩) R2[ii].xs.length R2[ii].cap) rfl rfl rfl (hp 6 Cr);rw [e6] at hJ |-; clear e6;have e7 := hJ.pt 7 56 (.int .i64 (jj : Int)) rfl rfl rfl (hp 7 Cr);rw [e7] at hJ |-; clear e7;refine aX rfl fun K hK => ?_;go_simp;exact hJ.q hK (by kernel_rfl) rfl
            . intro L fx w' hJ hL hp hcl;have e8 := hJ.pt 8 57 (.pointer (some ⟨R2[ii].blk, jj * 2, none⟩)) rfl rfl rfl (hp 8 Cr);rw [e8] at hJ |-; clear e8;refine aX rfl fun K hK => ?_;have cl0 := (hJ.cells _ wR).1;have cl1 := (hJ.cells _ mm4).1;try dsimp only at cl0 cl1
              go_simp;exact hJ.q hK (by kernel_rfl) rfl
            . intro L fx w' hJ hL hp hcl;have e10 := hJ.pt 10 59 (.pointer (some ⟨S.lb, 0, none⟩)) rfl rfl rfl (hp 10 Cr);rw [e10] at hJ |-; clear e10;refine aX rfl fun K hK => ?_;go_simp;exact hJ.q hK (by kernel_rfl) rfl
            . intro L fx w' hJ hL hp hcl;have e11 := hJ.pt 11 60 (.pointer (some ⟨S.lb, 0, none⟩)) rfl rfl rfl (hp 11 Cr);rw [e11] at hJ |-; clear e11;refine aX rfl fun K hK => ?_;go_simp;exact hJ.q hK (by kernel_rfl) rfl
            . intro L fx w' hJ hL hp hcl;have e12 := hJ.pt 12 61 (.pointer (some ⟨S.lb, 0, none⟩)) rfl rfl rfl (hp 12 Cr);rw [e12] at hJ |-; clear e12;refine aX rfl fun K hK => ?_;have cl0 := (hJ.cells _ gM).1;try dsimp only at cl0
              go_simp;exact hJ.q hK (by kernel_rfl) rfl
            . intro L fx w' hJ hL hp hcl;have e13 := hJ.pt 13 62 (.slice (some ⟨S.o, 0, none⟩) R2.length S.cap) rfl rfl rfl (hp 13 Cr);rw [e13] at hJ |-; clear e13;have e14 := hJ.pt 14 63 (.int .i64 (kk : Int)) rfl rfl rfl (hp 14 Cr);rw [e14] at hJ |-; clear e14;refine aX rfl fun K hK => ?_;go_simp;exact hJ.q hK (by kernel_rfl) rfl
            . intro L fx w' hJ hL hp hcl;have e15 := hJ.pt 15 64 (.pointer (some ⟨S.o, kk, none⟩)) rfl rfl rfl (hp 15 Cr);rw [e15] at hJ |-; clear e15;refine aX rfl fun K hK => ?_;have cl0 := (hJ.cells _ r8).1;try dsimp only at cl0
              go_simp;exact hJ.q hK (by kernel_rfl) rfl
            . intro L fx w' hJ hL hp hcl;have e16 := hJ.pt 16 65 (.slice (some ⟨R2[kk].blk, 0, none⟩) R2[kk].xs.length R2[kk].cap) rfl rfl rfl (hp 16 Cr);rw [e16] at hJ |-; clear e16;have e17 := hJ.pt 17 66 (.int .i64 (jj : Int)) rfl rfl rfl (hp 17 Cr);rw [e17] at hJ |-; clear e17;refine aX rfl fun K hK => ?_;go_simp;exact hJ.q hK (by kernel_rfl) rfl
            . intro L fx w' hJ hL hp hcl;have e18 := hJ.pt 18 67 (.pointer (some ⟨R2[kk].blk, jj * 2, none⟩)) rfl rfl rfl (hp 18 Cr);rw [e18] at hJ |-; clear e18;refine aX rfl fun K hK => ?_;have cl0 := (hJ.cells _ mm5).1;have cl1 := (hJ.cells _ mm6).1;try dsimp only at cl0 cl1
              go_simp;exact hJ.q hK (by kernel_rfl) rfl
            . intro L fx w' hJ hL hp hcl;have e9 := hJ.pt 9 58 (.agg #[.bool pi.1, .slice pi.2.1 pi.2.2.1 pi.2.2.2]) rfl rfl rfl (hp 9 Cr);rw [e9] at hJ |-; clear e9;have e19 := hJ.pt 19 68 (.agg #[.bool pk.1, .slice pk.2.1 pk.2.2.1 pk.2.2.2]) rfl rfl rfl (hp 19 Cr);rw [e19] at hJ |-; clear e19;refine aX rfl fun K hK => ?_;go_simp;go_at_call 93;refine (nh _ _ xi xk _ (show ah w' _ _ _ from hJ.base _ gM) (show ah w' _ _ _ from hJ.base _ jk) Hpz.out).mono ?_;rintro e w4 ⟨⟨v5, v6, rfl, h5, h6⟩, hb4⟩;try dsimp only
              exact hK _ _ ⟨_, by kernel_rfl, hJ.gC 20 rfl (by kernel_rfl) hb4 ⟨_, _, rfl, ai.mono h5 (Cx _), ai.mono h6 (Cx _)⟩ Cp⟩
            . intro L fx w' hJ hL hp hcl;have e20 := hJ.slot 20 (by show 20 < 30; decide) (hp 20 Cr);refine aX rfl fun K hK => ?_;go_simp;exact hJ.q hK (by kernel_rfl) e20
            . intro L fx w' hJ hL hp hcl;have e21 := hJ.slot 21 (by show 21 < 30; decide) (hp 21 Cr);obtain ⟨vq, vr, hvt, hq1, hr1⟩ := e21;rw [aH (x := fx) (d := 48) (v := (.tuple #[vq, vr, .int .i64 0])) hvt] at hJ |-;refine aX rfl fun K hK => ?_;go_simp;exact hJ.q hK (by kernel_rfl) hq1
            . intro L fx w' hJ hL hp hcl;have e21 := hJ.slot 21 (by show 21 < 30; decide) (hp 21 Cr);obtain ⟨vq, vr, hvt, hq1, hr1⟩ := e21;rw [aH (x := fx) (d := 48) (v := (.tuple #[vq, vr, .int .i64 0])) hvt] at hJ |-;refine aX rfl fun K hK => ?_;go_simp;exact hJ.q hK (by kernel_rfl) hr1
            . intro L fx w' hJ hL hp hcl;have e21 := hJ.slot 21 (by show 21 < 30; decide) (hp 21 Cr);obtain ⟨vq, vr, hvt, hq1, hr1⟩ := e21;rw [aH (x := fx) (d := 48) (v := (.tuple #[vq, vr, .int .i64 0])) hvt] at hJ |-;refine aX rfl fun K hK => ?_;go_simp;exact hJ.q hK (by kernel_rfl) rfl
            . intro L fx w' hJ hL hp hcl;have hg0 : wr.heap.size <= w'.heap.size := Cw (by omega : wr.heap.size <= wr.heap.size) hJ.size;refine aX rfl fun K hK => ?_;go_simp;exact hK _ _ ⟨_, by kernel_rfl, hJ.grow 25 (by show 25 < 30; decide) _ (by kernel_rfl) (by kernel_rfl) (by intro t ht; rcases mc ht with rfl | ht; exact ⟨by show 27 ≠ 25; decide, fun _ => by cases hh : L 27 with | false => rfl | true => have := hcl 27 (by show 27 < 30; decide) hh 25 Cr; rw [hL] at this; cases this⟩; rcases mc ht with rfl | ht; exact ⟨by show 28 ≠ 25; decide, fun h => absurd (show 10 = 9 from h) Cr⟩; cases ht) (by intro p hp; rcases mc hp with rfl | hp; exact ⟨⟨fun _ => rfl, fun _ => rfl⟩, fun _ q hq hne hLq => (by rcases mc hq with rfl | hq; exact absurd rfl hne; rcases mc hq with rfl | hq; (obtain ⟨g9, cs9, hx9, _, hr9, _⟩ := hJ.slot 26 (by show 26 < 30; decide) hLq; have hx9 : fx 10 = _ := hx9; show _ ≠ fx 10; rw [hx9]; intro e9; injection e9 with e9; injection e9 with e9; injection e9 with e9; exact absurd e9 (EX hr9.lt)); cases hq)⟩; rcases mc hp with rfl | hp; exact ⟨⟨fun h => absurd (show 26 = 25 from h) Cr, fun h => absurd (show 10 = 9 from h) Cr⟩, fun h => absurd (show 26 = 25 from h) Cr⟩; cases hp) ((Below.refl _ _).alloc (Ct _) _) ⟨w'.heap.size, _, rfl, hJ.size, aa.new _ _ _, aN.two _ _ _ _, rfl⟩ hg0⟩
            . intro L fx w' hJ hL hp hcl;have hg0 : wr.heap.size <= w'.heap.size := Cw (by omega : wr.heap.size <= wr.heap.size) hJ.size;refine aX rfl fun K hK => ?_;go_simp;exact hK _ _ ⟨_, by kernel_rfl, hJ.grow 26 (by show 26 < 30; decide) _ (by kernel_rfl) (by kernel_rfl) (by intro t ht; rcases mc ht with rfl | ht; exact ⟨by show 27 ≠ 26; decide, fun h => absurd (show 9 = 10 from h) Cr⟩; rcases mc ht with rfl | ht; exact ⟨by show 28 ≠ 26; decide, fun _ => by cases hh : L 28 with | false => rfl | true => have := hcl 28 (by show 28 < 30; decide) hh 26 Cr; rw [hL] at this; cases this⟩; cases ht) (by intro p hp; rcases mc hp with rfl | hp; exact ⟨⟨fun h => absurd (show 25 = 26 from h) Cr, fun h => absurd (show 9 = 10 from h) Cr⟩, fun h => absurd (show 25 = 26 from h) Cr⟩; rcases mc hp with rfl | hp; exact ⟨⟨fun _ => rfl, fun _ => rfl⟩, fun _ q hq hne hLq => (by rcases mc hq with rfl | hq; (obtain ⟨g9, cs9, hx9, _, hr9, _⟩ := hJ.slot 25 (by show 25 < 30; decide) hLq; have hx9 : fx 9 = _ := hx9; show _ ≠ fx 9; rw [hx9]; intro e9; injection e9 with e9; injection e9 with e9; injection e9 with e9; exact absurd e9 (EX hr9.lt)); rcases mc hq with rfl | hq; exact absurd rfl hne; cases hq)⟩; cases hp) ((Below.refl _ _).alloc (Ct _) _) ⟨w'.heap.size, _, rfl, hJ.size, aa.new _ _ _, aN.two _ _ _ _, rfl⟩ hg0⟩
            . intro L fx w' hJ hL hp hcl;have e25 := hJ.slot 25 (by show 25 < 30; decide) (hp 25 Cr);have e22 := hJ.slot 22 (by show 22 < 30; decide) (hp 22 Cr);have e22' := e22;obtain ⟨b7, o7, l7, k7, hv0⟩ := ai.parts e22;rw [hv0] at e22';rw [aH (x := fx) (d := 70) (v := (.agg #[.bool b7, .slice o7 l7 k7])) hv0] at hJ |-;obtain ⟨g, cs, hx, hgB, hr0, hn0, hl0⟩ := e25;obtain ⟨z0, z1, rfl⟩ : ∃ z0 z1, cs = [z0, z1] := mo hl0;have hf0 := aa.free hr0 0;have hc0 := aa.cell hr0 0;have hf1 := aa.free hr0 1;have hc1 := aa.cell hr0 1;try dsimp only at hf0 hc0 hf1 hc1
              have hx1 := hx;rw [aH (x := (bD fx 70 (.agg #[.bool b7, .slice o7 l7 k7]))) (d := 9) hx] at hJ |-;refine aX rfl fun K hK => ?_;go_simp;exact hK _ _ ⟨_, by kernel_rfl, hJ.fD (us := [.bool b7, .slice o7 l7 k7]) 27 9 _ _ (by show 27 < 30; decide) rfl gM (by intro t ht h; rcases mc ht with rfl | ht; rfl; rcases mc ht with rfl | ht; exact absurd (show 28 = 27 from h) Cr; cases ht) (by intro t ht hne hLt; rcases mc ht with rfl | ht; exact absurd rfl hne; rcases mc ht with rfl | ht; exact hJ.apart (26, 10) jk (25, 9) gM (by show 26 ≠ 25; decide) (hcl 28 (by show 28 < 30; decide) hLt 26 Cr) (hp 25 Cr); cases ht) (by kernel_rfl) (by kernel_rfl) Cr (by rfl) hgB hr0 hn0 rfl (aN.two _ _ _ _) ⟨_, _, _, _, rfl, e22'⟩ Cp⟩
            . intro L fx w' hJ hL hp hcl;have e26 := hJ.slot 26 (by show 26 < 30; decide) (hp 26 Cr);have e23 := hJ.slot 23 (by show 23 < 30; decide) (hp 23 Cr);have e23' := e23;obtain ⟨b7, o7, l7, k7, hv0⟩ := ai.parts e23;rw [hv0] at e23';rw [aH (x := fx) (d := 71) (v := (.agg #[.bool b7, .slice o7 l7 k7])) hv0] at hJ |-;obtain ⟨g, cs, hx, hgB, hr0, hn0, hl0⟩ := e26;obtain ⟨z0, z1, rfl⟩ : ∃ z0 z1, cs = [z0, z1] := mo hl0;have hf0 := aa.free hr0 0;have hc0 := aa.cell hr0 0;have hf1 := aa.free hr0 1;have hc1 := aa.cell hr0 1;try dsimp only at hf0 hc0 hf1 hc1
              have hx1 := hx;rw [aH (x := (bD fx 71 (.agg #[.bool b7, .slice o7 l7 k7]))) (d := 10) hx] at hJ |-;refine aX rfl fun K hK => ?_;go_simp;exact hK _ _ ⟨_, by kernel_rfl, hJ.fD (us := [.bool b7, .slice o7 l7 k7]) 28 10 _ _ (by show 28 < 30; decide) rfl jk (by intro t ht h; rcases mc ht with rfl | ht; exact absurd (show 27 = 28 from h) Cr; rcases mc ht with rfl | ht; rfl; cases ht) (by intro t ht hne hLt; rcases mc ht with rfl | ht; exact hJ.apart (25, 9) gM (26, 10) jk (by show 25 ≠ 26; decide) (hcl 27 (by show 27 < 30; decide) hLt 25 Cr) (hp 26 Cr); rcases mc ht with rfl | ht; exact absurd rfl hne; cases ht) (by kernel_rfl) (by kernel_rfl) Cr (by rfl) hgB hr0 hn0 rfl (aN.two _ _ _ _) ⟨_, _, _, _, rfl, e23'⟩ Cp⟩
            . intro L fx w' hJ hL hp hcl;have e24 := hJ.pt 24 72 (.int .i64 0) rfl rfl rfl (hp 24 Cr);rw [e24] at hJ |-; clear e24;refine aX rfl fun K hK => ?_;go_simp;exact hJ.q hK (by kernel_rfl) rfl
          . intro L x' w3 hL hJ;have hfr : Below wr.drew.heap.size wr.drew w3 := hJ.fr;obtain ⟨g9, cs9, hx9, hg9, hr9, b9, o9, l9, k9, hcs9, hI9⟩ := hJ.new _ gM (hL 27 (by show 27 < 30; decide));subst hcs9;have hx9 : x' 9 = _ := hx9;rw [aH (x := x') (d := 9) hx9];have hg9 : wr.heap.size <= g9 := hg9;have G9 : Hid (aa w3 g9 37 [.bool b9, .slice o9 l9 k9]) := H5 hr9;have I9 : Hid (ai w3 0 (.agg #[.bool b9, .slice o9 l9 k9]) (xi.fdiv xk)) := H5 hI9;clear hJ hL hx9 hr9 hI9 cb ci ck ci0 ci1 ck0 ck1;have L3 := H5 (aI.below (w := wr.drew) hL2.out.drew hfr);have C3 := H5 (hC2.out.drew.below hfr);have R3 := H5 (aa.below (w := wr.drew) hG2.out hfr hG2.out.lt);clear hL2 hC2 hG2;simp only [pN, Nat.reduceEqDiff, ↓reduceIte];have q0 : w3.cell? ⟨g9, 0, none⟩ = some (.bool b9) := G9.out.cell 0;have q1 : w3.cell? ⟨g9, 1, none⟩ = some (.slice o9 l9 k9) := G9.out.cell 1;go_wp2_with fail
            clear q0 q1;have hqw : ag ((xi.fdiv xk)).natAbs <= B + 2 := oV Hpz.out hwi;refine (iY _ (xi.fdiv xk) _ (ai.int I9.out Cp)).mono ?_;rintro e w4 ⟨⟨vn, rfl, hn4⟩, hb4⟩;have L4 := H5 (L3.out.below hb4);have C4 := H5 (C3.out.below hb4);have R4 := H5 (R3.out.below hb4 R3.out.lt);have N4 := H5 (ai.int (L := B + 2) hn4 (by rw [DK]; exact hqw));clear hb4 hn4 L3 C3 R3 G9 I9;go_wp2_with fail
            have hlx : R2[ii].xs.length = R2[kk].xs.length := by rw [HF2.out.len _ (Cu hiR), HF2.out.len _ (Cu hkR)]
            have hlen2 : R2[ii].xs.length <= 4611686018427387903 := by rw [HF2.out.len _ (Cu hiR)]; omega
            refine (xF (S.aB R2) ii kk vn (-(xi.fdiv xk)) (B + 2) B _ L4.out hiR hkR Cp N4.out hlx (fun x hx => by have := HF2.out.fit _ (Cu hiR) x hx; omega) (fun y hy => HF2.out.fit _ (Cu hkR) y hy) Cp hlen2 (HT.out.jX R2) (HT.out.yN HF2.out) Cp).mono ?_;rintro e w5 ⟨rfl, hL5, hC5⟩;have hns : ¬ (S.aB R2).own gl := fun h => Hso.out ((Hown2.out gl).1 h);have R5 := H5 (hC5.row R4.out hns);have C5 := H5 (C4.out.trans (hC5.mono (fun k _ e => (Hown2.out k).1 e)));have L5 := H5 hL5;have he : iI R2 ii kk (-((az R2 ii jj).fdiv (az R2 kk jj))) = ji R2 ii kk (-(xi.fdiv xk)) hiR hkR := by
             rw [gE hiR hjl, gE hkR hjk, Hxi.out, Hxk.out, n7 hiR hkR]
            have HE := H5 he;clear hC5 hL5 L4 C4 R4 N4 he hlx;go_wp2;go_roundw
            case rel =>
             have h3 := HI3.out;rw [HE.out] at h3;exact ⟨kk + 1, _, by omega, by omega, by go_num, H5 (by unfold ji; rw [aE]; exact hR2.out), h3, L5, R5, C5, H5 (fun k => (gn (S.aB R2) ii _ k).trans (Hown2.out k))⟩
            case measure => simp [intOf]; omega
        . obtain rfl : R2 = R1' := HI2.out.fin Cp;have hkk : kk = m := by omega
          have Hkk := H5 hkk; clear hkk;go_wp2;go_roundw
          case rel => exact ⟨ii, R2, by omega, by go_num, hR2, HO', hL2, hG2, hC2, Hown2⟩
          case measure => simp [intOf]
theorem Bp (v u : Value) (x y : Nat) (w : World) (hA : ah w 17592186044415 v x) (hB : ah w 17592186044415 u y) (hy : y ≠ 0) :
 Calls Tryz.prog 53 #[v, u] w fun e w' => (∃ v' u', e = .returned (.tuple #[v', u', .int .i64 0]) /\ ai w' w.heap.size v' ((x / y : Nat) : Int) /\ ai w' w.heap.size u' ((x % y : Nat) : Int)) /\ Below w.heap.size w w' :=
 nj v u x y w hA hB Cp
theorem vQ {x : Int} (h : aV x < 0) : x < 0 := by
 unfold aV at h; split at h
 . assumption
 . split at h <;> omega
structure ExtX where
 r : Nat
 k : Nat
 m : Int
 l : Int
 p : P4
 q : P4
 s : P4
 t : P4
theorem yt (v u : Value) (a b : Int) (w : World) (hA : ah w 4398046511103 v a) (hB : ah w 4398046511103 u b) :
 Calls Tryz.prog 91 #[v, u] w fun e w' => (∃ g x y vg vx vy, e = .returned (.tuple #[vg, vx, vy]) /\ eU a b g x y /\ ai w' w.heap.size vg g /\ ai w' w.heap.size vx x /\ ai w' w.heap.size vy y) /\ Below w.heap.size w w' := by
 have hla := hA.ag;have hlb := hB.ag;obtain ⟨p, rfl⟩ := hA.parts;obtain ⟨q, rfl⟩ := hB.parts;have hA0 := hA;have hA := hA.mono (L' := 17592186044415) Cp;have hB := hB.mono (L' := 17592186044415) Cp;have hsa := ml a;refine bN (S0 := fun _ => False) Tryz.func91 (((Fr.nil _ w).i hA).i hB) ?_;refine aA ?_;refine aW fun g2 => ?_;refine aW fun g3 => ?_;refine aW fun g4 => ?_;refine aW fun g5 => ?_;refine aW fun g6 => ?_;refine eW ?_;refine aA ?_;refine dW ?_;refine cV (fun w H => cO _ b w H.m5) ?_;refine aC ?_;refine ld (fun h => ?_) (fun h => ?_)
 . refine jY ?_;refine rW [[], [], [], [], [], [1, 2]] ?_;refine dH ?_;refine cN (fun w H => lN _ a w H.m6) fun p1 => ?_;refine dH ?_;refine cV (fun w H => cO _ a w H.m7) ?_;refine cN (fun w H => js (aV a) w Cp Cp) fun p2 => ?_;refine dH ?_;(iterate 3 refine sW ?_);refine eQ ?_;refine tD fun w H => ?_;obtain rfl : b = 0 := dm.1 (by simpa using h);exact ⟨_, _, _, jh H.m4, jh H.m3, jh H.m2, ⟨_, _, _, _, _, _, rfl, tS a, H.m1, H.m0, ai.zero _ _⟩, H.below⟩
 refine aA ?_;refine dW ?_;refine cN (fun w H => lN _ a w H.m6) fun p1 => ?_;refine dW ?_;refine cN (fun w H => lN _ b w H.m6) fun p2 => ?_;refine dW ?_;refine aW fun g7 => ?_;refine sG ?_;refine eW ?_;refine aA ?_;refine cN (fun w H => js 1 w Cp Cp) fun p3 => ?_;refine cN (fun w H => js 0 w Cp Cp) fun p4 => ?_;refine dW ?_;refine aW fun g8 => ?_;refine sG ?_;refine eQ ?_;have hb0 : b ≠ 0 := fun e => by rw [dm.2 e] at h; cases h
 refine cF (X := ExtX) (fun x => mS a.natAbs b x.r x.k x.m x.l /\ x.r <= max a.natAbs b.natAbs /\ x.k <= max a.natAbs b.natAbs) (·.k) (fun _ => [(8, .pointer (some ⟨g8, 0, none⟩)), (7, .pointer (some ⟨g7, 0, none⟩)), (6, .pointer (some ⟨g6, 0, none⟩)), (5, .pointer (some ⟨g5, 0, none⟩)), (4, .pointer (some ⟨g4, 0, none⟩)), (3, .pointer (some ⟨g3, 0, none⟩)), (2, .pointer (some ⟨g2, 0, none⟩))])
  (fun x => [.row g8 136 (cl x.s ++ cl x.t), .own w.heap.size (av x.t) x.l, .own w.heap.size (av x.s) x.m, .row g7 136 (cl x.p ++ cl x.q), .own w.heap.size (av x.q) x.k, .own w.heap.size (av x.p) x.r, .row g6 37 (cl p0), .row g5 37 (cl p0), .row g4 37 (cl p0), .row g3 37 (cl q), .row g2 37 (cl p), .at 17592186044415 (av q) b, .at 17592186044415 (av p) a])
  ⟨a.natAbs, b.natAbs, 1, 0, p1, p2, p3, p4⟩ ⟨mS.start _ hb0, Nat.le_max_left .., Nat.le_max_right ..⟩ (fun x hx => ?_)
 . have hmx : ag (max a.natAbs b.natAbs) <= 4398046511103 := by rcases Nat.le_total a.natAbs b.natAbs with h | h <;> simp [Nat.max_eq_left, Nat.max_eq_right, h, hla, hlb]
   obtain ⟨hE, hr, hk⟩ := hx;have br : ag ((x.r : Nat) : Int).natAbs <= 4398046511103 := Cw (aJ hr) hmx;have bk : ag ((x.k : Nat) : Int).natAbs <= 4398046511103 := Cw (aJ hk) hmx;have bm : ag x.m.natAbs <= 4398046511103 := Cw (aJ hE.k0) hlb;have bl : ag x.l.natAbs <= 4398046511103 := Cw (aJ hE.k1) hlb;refine aA ?_;refine aT ?_;refine cV (fun w H => cO _ x.k w (ai.int H.m4 Cp)) ?_;refine aC ?_;refine ld (fun h => ?_) (fun h => ?_)
   . have hk0 : x.k ≠ 0 := fun e => by rw [e] at h; cases h
     refine aA ?_;refine bh ?_;refine cN2 (fun w H => Bp _ _ x.r x.k w (ai.int H.m5 Cp) (ai.int H.m4 Cp) Cp) fun p5 p6 => ?_;refine bh ?_;refine aW fun g9 => ?_;refine aW fun g10 => ?_;refine sG ?_;refine sG ?_;refine aC ?_;refine rW [] ?_;refine bh ?_;refine dW ?_;have hs := hE.step hk0;have bq : ag ((x.r / x.k : Nat) : Int).natAbs <= 4398046511103 := Cw (aJ (Cw (Ec ..) hr)) hmx;have bn := Cw (aJ hs.k1) hlb;refine cN (x := ((x.r / x.k : Nat) : Int) * x.l) (fun w H => ib _ _ _ _ 4398046511103 4398046511103 w (ai.int H.m2 bq) (ai.int H.m5 bl) Cp) fun p7 => ?_;refine cN (fun w H => lL _ _ _ _ w (ai.int H.m7 Cp) (ai.int H.m0 (Cw (by rw [CP]; exact cT ..) (by omega : _ <= 17592186044415)))) fun p8 => ?_;refine aW fun g12 => ?_;refine sG ?_;refine eW ?_;refine aA ?_;refine bh ?_;refine sW ?_;refine eW ?_;refine aA ?_;refine bh ?_;refine sW ?_;refine eQ ?_;refine cD ⟨x.k, x.r % x.k, x.l, x.m - ((x.r / x.k : Nat) : Int) * x.l, x.q, p6, x.t, p8⟩ ⟨⟨hs, hk, Cw (Dg (Dm _ Cp)) hk⟩, Dm _ Cp⟩
   . have hk0 : x.k = 0 := by
      have := dm.1 (by simpa using h : aV x.k = 0);omega
     rw [hk0] at hE;obtain ⟨hg, hd⟩ := hE.done hb0;have hmb := hE.k0;refine jY ?_;refine rW [[], [], [8], [8]] ?_;(iterate 4 refine dH ?_);refine sW ?_;refine sW ?_;refine eW ?_;refine aA ?_;refine dW ?_;refine cV (fun w H => cO _ a w H.m12) ?_;refine aC ?_;refine xn (X := P4 × Int) (fun z => b ∣ (x.r : Int) - z.2 * a /\ ag z.2.natAbs <= 4398046511103) (fun _ => [(6, .pointer (some ⟨g6, 0, none⟩)), (5, .pointer (some ⟨g5, 0, none⟩)), (4, .pointer (some ⟨g4, 0, none⟩)), (3, .pointer (some ⟨g3, 0, none⟩)), (2, .pointer (some ⟨g2, 0, none⟩))])
      (fun z => [.own w.heap.size (av z.1) z.2, .own w.heap.size (av x.p) x.r, .row g6 37 (cl p0), .row g5 37 (cl z.1), .row g4 37 (cl x.p), .row g3 37 (cl q), .row g2 37 (cl p), .at 17592186044415 (av q) b, .at 17592186044415 (av p) a]) ?_ (fun z hz => ?_)
     . refine ld (fun h => ?_) (fun h => ?_)
       . have ha := vQ (by simpa using h);rw [if_pos ha] at hd;refine aA ?_;refine dW ?_;refine cN (fun w H => iY _ x.m w (ai.int H.m2 Cp)) fun p9 => ?_;refine sW ?_;refine eQ ?_;exact oh (p9, -x.m) ⟨hd, by simpa using bm⟩
       . have ha : ¬ a < 0 := fun e => by
          have : aV a = -1 := by unfold aV; rw [if_pos e]
          rw [this] at h; cases h
         rw [if_neg ha] at hd;refine jY ?_;exact oh (x.s, x.m) ⟨hd, bm⟩
     . obtain ⟨pm, m⟩ := z;obtain ⟨h1, h2, h3, h4⟩ := sH hb0 hg hz.1;have bz : ag m.natAbs <= 4398046511103 := hz.2;have hr0 : (x.r : Int) ≠ 0 := fun e => hb0 (Int.zero_dvd.1 (e ▸ h1));have bq : ag (b / (x.r : Int)).natAbs <= 4398046511103 := Cw (aJ (EG _ _)) hlb;have bx : ag (m % (b / (x.r : Int))).natAbs <= 4398046511103 := Cw (aJ (by have := DO m h2; have := Int.emod_lt m h2; omega)) bq;refine aA ?_;refine aT ?_;refine uz (fun w H => eZ _ _ b x.r w H.m7 (ai.int H.m1 Cp) hr0 h1) fun p9 => ?_;refine aT ?_;refine dW ?_;refine aW fun g13 => ?_;refine sG ?_;refine aC ?_;refine rW [[], [], [], [], [], [5]] ?_;refine dH ?_;refine dH ?_;refine uz (fun w H => uq _ _ m _ w (ai.int H.m2 Cp) (ai.int H.m1 Cp) h2) fun p10 => ?_;(iterate 3 refine dH ?_);refine sW ?_;refine eQ ?_;refine rW [[], [], [], [], [], [], [], [], [], [5]] ?_;(iterate 3 refine dH ?_);refine cN (fun w H => ib _ _ a _ 4398046511103 4398046511103 w (ah.below hA0 H.below) (ai.int H.m0 bx) Cp) fun p11 => ?_;have bp : ag (a * (m % (b / (x.r : Int)))).natAbs <= 8796093022206 := Cw (by rw [CP]; exact cT ..) (by omega : _ <= 8796093022206);refine cN (fun w H => lL _ _ _ _ w (ai.int H.m5 Cp) (ai.int H.m0 Cp)) fun p12 => ?_;refine dH ?_;have bs : ag ((x.r : Int) - a * (m % (b / (x.r : Int)))).natAbs <= 17592186044415 := by
        have h5 := aJ (Int.natAbs_sub_le (x.r : Int) (a * (m % (b / (x.r : Int)))));have h6 := o4 (x.r : Int).natAbs (a * (m % (b / (x.r : Int)))).natAbs;have h7 : max (ag (x.r : Int).natAbs) (ag (a * (m % (b / (x.r : Int)))).natAbs) <= 8796093022206 := Nat.max_le.2 ⟨by omega, bp⟩;omega
       refine uz (fun w H => eZ _ _ _ b w (ai.int H.m0 bs) H.m12 hb0 h3) fun p13 => ?_;(iterate 3 refine dH ?_);refine sW ?_;refine eQ ?_;refine rW [[], [10], [10, 9]] ?_;(iterate 3 refine dH ?_);(iterate 3 refine sW ?_);refine eQ ?_;refine tD fun w H => ?_;exact ⟨_, _, _, jh H.m10, jh H.m9, jh H.m8, ⟨_, _, _, _, _, _, rfl, h4, H.m7, H.m3, H.m0⟩, H.below⟩
end Go.Proofs.YtjjlmfmoihooiaaGreat
namespace Go.Proofs.YtjjlmfmoihooiaaGreat
def mg (r0 r1 : Nat) (m0 m1 : Int) : Nat × Int :=
 if h : r1 = 0 then (r0, m0) else mg r1 (r0 % r1) m1 (m0 - ((r0 / r1 : Nat) : Int) * m1)
termination_by r1
decreasing_by exact Dm _ (Nat.pos_of_ne_zero h)
theorem yD {A : Nat} {b : Int} : ∀ (r1 r0 : Nat) (m0 m1 : Int), mS A b r0 r1 m0 m1 -> ∃ m', mS A b (mg r0 r1 m0 m1).1 0 (mg r0 r1 m0 m1).2 m' := by
 intro r1;induction r1 using Nat.strongRecOn with
 | _ r1 ih =>
  intro r0 m0 m1 h;by_cases h0 : r1 = 0
  . subst h0; rw [mg]; exact ⟨m1, by simpa using h⟩
  . rw [mg, dif_neg h0];exact ih (r0 % r1) (Dm _ (Nat.pos_of_ne_zero h0)) _ _ _ (h.step h0)
def bT (a b : Int) : Int := if b = 0 then a.natAbs else (mg a.natAbs b.natAbs 1 0).1
def eu (a b : Int) : Int := if b = 0 then a.sign else (if a < 0 then -(mg a.natAbs b.natAbs 1 0).2 else (mg a.natAbs b.natAbs 1 0).2) % (b / bT a b)
def fP (a b : Int) : Int := if b = 0 then 0 else (bT a b - a * eu a b) / b
theorem j9 (a b : Int) : eU a b (bT a b) (eu a b) (fP a b) := by
 by_cases hb : b = 0
 . unfold eU bT eu fP; simp [hb]
 . obtain ⟨m', h⟩ := yD _ _ _ _ (mS.start a.natAbs hb);obtain ⟨h1, h2⟩ := h.done hb;have hg : bT a b = ((mg a.natAbs b.natAbs 1 0).1 : Int) := by unfold bT; rw [if_neg hb]
   have h3 := (sH (m := if a < 0 then -(mg a.natAbs b.natAbs 1 0).2 else (mg a.natAbs b.natAbs 1 0).2) hb (hg.trans h1) (by rw [hg]; exact h2)).2.2.2;have hx : eu a b = (if a < 0 then -(mg a.natAbs b.natAbs 1 0).2 else (mg a.natAbs b.natAbs 1 0).2) % (b / bT a b) := by
    unfold eu; rw [if_neg hb]
   have hy : fP a b = (bT a b - a * eu a b) / b := by unfold fP; rw [if_neg hb]
   rw [hy, hx];exact h3
theorem eU.unique {a b g x y g' x' y' : Int} (h : eU a b g x y) (h' : eU a b g' x' y') : g = g' /\ x = x' /\ y = y' := by
 unfold eU at h h';by_cases hb : b = 0
 . rw [if_pos hb] at h h';obtain ⟨h1, h2, h3⟩ := h;obtain ⟨h1', h2', h3'⟩ := h';exact ⟨h1.trans h1'.symm, h2.trans h2'.symm, h3.trans h3'.symm⟩
 . rw [if_neg hb] at h h';obtain ⟨h1, h2, h3, h4⟩ := h;obtain ⟨h1', h2', h3', h4'⟩ := h';have hg : g = g' := h1.trans h1'.symm;subst hg;have hgb : g ∣ b := h1 ▸ Fb ..;have hga : g ∣ a := h1 ▸ Int.gcd_dvd_left ..;obtain ⟨c, hc⟩ := hgb;obtain ⟨e, he⟩ := hga;have hg0 : g ≠ 0 := fun hh => hb (by rw [hc, hh, De]);have hgp : 0 < g := by rw [h1] at hg0 |-; omega
   have k1 : e * x + c * y = 1 := by
    have : g * (e * x + c * y) = g * 1 := by rw [DB, <- CH, <- CH, <- he, <- hc, h4, Eg]
    exact DC hg0 this
   have k2 : e * x' + c * y' = 1 := by
    have : g * (e * x' + c * y') = g * 1 := by rw [DB, <- CH, <- CH, <- he, <- hc, h4', Eg]
    exact DC hg0 this
   have hcb : (b.natAbs : Int) = c.natAbs * g := by
    rw [hc, CP, Dq, Int.natAbs_of_nonneg (D1 hgp), Dc]
   rw [hcb] at h3 h3';have hx : x < c.natAbs := Int.lt_of_mul_lt_mul_right h3 (D1 hgp);have hx' : x' < c.natAbs := Int.lt_of_mul_lt_mul_right h3' (D1 hgp);have hdv : c ∣ x - x' := by
    have e1 : x - x' = c * (x * y' - x' * y) := by
     have e2 : x * (e * x' + c * y') - x' * (e * x + c * y) = x - x' := by rw [k1, k2]; omega
     rw [<- e2];simp only [DB, EM];have e3 : x * (e * x') = x' * (e * x) := by rw [Dr, Dr x' e x, Dc x x']
     have e4 : x * (c * y') = c * (x * y') := Dr ..;have e5 : x' * (c * y) = c * (x' * y) := Dr ..;rw [e3, e4, e5]; omega
    exact ⟨_, e1⟩
   have hxx : x = x' := by
    have hn := Int.natAbs_dvd_natAbs.2 hdv;have hlt : (x - x').natAbs < c.natAbs := by omega
    have := Nat.eq_zero_of_dvd_of_lt hn hlt;omega
   subst hxx;refine ⟨rfl, rfl, ?_⟩;have : b * y = b * y' := by omega
   exact DC hb this
end Go.Proofs.YtjjlmfmoihooiaaGreat
namespace Go.Proofs.YtjjlmfmoihooiaaGreat
open Go.RowKit
theorem zr (v u : Value) (a b : Int) (w : World) (hA : ah w 4398046511103 v a) (hB : ah w 4398046511103 u b) :
 Calls Tryz.prog 91 #[v, u] w fun e w' => (∃ vg vx vy, e = .returned (.tuple #[vg, vx, vy]) /\ ai w' w.heap.size vg (bT a b) /\ ai w' w.heap.size vx (eu a b) /\ ai w' w.heap.size vy (fP a b)) /\ Below w.heap.size w w' := by
 refine (yt v u a b w hA hB).mono ?_;rintro e w' ⟨⟨g, x, y, vg, vx, vy, rfl, hE, h1, h2, h3⟩, hb⟩;obtain ⟨rfl, rfl, rfl⟩ := hE.unique (j9 a b);exact ⟨⟨vg, vx, vy, rfl, h1, h2, h3⟩, hb⟩
theorem wJ {x y : Int} {B : Nat} (hy : y ≠ 0) (h : ag y.natAbs <= B) : ag (x.fmod y).natAbs <= B := by
 refine Cw (aJ ?_) h;have h1 := DO x hy;have h2 := Int.emod_lt x hy;rw [Int.fmod_eq_emod];split <;> omega
theorem jz (a b : Int) : bT a b ∣ a /\ bT a b ∣ b /\ (a ≠ 0 -> bT a b ≠ 0) /\ 0 <= bT a b := by
 have h := j9 a b;unfold eU at h;by_cases hb : b = 0
 . rw [if_pos hb] at h;rw [h.1, hb];refine ⟨Int.natAbs_dvd.2 (Int.dvd_refl a), Int.dvd_zero _, fun ha => by omega, by omega⟩
 . rw [if_neg hb] at h;rw [h.1];refine ⟨Int.gcd_dvd_left .., Fb .., fun ha h0 => ?_, by omega⟩;have : Int.gcd a b = 0 := by omega
   exact ha (Int.gcd_eq_zero_iff.1 this).1
theorem AI (a b : Int) (hg : bT a b ≠ 0) : eu a b * (a / bT a b) + fP a b * (b / bT a b) = 1 := by
 have h := j9 a b;have hd := jz a b;have key : a * eu a b + b * fP a b = bT a b := by
  unfold eU at h;split at h
  . rename_i hb;rw [h.1, h.2.1, h.2.2, hb, De, EW, Dc];rcases Fc a 0 with e | e | e
    . rw [DW e]; omega
    . subst e; rfl
    . rw [Ek e]; omega
  . exact h.2.2.2
 have ha : bT a b * (a / bT a b) = a := EN hd.1;have hb : bT a b * (b / bT a b) = b := EN hd.2.1;refine DC hg ?_;rw [DB, Dr, ha, Dr, hb, Eg, Dc (eu a b), Dc (fP a b)];exact key
theorem pX (a b : Int) : (eu a b).natAbs <= b.natAbs + 1 := by
 have h := j9 a b;have hg := jz a b;unfold eU at h;by_cases hb : b = 0
 . rw [if_pos hb] at h;rw [h.2.1];have := Int.natAbs_sign a;rcases Fc a 0 with h1 | h1 | h1
   . rw [DW h1]; simp
   . subst h1; simp
   . rw [Ek h1]; simp
 . rw [if_neg hb] at h;obtain ⟨h1, h2, h3, h4⟩ := h;have hg1 : 1 <= bT a b := by
    have h0 : bT a b ≠ 0 := by
     rw [h1]; intro h0;have : Int.gcd a b = 0 := by omega
     exact hb (Int.gcd_eq_zero_iff.1 this).2
    have := hg.2.2.2;omega
   have : eu a b * 1 <= eu a b * bT a b := DM hg1 h2;omega
theorem uN (a b : Int) : (fP a b).natAbs <= a.natAbs + 1 := by
 have h := j9 a b;have hx := pX a b;unfold eU at h;by_cases hb : b = 0
 . rw [if_pos hb] at h;rw [h.2.2]; simp
 . rw [if_neg hb] at h;obtain ⟨h1, h2, h3, h4⟩ := h;have hg := (jz a b).2.2.2;have hgb : (bT a b).natAbs <= b.natAbs := by
    rw [h1];simp only [EU];exact Nat.le_of_dvd Cp (Int.natAbs_dvd_natAbs.2 (Fb a b) |> fun h => by simpa using h)
   have hg1 : 1 <= bT a b := by
    have h0 : bT a b ≠ 0 := by
     rw [h1]; intro h0;have : Int.gcd a b = 0 := by omega
     exact hb (Int.gcd_eq_zero_iff.1 this).2
    omega
   have hxl : (eu a b).natAbs <= b.natAbs := by
    have : eu a b * 1 <= eu a b * bT a b := DM hg1 h2;omega
   have h5 : b * fP a b = bT a b - a * eu a b := by omega
   have h6 : b.natAbs * (fP a b).natAbs <= b.natAbs * (a.natAbs + 1) := by
    rw [<- CP, h5];have h7 : (bT a b - a * eu a b).natAbs <= (bT a b).natAbs + (a * eu a b).natAbs := Int.natAbs_sub_le ..;have h8 : (a * eu a b).natAbs <= a.natAbs * b.natAbs := by rw [CP]; exact CD _ hxl
    rw [CA, Ee, CE b.natAbs a.natAbs];omega
   exact Nat.le_of_mul_le_mul_left h6 Cp
theorem pA {n m B : Nat} (h : n <= m + 1) (hm : ag m <= B) : ag n <= B + 2 := by
 have h3 := aJ h;have h4 := o4 m 1;have h5 : ag 1 <= 1 := an Cr;have h6 : max (ag m) (ag 1) <= B + 1 := Nat.max_le.2 ⟨by omega, by omega⟩;omega
def l5 (R : List Hd) (i j : Nat) (a b c d : Int) : List Hd := if h : i < R.length /\ j < R.length then kF R i j a b c d h.1 h.2 else R
theorem uZ {R : List Hd} {i j : Nat} {a b c d : Int} (hi : i < R.length) (hj : j < R.length) : l5 R i j a b c d = kF R i j a b c d hi hj := by unfold l5; rw [dif_pos ⟨hi, hj⟩]
def bB (R : List Hd) (k n j : Nat) : List Hd := iI R n k (-((az R n j).fdiv (az R k j)))
def dR (R : List Hd) (k n j : Nat) : List Hd :=
 if (az R n j).fmod (az R k j) = 0 then bB R k n j
 else l5 (bB R k n j) k n (eu (az (bB R k n j) k j) (az (bB R k n j) n j)) (fP (az (bB R k n j) k j) (az (bB R k n j) n j))
  (-(az (bB R k n j) n j / bT (az (bB R k n j) k j) (az (bB R k n j) n j))) (az (bB R k n j) k j / bT (az (bB R k n j) k j) (az (bB R k n j) n j))
def AV.int4 (B : Nat) (a b c d : Int) : AV := AV.free (fun w v => ∃ p q r s : P4, v = .agg #[.bool p.1, .slice p.2.1 p.2.2.1 p.2.2.2, .bool q.1, .slice q.2.1 q.2.2.1 q.2.2.2, .bool r.1, .slice r.2.1 r.2.2.1 r.2.2.2, .bool s.1, .slice s.2.1 s.2.2.1 s.2.2.2] /\ ai w B (av p) a /\ ai w B (av q) b /\ ai w B (av r) c /\ ai w B (av s) d) (fun ⟨p, q, r, s, e, h1, h2, h3, h4⟩ hb => ⟨p, q, r, s, e, ai.below h1 hb, ai.below h2 hb, ai.below h3 hb, ai.below h4 hb⟩) (fun ⟨p, q, r, s, e, h1, h2, h3, h4⟩ hr _ ht k u _ => ⟨p, q, r, s, e, ai.setRow h1 hr ht k u, ai.setRow h2 hr ht k u, ai.setRow h3 hr ht k u, ai.setRow h4 hr ht k u⟩)
theorem aa.ownBlock {w : World} {g : Nat} {t : TypeId} {cs : List Value} (h : aa w g t cs) {g' : Nat} {cur : Array Value} (hg : w.heap[g']? = some (.cells cur 60 (0, 0))) (ht : t ≠ 60) : g' ≠ g := by
 rintro rfl;unfold aa at h;rw [hg] at h;simp only [Option.some.injEq, Obj.cells.injEq] at h;exact ht h.2.1.symm
theorem eF.typed {w : World} {S : cR} (h : eF w S) : ∀ g, S.rws g -> ∃ t cs, aa w g t cs /\ t ≠ 60 := by
 intro g hg;rcases hg with rfl | ⟨r, hr, rfl⟩
 . obtain ⟨tl, n, ho⟩ := h.dU.out; exact ⟨_, _, ho, by decide⟩
 . obtain ⟨ps, tl, nt, hp, _⟩ := h.dU.row r hr;exact ⟨_, _, hp, by decide⟩
theorem aI.xf {w : World} {S : cR} (h : aI w S) : ∀ g, S.own g -> ∃ t cs, aa w g t cs /\ t ≠ 60 := by
 rintro g (e | ⟨t, ht, e⟩)
 . exact h.sd.typed g e
 . obtain ⟨V, hV⟩ := h.ext t ht;exact hV.sd.typed g ((hV.own g).1 e)
theorem aU.ownI {S : Nat -> Prop} {w w' : World} (h : aU S w w') (hS : ∀ g, S g -> ∃ t cs, aa w g t cs /\ t ≠ 60) {B : Nat} {v : Value} {x : Int} (hx : ai w B v x) : ai w' B v x := by
 obtain ⟨ao, cap, rfl, h1, h2, h3, h4⟩ := hx;refine ⟨ao, cap, rfl, h1, h2, h3, ?_⟩;rcases h4 with h0 | ⟨g, c, cur, hv, hbb, hg, r⟩
 . exact .inl h0
 . refine .inr ⟨g, c, cur, hv, hbb, ?_, r⟩;rw [h.block g (Array.getElem?_eq_some_iff.1 hg).1 (fun hs => by obtain ⟨t, cs, hr, ht⟩ := hS g hs; exact hr.ownBlock hg ht rfl)];exact hg
theorem BZ (S : cR) (k n j B c : Nat) (w : World) (h : aI w S) (hk : k < S.R.length) (hn : n < S.R.length) (hkn : k ≠ n) (hj : j < c) (hB : B <= 4000000000000) (hF : Fit B c S.R) (hF1 : Fit B c (bB S.R k n j)) (hp : az S.R k j ≠ 0) (hp1 : az (bB S.R k n j) k j ≠ 0) (hR : S.R.length <= 1000000) (hc : c <= 1000000) (hT : S.sat B c) :
 Calls Tryz.prog 118 #[.pointer (some ⟨S.lb, 0, none⟩), .int .i64 (k : Int), .int .i64 (n : Int), .int .i64 (j : Int)] w fun e w' => e = .returned (.tuple #[]) /\ aI w' (S.aB (dR S.R k n j)) /\ aU S.own w w' := by
 have HL := H5 h; clear h;have HF := H5 hF; clear hF;have HF1 := H5 hF1; clear hF1;have HP := H5 hp; clear hp;have HP1 := H5 hp1; clear hp1;have HT := H5 hT; clear hT;go_enter Tryz.func118, Tryz.ntmps118;have cb : w.cell? ⟨S.lb, 0, none⟩ = some (.slice (some ⟨S.o, 0, none⟩) S.R.length S.cap) := HL.out.lad.cell 0;have ci : w.cell? ⟨S.o, n, none⟩ = some (.slice (some ⟨S.R[n].blk, 0, none⟩) S.R[n].xs.length S.R[n].cap) := HL.out.dU.dA (i := n) hn;have ck : w.cell? ⟨S.o, k, none⟩ = some (.slice (some ⟨S.R[k].blk, 0, none⟩) S.R[k].xs.length S.R[k].cap) := HL.out.dU.dA (i := k) hk;have hXi := HL.out.dU.row _ (Cu (l := S.R) hn);have hXk := HL.out.dU.row _ (Cu (l := S.R) hk);have hjl : j < S.R[n].xs.length := by rw [HF.out.len _ (Cu hn)]; exact hj
 have hjk : j < S.R[k].xs.length := by rw [HF.out.len _ (Cu hk)]; exact hj
 have hjl1 : (j : Int) < (S.R[n].xs.length : Int) := by omega
 have hjk1 : (j : Int) < (S.R[k].xs.length : Int) := by omega
 have hi1 : (n : Int) < (S.R.length : Int) := by omega
 have hk1 : (k : Int) < (S.R.length : Int) := by omega
 obtain ⟨pi, ci0, ci1, hni⟩ := hXi.get hjl;obtain ⟨pk, ck0, ck1, hnk⟩ := hXk.get hjk;have hwi : ag (S.R[n].xs[j]).natAbs <= B := HF.out.fit _ (Cu hn) _ (Cu hjl);have hwk : ag (S.R[k].xs[j]).natAbs <= B := HF.out.fit _ (Cu hk) _ (Cu hjk);obtain ⟨xi, hxi⟩ := Cs (S.R[n].xs[j]);obtain ⟨xk, hxk⟩ := Cs (S.R[k].xs[j]);rw [hxi] at hni hwi;rw [hxk] at hnk hwk;have Hxi := H5 ((gE hn hjl).trans hxi); clear hxi;have Hxk := H5 ((gE hk hjk).trans hxk); clear hxk;have sb1 := hXi.lt;have sb2 := hXk.lt;have sb3 : S.lb < w.heap.size := HL.out.lad.lt;have sb4 : S.o < w.heap.size := HL.out.dU.out.lt;clear hXi hXk;have hpz : xk ≠ 0 := by have := HP.out; rw [Hxk.out] at this; exact this
 have Hpz := H5 hpz; clear hpz;have Hni := H5 (hni.int (L := 17592186044415) Cp);have Hnk := H5 (hnk.int (L := 17592186044415) Cp);clear hni hnk;go_wp2;refine eK ⟨30, fun q_ => [21, 22, 23, 24, 25, 26, 27, 28, 29, 30, 31, 32, 33, 34, 35, 36, 37, 38, 39, 40, 41, 20, 42, 43, 44, 8, 9, 1027, 1028, 10].getD q_ 0,
  fun q_ => [.val (.pointer (some ⟨S.lb, 0, none⟩)), .val (.pointer (some ⟨S.lb, 0, none⟩)), .val (.pointer (some ⟨S.lb, 0, none⟩)), .val (.slice (some ⟨S.o, 0, none⟩) S.R.length S.cap), .val (.int .i64 (n : Int)), .val (.pointer (some ⟨S.o, n, none⟩)), .val (.slice (some ⟨S.R[n].blk, 0, none⟩) S.R[n].xs.length S.R[n].cap), .val (.int .i64 (j : Int)), .val (.pointer (some ⟨S.R[n].blk, j * 2, none⟩)), .val (.agg #[.bool pi.1, .slice pi.2.1 pi.2.2.1 pi.2.2.2]), .val (.pointer (some ⟨S.lb, 0, none⟩)), .val (.pointer (some ⟨S.lb, 0, none⟩)), .val (.pointer (some ⟨S.lb, 0, none⟩)), .val (.slice (some ⟨S.o, 0, none⟩) S.R.length S.cap), .val (.int .i64 (k : Int)), .val (.pointer (some ⟨S.o, k, none⟩)), .val (.slice (some ⟨S.R[k].blk, 0, none⟩) S.R[k].xs.length S.R[k].cap), .val (.int .i64 (j : Int)), .val (.pointer (some ⟨S.R[k].blk, j * 2, none⟩)), .val (.agg #[.bool pk.1, .slice pk.2.1 pk.2.2.1 pk.2.2.2]), .Ay 0 (xi.fdiv xk) (xi.fmod xk), .Ay 0 (xi.fdiv xk) (xi.fmod xk), .int 0 (xi.fdiv xk), .int 0 (xi.fmod xk), .val (.int .i64 0), .ptr w.heap.size 37 2, .ptr w.heap.size 37 2, .any, .any, .val (.int .i64 0)].getD q_ .any,
  [],
  [(.agg #[.bool pi.1, .slice pi.2.1 pi.2.2.1 pi.2.2.2], .at_ 17592186044415 xi), (.agg #[.bool pk.1, .slice pk.2.1 pk.2.2.1 pk.2.2.2], .at_ 17592186044415 xk)],
  [],
  [(27, 8, 37, .int 0 (xi.fdiv xk)), (28, 9, 37, .int 0 (xi.fmod xk))], [(⟨S.lb, 0, none⟩, .slice (some ⟨S.o, 0, none⟩) S.R.length S.cap), (⟨S.o, n, none⟩, .slice (some ⟨S.R[n].blk, 0, none⟩) S.R[n].xs.length S.R[n].cap), (⟨S.o, k, none⟩, .slice (some ⟨S.R[k].blk, 0, none⟩) S.R[k].xs.length S.R[k].cap), (⟨S.R[n].blk, j * 2, none⟩, .bool pi.1), (⟨S.R[n].blk, j * 2 + 1, none⟩, .slice pi.2.1 pi.2.2.1 pi.2.2.2), (⟨S.R[k].blk, j * 2, none⟩, .bool pk.1), (⟨S.R[k].blk, j * 2 + 1, none⟩, .slice pk.2.1 pk.2.2.1 pk.2.2.2)], [(25, 8), (26, 9)]⟩ [21, 22, 23, 24, 25, 26, 27, 28, 29, 30, 31, 32, 33, 34, 35, 36, 37, 38, 39, 40, 41, 20, 42, 43, 44, 8, 9, 10] (w.heap.size) (by kernel_rfl) (by kernel_rfl) (by kernel_rfl) (by kernel_rfl) ?_ ?_ ?_ ?_ ?_ ?_
 . exact bO (Hni.out) (bO (Hnk.out) bf)
 . exact bf
 . exact bO (⟨cb, by dsimp only; omega, bf⟩) (bO (⟨ci, by dsimp only; omega, bf⟩) (bO (⟨ck, by dsimp only; omega, bf⟩) (bO (⟨ci0, by dsimp only; omega, bf⟩) (bO (⟨ci1, by dsimp only; omega, bf⟩) (bO (⟨ck0, by dsimp only; omega, bf⟩) (bO (⟨ck1, by dsimp only; omega, bf⟩) bf))))))
 . exact bf
 . refine aj ?_ (aj ?_ (aj ?_ (aj ?_ (aj ?_ (aj ?_ (aj ?_ (aj ?_ (aj ?_ (aj ?_ (aj ?_ (aj ?_ (aj ?_ (aj ?_ (aj ?_ (aj ?_ (aj ?_ (aj ?_ (aj ?_ (aj ?_ (aj ?_ (aj ?_ (aj ?_ (aj ?_ (aj ?_ (aj ?_ (aj ?_ (aj ?_ (aj ?_ (aj ?_ lk)))))))))))))))))))))))))))));any_goals (first | (intro L fx w' hJ hL hp hcl; have _ := tN hp (by decide +kernel); refine aX rfl fun K hK => ?_; go_simp; exact hJ.q hK (by kernel_rfl) rfl) | fail)
   . intro L fx w' hJ hL hp hcl;have e0 := hJ.pt 0 21 (.pointer (some ⟨S.lb, 0, none⟩)) rfl rfl rfl (hp 0 Cr);rw [e0] at hJ |-; clear e0;refine aX rfl fun K hK => ?_;go_simp;exact hJ.q hK (by kernel_rfl) rfl
   . intro L fx w' hJ hL hp hcl;have e1 := hJ.pt 1 22 (.pointer (some ⟨S.lb, 0, none⟩)) rfl rfl rfl (hp 1 Cr);rw [e1] at hJ |-; clear e1;refine aX rfl fun K hK => ?_;go_simp;exact hJ.q hK (by kernel_rfl) rfl
   . intro L fx w' hJ hL hp hcl;have e2 := hJ.pt 2 23 (.pointer (some ⟨S.lb, 0, none⟩)) rfl rfl rfl (hp 2 Cr);rw [e2] at hJ |-; clear e2;refine aX rfl fun K hK => ?_;have cl0 := (hJ.cells _ gM).1;try dsimp only at cl0
     go_simp;exact hJ.q hK (by kernel_rfl) rfl
   . intro L fx w' hJ hL hp hcl;have e3 := hJ.pt 3 24 (.slice (some ⟨S.o, 0, none⟩) S.R.length S.cap) rfl rfl rfl (hp 3 Cr);rw [e3] at hJ |-; clear e3;have e4 := hJ.pt 4 25 (.int .i64 (n : Int)) rfl rfl rfl (hp 4 Cr);rw [e4] at hJ |-; clear e4;refine aX rfl fun K hK => ?_;go_simp;exact hJ.q hK (by kernel_rfl) rfl
   . intro L fx w' hJ hL hp hcl;have e5 := hJ.pt 5 26 (.pointer (some ⟨S.o, n, none⟩)) rfl rfl rfl (hp 5 Cr);rw [e5] at hJ |-; clear e5;refine aX rfl fun K hK => ?_;have cl0 := (hJ.cells _ jk).1;try dsimp only at cl0
     go_simp;exact hJ.q hK (by kernel_rfl) rfl
   . intro L fx w' hJ hL hp hcl;have e6 := hJ.pt 6 27 (.slice (some ⟨S.R[n].blk, 0, none⟩) S.R[n].xs.length S.R[n].cap) rfl rfl rfl (hp 6 Cr);rw [e6] at hJ |-; clear e6;have e7 := hJ.pt 7 28 (.int .i64 (j : Int)) rfl rfl rfl (hp 7 Cr);rw [e7] at hJ |-; clear e7;refine aX rfl fun K hK => ?_;go_simp;exact hJ.q hK (by kernel_rfl) rfl
   . intro L fx w' hJ hL hp hcl;have e8 := hJ.pt 8 29 (.pointer (some ⟨S.R[n].blk, j * 2, none⟩)) rfl rfl rfl (hp 8 Cr);rw [e8] at hJ |-; clear e8;refine aX rfl fun K hK => ?_;have cl0 := (hJ.cells _ wR).1;have cl1 := (hJ.cells _ mm4).1;try dsimp only at cl0 cl1
     go_simp;exact hJ.q hK (by kernel_rfl) rfl
   . intro L fx w' hJ hL hp hcl;have e10 := hJ.pt 10 31 (.pointer (some ⟨S.lb, 0, none⟩)) rfl rfl rfl (hp 10 Cr);rw [e10] at hJ |-; clear e10;refine aX rfl fun K hK => ?_;go_simp;exact hJ.q hK (by kernel_rfl) rfl
   . intro L fx w' hJ hL hp hcl;have e11 := hJ.pt 11 32 (.pointer (some ⟨S.lb, 0, none⟩)) rfl rfl rfl (hp 11 Cr);rw [e11] at hJ |-; clear e11;refine aX rfl fun K hK => ?_;go_simp;exact hJ.q hK (by kernel_rfl) rfl
   . intro L fx w' hJ hL hp hcl;have e12 := hJ.pt 12 33 (.pointer (some ⟨S.lb, 0, none⟩)) rfl rfl rfl (hp 12 Cr);rw [e12] at hJ |-; clear e12;refine aX rfl fun K hK => ?_;have cl0 := (hJ.cells _ gM).1;try dsimp only at cl0
     go_simp;exact hJ.q hK (by kernel_rfl) rfl
   . intro L fx w' hJ hL hp hcl;have e13 := hJ.pt 13 34 (.slice (some ⟨S.o, 0, none⟩) S.R.length S.cap) rfl rfl rfl (hp 13 Cr);rw [e13] at hJ |-; clear e13;have e14 := hJ.pt 14 35 (.int .i64 (k : Int)) rfl rfl rfl (hp 14 Cr);rw [e14] at hJ |-; clear e14;refine aX rfl fun K hK => ?_;go_simp;exact hJ.q hK (by kernel_rfl) rfl
   . intro L fx w' hJ hL hp hcl;have e15 := hJ.pt 15 36 (.pointer (some ⟨S.o, k, none⟩)) rfl rfl rfl (hp 15 Cr);rw [e15] at hJ |-; clear e15;refine aX rfl fun K hK => ?_;have cl0 := (hJ.cells _ r8).1;try dsimp only at cl0
     go_simp;exact hJ.q hK (by kernel_rfl) rfl
   . intro L fx w' hJ hL hp hcl;have e16 := hJ.pt 16 37 (.slice (some ⟨S.R[k].blk, 0, none⟩) S.R[k].xs.length S.R[k].cap) rfl rfl rfl (hp 16 Cr);rw [e16] at hJ |-; clear e16;have e17 := hJ.pt 17 38 (.int .i64 (j : Int)) rfl rfl rfl (hp 17 Cr);rw [e17] at hJ |-; clear e17;refine aX rfl fun K hK => ?_;go_simp;exact hJ.q hK (by kernel_rfl) rfl
   . intro L fx w' hJ hL hp hcl;have e18 := hJ.pt 18 39 (.pointer (some ⟨S.R[k].blk, j * 2, none⟩)) rfl rfl rfl (hp 18 Cr);rw [e18] at hJ |-; clear e18;refine aX rfl fun K hK => ?_;have cl0 := (hJ.cells _ mm5).1;have cl1 := (hJ.cells _ mm6).1;try dsimp only at cl0 cl1
     go_simp;exact hJ.q hK (by kernel_rfl) rfl
   . intro L fx w' hJ hL hp hcl;have e9 := hJ.pt 9 30 (.agg #[.bool pi.1, .slice pi.2.1 pi.2.2.1 pi.2.2.2]) rfl rfl rfl (hp 9 Cr);rw [e9] at hJ |-; clear e9;have e19 := hJ.pt 19 40 (.agg #[.bool pk.1, .slice pk.2.1 pk.2.2.1 pk.2.2.2]) rfl rfl rfl (hp 19 Cr);rw [e19] at hJ |-; clear e19;refine aX rfl fun K hK => ?_;go_simp;go_at_call 93;refine (nh _ _ xi xk _ (show ah w' _ _ _ from hJ.base _ gM) (show ah w' _ _ _ from hJ.base _ jk) Hpz.out).mono ?_;rintro e w4 ⟨⟨v5, v6, rfl, h5, h6⟩, hb4⟩;try dsimp only
     exact hK _ _ ⟨_, by kernel_rfl, hJ.gC 20 rfl (by kernel_rfl) hb4 ⟨_, _, rfl, ai.mono h5 (Cx _), ai.mono h6 (Cx _)⟩ Cp⟩
   . intro L fx w' hJ hL hp hcl;have e20 := hJ.slot 20 (by show 20 < 30; decide) (hp 20 Cr);refine aX rfl fun K hK => ?_;go_simp;exact hJ.q hK (by kernel_rfl) e20
   . intro L fx w' hJ hL hp hcl;have e21 := hJ.slot 21 (by show 21 < 30; decide) (hp 21 Cr);obtain ⟨vq, vr, hvt, hq1, hr1⟩ := e21;rw [aH (x := fx) (d := 20) (v := (.tuple #[vq, vr, .int .i64 0])) hvt] at hJ |-;refine aX rfl fun K hK => ?_;go_simp;exact hJ.q hK (by kernel_rfl) hq1
   . intro L fx w' hJ hL hp hcl;have e21 := hJ.slot 21 (by show 21 < 30; decide) (hp 21 Cr);obtain ⟨vq, vr, hvt, hq1, hr1⟩ := e21;rw [aH (x := fx) (d := 20) (v := (.tuple #[vq, vr, .int .i64 0])) hvt] at hJ |-;refine aX rfl fun K hK => ?_;go_simp;exact hJ.q hK (by kernel_rfl) hr1
   . intro L fx w' hJ hL hp hcl;have e21 := hJ.slot 21 (by show 21 < 30; decide) (hp 21 Cr);obtain ⟨vq, vr, hvt, hq1, hr1⟩ := e21;rw [aH (x := fx) (d := 20) (v := (.tuple #[vq, vr, .int .i64 0])) hvt] at hJ |-;refine aX rfl fun K hK => ?_;go_simp;exact hJ.q hK (by kernel_rfl) rfl
   . intro L fx w' hJ hL hp hcl;have hg0 : w.heap.size <= w'.heap.size := Cw (by omega : w.heap.size <= w.heap.size) hJ.size;refine aX rfl fun K hK => ?_;go_simp;exact hK _ _ ⟨_, by kernel_rfl, hJ.grow 25 (by show 25 < 30; decide) _ (by kernel_rfl) (by kernel_rfl) (by intro t ht; rcases mc ht with rfl | ht; exact ⟨by show 27 ≠ 25; decide, fun _ => by cases hh : L 27 with | false => rfl | true => have := hcl 27 (by show 27 < 30; decide) hh 25 Cr; rw [hL] at this; cases this⟩; rcases mc ht with rfl | ht; exact ⟨by show 28 ≠ 25; decide, fun h => absurd (show 9 = 8 from h) Cr⟩; cases ht) (by intro p hp; rcases mc hp with rfl | hp; exact ⟨⟨fun _ => rfl, fun _ => rfl⟩, fun _ q hq hne hLq => (by rcases mc hq with rfl | hq; exact absurd rfl hne; rcases mc hq with rfl | hq; (obtain ⟨g9, cs9, hx9, _, hr9, _⟩ := hJ.slot 26 (by show 26 < 30; decide) hLq; have hx9 : fx 9 = _ := hx9; show _ ≠ fx 9; rw [hx9]; intro e9; injection e9 with e9; injection e9 with e9; injection e9 with e9; exact absurd e9 (EX hr9.lt)); cases hq)⟩; rcases mc hp with rfl | hp; exact ⟨⟨fun h => absurd (show 26 = 25 from h) Cr, fun h => absurd (show 9 = 8 from h) Cr⟩, fun h => absurd (show 26 = 25 from h) Cr⟩; cases hp) ((Below.refl _ _).alloc (Ct _) _) ⟨w'.heap.size, _, rfl, hJ.size, aa.new _ _ _, aN.two _ _ _ _, rfl⟩ hg0⟩
   . intro L fx w' hJ hL hp hcl;have hg0 : w.heap.size <= w'.heap.size := Cw (by omega : w.heap.size <= w.heap.size) hJ.size;refine aX rfl fun K hK => ?_;go_simp;exact hK _ _ ⟨_, by kernel_rfl, hJ.grow 26 (by show 26 < 30; decide) _ (by kernel_rfl) (by kernel_rfl) (by intro t ht; rcases mc ht with rfl | ht; exact ⟨by show 27 ≠ 26; decide, fun h => absurd (show 8 = 9 from h) Cr⟩; rcases mc ht with rfl | ht; exact ⟨by show 28 ≠ 26; decide, fun _ => by cases hh : L 28 with | false => rfl | true => have := hcl 28 (by show 28 < 30; decide) hh 26 Cr; rw [hL] at this; cases this⟩; cases ht) (by intro p hp; rcases mc hp with rfl | hp; exact ⟨⟨fun h => absurd (show 25 = 26 from h) Cr, fun h => absurd (show 8 = 9 from h) Cr⟩, fun h => absurd (show 25 = 26 from h) Cr⟩; rcases mc hp with rfl | hp; exact ⟨⟨fun _ => rfl, fun _ => rfl⟩, fun _ q hq hne hLq => (by rcases mc hq with rfl | hq; (obtain ⟨g9, cs9, hx9, _, hr9, _⟩ := hJ.slot 25 (by show 25 < 30; decide) hLq; have hx9 : fx 8 = _ := hx9; show _ ≠ fx 8; rw [hx9]; intro e9; injection e9 with e9; injection e9 with e9; injection e9 with e9; exact absurd e9 (EX hr9.lt)); rcases mc hq with rfl | hq; exact absurd rfl hne; cases hq)⟩; cases hp) ((Below.refl _ _).alloc (Ct _) _) ⟨w'.heap.size, _, rfl, hJ.size, aa.new _ _ _, aN.two _ _ _ _, rfl⟩ hg0⟩
   . intro L fx w' hJ hL hp hcl;have e25 := hJ.slot 25 (by show 25 < 30; decide) (hp 25 Cr);have e22 := hJ.slot 22 (by show 22 < 30; decide) (hp 22 Cr);have e22' := e22;obtain ⟨b7, o7, l7, k7, hv0⟩ := ai.parts e22;rw [hv0] at e22';rw [aH (x := fx) (d := 42) (v := (.agg #[.bool b7, .slice o7 l7 k7])) hv0] at hJ |-;obtain ⟨g, cs, hx, hgB, hr0, hn0, hl0⟩ := e25;obtain ⟨z0, z1, rfl⟩ : ∃ z0 z1, cs = [z0, z1] := mo hl0;have hf0 := aa.free hr0 0;have hc0 := aa.cell hr0 0;have hf1 := aa.free hr0 1;have hc1 := aa.cell hr0 1;try dsimp only at hf0 hc0 hf1 hc1
     have hx1 := hx;rw [aH (x := (bD fx 42 (.agg #[.bool b7, .slice o7 l7 k7]))) (d := 8) hx] at hJ |-;refine aX rfl fun K hK => ?_;go_simp;exact hK _ _ ⟨_, by kernel_rfl, hJ.fD (us := [.bool b7, .slice o7 l7 k7]) 27 8 _ _ (by show 27 < 30; decide) rfl gM (by intro t ht h; rcases mc ht with rfl | ht; rfl; rcases mc ht with rfl | ht; exact absurd (show 28 = 27 from h) Cr; cases ht) (by intro t ht hne hLt; rcases mc ht with rfl | ht; exact absurd rfl hne; rcases mc ht with rfl | ht; exact hJ.apart (26, 9) jk (25, 8) gM (by show 26 ≠ 25; decide) (hcl 28 (by show 28 < 30; decide) hLt 26 Cr) (hp 25 Cr); cases ht) (by kernel_rfl) (by kernel_rfl) Cr (by rfl) hgB hr0 hn0 rfl (aN.two _ _ _ _) ⟨_, _, _, _, rfl, e22'⟩ Cp⟩
   . intro L fx w' hJ hL hp hcl;have e26 := hJ.slot 26 (by show 26 < 30; decide) (hp 26 Cr);have e23 := hJ.slot 23 (by show 23 < 30; decide) (hp 23 Cr);have e23' := e23;obtain ⟨b7, o7, l7, k7, hv0⟩ := ai.parts e23;rw [hv0] at e23';rw [aH (x := fx) (d := 43) (v := (.agg #[.bool b7, .slice o7 l7 k7])) hv0] at hJ |-;obtain ⟨g, cs, hx, hgB, hr0, hn0, hl0⟩ := e26;obtain ⟨z0, z1, rfl⟩ : ∃ z0 z1, cs = [z0, z1] := mo hl0;have hf0 := aa.free hr0 0;have hc0 := aa.cell hr0 0;have hf1 := aa.free hr0 1;have hc1 := aa.cell hr0 1;try dsimp only at hf0 hc0 hf1 hc1
     have hx1 := hx;rw [aH (x := (bD fx 43 (.agg #[.bool b7, .slice o7 l7 k7]))) (d := 9) hx] at hJ |-;refine aX rfl fun K hK => ?_;go_simp;exact hK _ _ ⟨_, by kernel_rfl, hJ.fD (us := [.bool b7, .slice o7 l7 k7]) 28 9 _ _ (by show 28 < 30; decide) rfl jk (by intro t ht h; rcases mc ht with rfl | ht; exact absurd (show 27 = 28 from h) Cr; rcases mc ht with rfl | ht; rfl; cases ht) (by intro t ht hne hLt; rcases mc ht with rfl | ht; exact hJ.apart (25, 8) gM (26, 9) jk (by show 25 ≠ 26; decide) (hcl 27 (by show 27 < 30; decide) hLt 25 Cr) (hp 26 Cr); rcases mc ht with rfl | ht; exact absurd rfl hne; cases ht) (by kernel_rfl) (by kernel_rfl) Cr (by rfl) hgB hr0 hn0 rfl (aN.two _ _ _ _) ⟨_, _, _, _, rfl, e23'⟩ Cp⟩
   . intro L fx w' hJ hL hp hcl;have e24 := hJ.pt 24 44 (.int .i64 0) rfl rfl rfl (hp 24 Cr);rw [e24] at hJ |-; clear e24;refine aX rfl fun K hK => ?_;go_simp;exact hJ.q hK (by kernel_rfl) rfl
 . intro L x' w3 hL hJ;have hfr : Below w.drew.heap.size w.drew w3 := hJ.fr;obtain ⟨g8, cs8, hx8, hg8, hr8, b8, o8, l8, k8, hcs8, hI8⟩ := hJ.new _ gM (hL 27 (by show 27 < 30; decide));obtain ⟨g9, cs9, hx9, hg9, hr9, b9, o9, l9, k9, hcs9, hI9⟩ := hJ.new _ jk (hL 28 (by show 28 < 30; decide));subst hcs8;subst hcs9;have hx8 : x' 8 = _ := hx8;have hx9 : x' 9 = _ := hx9;rw [aH (x := x') (d := 8) hx8];rw [aH (x := bD x' 8 (.pointer (some ⟨g8, 0, none⟩))) (d := 9) (v := .pointer (some ⟨g9, 0, none⟩)) hx9];have hg8 : w.heap.size <= g8 := hg8;have hg9 : w.heap.size <= g9 := hg9;have G8 : Hid (aa w3 g8 37 [.bool b8, .slice o8 l8 k8]) := H5 hr8;have G9 : Hid (aa w3 g9 37 [.bool b9, .slice o9 l9 k9]) := H5 hr9;have I8 : Hid (ai w3 0 (.agg #[.bool b8, .slice o8 l8 k8]) (xi.fdiv xk)) := H5 hI8;have I9 : Hid (ai w3 0 (.agg #[.bool b9, .slice o9 l9 k9]) (xi.fmod xk)) := H5 hI9;clear hJ hL hx8 hx9 hr8 hr9 hI8 hI9 cb ci ck ci0 ci1 ck0 ck1;have L3 := H5 (aI.below (w := w.drew) HL.out.drew hfr);have C3 := H5 ((aU.refl S.own w).drew.below hfr);simp only [pN, Nat.reduceEqDiff, ↓reduceIte];have q0 : w3.cell? ⟨g8, 0, none⟩ = some (.bool b8) := G8.out.cell 0;have q1 : w3.cell? ⟨g8, 1, none⟩ = some (.slice o8 l8 k8) := G8.out.cell 1;go_wp2_with fail
   clear q0 q1;have hqw : ag ((xi.fdiv xk)).natAbs <= B + 2 := oV Hpz.out hwi;refine (iY _ (xi.fdiv xk) _ (ai.int I8.out Cp)).mono ?_;rintro e w4 ⟨⟨vn, rfl, hn4⟩, hb4⟩;have L4 := H5 (L3.out.below hb4);have C4 := H5 (C3.out.below hb4);have G4 := H5 (G9.out.below hb4 G9.out.lt);have I4 := H5 (I9.out.below hb4);have N4 := H5 (ai.int (L := B + 2) hn4 (by rw [DK]; exact hqw));clear hb4 hn4 L3 C3 G9 I9 G8 I8;go_wp2_with fail
   have hlx : S.R[n].xs.length = S.R[k].xs.length := by rw [HF.out.len _ (Cu hn), HF.out.len _ (Cu hk)]
   have hlen2 : S.R[n].xs.length <= 4611686018427387903 := by rw [HF.out.len _ (Cu hn)]; omega
   refine (xF S n k vn (-(xi.fdiv xk)) (B + 2) B _ L4.out hn hk (fun e => hkn e.symm) N4.out hlx (fun x hx => by have := HF.out.fit _ (Cu hn) x hx; omega) (fun y hy => HF.out.fit _ (Cu hk) y hy) Cp hlen2 (HT.out.jX S.R) (HT.out.yN HF.out) Cp).mono ?_;rintro e w5 ⟨rfl, hL5, hC5⟩;have hA : ji S.R n k (-(xi.fdiv xk)) hn hk = bB S.R k n j := by unfold bB; rw [Hxi.out, Hxk.out, n7 hn hk]
   rw [hA] at hL5;have hns : ¬ S.own g9 := by
    intro e;have := HL.out.qq _ e;omega
   have G5 := H5 (hC5.row G4.out hns);have I5 := H5 (hC5.ownI L4.out.xf I4.out);have C5 := H5 (C4.out.trans hC5);have L5 := H5 hL5;clear hC5 hL5 L4 C4 G4 I4 N4 hlx hlen2 hA;have q0 : w5.cell? ⟨g9, 0, none⟩ = some (.bool b9) := G5.out.cell 0;have q1 : w5.cell? ⟨g9, 1, none⟩ = some (.slice o9 l9 k9) := G5.out.cell 1;go_wp2_with fail
   clear q0 q1;refine (cO _ (xi.fmod xk) _ (ai.int I5.out (by have := wJ (x := xi) Hpz.out hwk; omega))).mono ?_;rintro e w6 ⟨rfl, hb6⟩;have L6 := H5 (L5.out.below hb6);have C6 := H5 (C5.out.below hb6);clear hb6 L5 C5 G5 I5;by_cases hr0 : xi.fmod xk = 0
   . have hz : aV (xi.fmod xk) = 0 := dm.2 hr0;rw [hz];have HR0 := H5 hr0;clear hz hr0;go_wp2;refine bodyPost_ret (results_none (by kernel_rfl) _ _ _) rfl ?_;have e : dR S.R k n j = bB S.R k n j := by unfold dR; rw [Hxi.out, Hxk.out, if_pos HR0.out]
     rw [e];exact ⟨rfl, L6.out, C6.out⟩
   have hz0 : ¬ aV (xi.fmod xk) = 0 := fun h => hr0 (dm.1 h);have HR0 := H5 hr0;obtain ⟨sg, hsg⟩ : ∃ s, aV (xi.fmod xk) = s := ⟨_, rfl⟩;rw [hsg] at hz0 |-;have hzb : (sg == 0) = false := by simpa using hz0
   clear hsg hr0;have hlenA : (bB S.R k n j).length = S.R.length := dq ..;have hmT : dR S.R k n j = l5 (bB S.R k n j) k n (eu (az (bB S.R k n j) k j) (az (bB S.R k n j) n j)) (fP (az (bB S.R k n j) k j) (az (bB S.R k n j) n j)) (-(az (bB S.R k n j) n j / bT (az (bB S.R k n j) k j) (az (bB S.R k n j) n j))) (az (bB S.R k n j) k j / bT (az (bB S.R k n j) k j) (az (bB S.R k n j) n j)) := by
    unfold dR; rw [Hxi.out, Hxk.out, if_neg HR0.out]
   obtain ⟨R1, hR1⟩ := Cs (bB S.R k n j);rw [hR1] at hmT hlenA L6 HF1 HP1;have hkA : k < R1.length := by omega
   have hnA : n < R1.length := by omega
   have HMT := H5 hmT; clear hmT;have HLA := H5 hlenA; clear hlenA;have HR1 := H5 hR1; clear hR1;clear hjl hjk hjl1 hjk1 hi1 hk1 sb1 sb2 sb3 sb4;go_wp2_with fail
   clear hzb hz0;have cb : w6.cell? ⟨S.lb, 0, none⟩ = some (.slice (some ⟨S.o, 0, none⟩) R1.length S.cap) := L6.out.lad.cell 0;have ci : w6.cell? ⟨S.o, k, none⟩ = some (.slice (some ⟨R1[k].blk, 0, none⟩) R1[k].xs.length R1[k].cap) := L6.out.dU.dA (i := k) hkA;have ck : w6.cell? ⟨S.o, n, none⟩ = some (.slice (some ⟨R1[n].blk, 0, none⟩) R1[n].xs.length R1[n].cap) := L6.out.dU.dA (i := n) hnA;have hXi := L6.out.dU.row _ (Cu (l := R1) hkA);have hXk := L6.out.dU.row _ (Cu (l := R1) hnA);have hjl : j < R1[k].xs.length := by rw [HF1.out.len _ (Cu hkA)]; exact hj
   have hjk : j < R1[n].xs.length := by rw [HF1.out.len _ (Cu hnA)]; exact hj
   have hjl1 : (j : Int) < (R1[k].xs.length : Int) := by omega
   have hjk1 : (j : Int) < (R1[n].xs.length : Int) := by omega
   have hi1 : (k : Int) < (R1.length : Int) := by omega
   have hk1 : (n : Int) < (R1.length : Int) := by omega
   obtain ⟨pp, ci0, ci1, hni⟩ := hXi.get hjl;obtain ⟨pv, ck0, ck1, hnk⟩ := hXk.get hjk;have hwi : ag (R1[k].xs[j]).natAbs <= B := HF1.out.fit _ (Cu hkA) _ (Cu hjl);have hwk : ag (R1[n].xs[j]).natAbs <= B := HF1.out.fit _ (Cu hnA) _ (Cu hjk);obtain ⟨xp, hxi⟩ := Cs (R1[k].xs[j]);obtain ⟨xv, hxk⟩ := Cs (R1[n].xs[j]);rw [hxi] at hni hwi;rw [hxk] at hnk hwk;have Hxp := H5 ((gE hkA hjl).trans hxi); clear hxi;have Hxv := H5 ((gE hnA hjk).trans hxk); clear hxk;have sb1 := hXi.lt;have sb2 := hXk.lt;have sb3 : S.lb < w6.heap.size := L6.out.lad.lt;have sb4 : S.o < w6.heap.size := L6.out.dU.out.lt;clear hXi hXk;have Hnp := H5 (hni.int (L := 4398046511103) Cp);have Hnv := H5 (hnk.int (L := 4398046511103) Cp);clear hni hnk;have hxp0 : xp ≠ 0 := by have := HP1.out; rw [Hxp.out] at this; exact this
   have Hxp0 := H5 hxp0; clear hxp0;refine eK ⟨24, fun q_ => [54, 55, 56, 57, 58, 59, 60, 61, 62, 63, 64, 65, 66, 67, 68, 69, 70, 71, 72, 73, 11, 12, 1022, 1023].getD q_ 0,
    fun q_ => [.val (.pointer (some ⟨S.lb, 0, none⟩)), .val (.pointer (some ⟨S.lb, 0, none⟩)), .val (.pointer (some ⟨S.lb, 0, none⟩)), .val (.slice (some ⟨S.o, 0, none⟩) R1.length S.cap), .val (.int .i64 (k : Int)), .val (.pointer (some ⟨S.o, k, none⟩)), .val (.slice (some ⟨R1[k].blk, 0, none⟩) R1[k].xs.length R1[k].cap), .val (.int .i64 (j : Int)), .val (.pointer (some ⟨R1[k].blk, j * 2, none⟩)), .val (.agg #[.bool pp.1, .slice pp.2.1 pp.2.2.1 pp.2.2.2]), .val (.pointer (some ⟨S.lb, 0, none⟩)), .val (.pointer (some ⟨S.lb, 0, none⟩)), .val (.pointer (some ⟨S.lb, 0, none⟩)), .val (.slice (some ⟨S.o, 0, none⟩) R1.length S.cap), .val (.int .i64 (n : Int)), .val (.pointer (some ⟨S.o, n, none⟩)), .val (.slice (some ⟨R1[n].blk, 0, none⟩) R1[n].xs.length R1[n].cap), .val (.int .i64 (j : Int)), .val (.pointer (some ⟨R1[n].blk, j * 2, none⟩)), .val (.agg #[.bool pv.1, .slice pv.2.1 pv.2.2.1 pv.2.2.2]), .ptr w6.heap.size 37 2, .ptr w6.heap.size 37 2, .any, .any].getD q_ .any,
    [],
    [],
    [],
    [(22, 11, 37, .cells [.bool pp.1, .slice pp.2.1 pp.2.2.1 pp.2.2.2]), (23, 12, 37, .cells [.bool pv.1, .slice pv.2.1 pv.2.2.1 pv.2.2.2])], [(⟨S.lb, 0, none⟩, .slice (some ⟨S.o, 0, none⟩) R1.length S.cap), (⟨S.o, k, none⟩, .slice (some ⟨R1[k].blk, 0, none⟩) R1[k].xs.length R1[k].cap), (⟨S.o, n, none⟩, .slice (some ⟨R1[n].blk, 0, none⟩) R1[n].xs.length R1[n].cap), (⟨R1[k].blk, j * 2, none⟩, .bool pp.1), (⟨R1[k].blk, j * 2 + 1, none⟩, .slice pp.2.1 pp.2.2.1 pp.2.2.2), (⟨R1[n].blk, j * 2, none⟩, .bool pv.1), (⟨R1[n].blk, j * 2 + 1, none⟩, .slice pv.2.1 pv.2.2.1 pv.2.2.2)], [(20, 11), (21, 12)]⟩ [54, 55, 56, 57, 58, 59, 60, 61, 62, 63, 64, 65, 66, 67, 68, 69, 70, 71, 72, 73, 11, 12] (w6.heap.size) (by kernel_rfl) (by kernel_rfl) (by kernel_rfl) (by kernel_rfl) ?_ ?_ ?_ ?_ ?_ ?_
   . exact bf
   . exact bf
   . exact bO (⟨cb, by dsimp only; omega, bf⟩) (bO (⟨ci, by dsimp only; omega, bf⟩) (bO (⟨ck, by dsimp only; omega, bf⟩) (bO (⟨ci0, by dsimp only; omega, bf⟩) (bO (⟨ci1, by dsimp only; omega, bf⟩) (bO (⟨ck0, by dsimp only; omega, bf⟩) (bO (⟨ck1, by dsimp only; omega, bf⟩) bf))))))
   . exact bf
   . refine aj ?_ (aj ?_ (aj ?_ (aj ?_ (aj ?_ (aj ?_ (aj ?_ (aj ?_ (aj ?_ (aj ?_ (aj ?_ (aj ?_ (aj ?_ (aj ?_ (aj ?_ (aj ?_ (aj ?_ (aj ?_ (aj ?_ (aj ?_ (aj ?_ (aj ?_ (aj ?_ (aj ?_ lk)))))))))))))))))))))));any_goals (first | (intro L fx w' hJ hL hp hcl; have _ := tN hp (by decide +kernel); refine aX rfl fun K hK => ?_; go_simp; exact hJ.q hK (by kernel_rfl) rfl) | fail)
     . intro L fx w' hJ hL hp hcl;have e0 := hJ.pt 0 54 (.pointer (some ⟨S.lb, 0, none⟩)) rfl rfl rfl (hp 0 Cr);rw [e0] at hJ |-; clear e0;refine aX rfl fun K hK => ?_;go_simp;exact hJ.q hK (by kernel_rfl) rfl
     . intro L fx w' hJ hL hp hcl;have e1 := hJ.pt 1 55 (.pointer (some ⟨S.lb, 0, none⟩)) rfl rfl rfl (hp 1 Cr);rw [e1] at hJ |-; clear e1;refine aX rfl fun K hK => ?_;go_simp;exact hJ.q hK (by kernel_rfl) rfl
     . intro L fx w' hJ hL hp hcl;have e2 := hJ.pt 2 56 (.pointer (some ⟨S.lb, 0, none⟩)) rfl rfl rfl (hp 2 Cr);rw [e2] at hJ |-; clear e2;refine aX rfl fun K hK => ?_;have cl0 := (hJ.cells _ gM).1;try dsimp only at cl0
       go_simp;exact hJ.q hK (by kernel_rfl) rfl
     . intro L fx w' hJ hL hp hcl;have e3 := hJ.pt 3 57 (.slice (some ⟨S.o, 0, none⟩) R1.length S.cap) rfl rfl rfl (hp 3 Cr);rw [e3] at hJ |-; clear e3;have e4 := hJ.pt 4 58 (.int .i64 (k : Int)) rfl rfl rfl (hp 4 Cr);rw [e4] at hJ |-; clear e4;refine aX rfl fun K hK => ?_;go_simp;exact hJ.q hK (by kernel_rfl) rfl
     . intro L fx w' hJ hL hp hcl;have e5 := hJ.pt 5 59 (.pointer (some ⟨S.o, k, none⟩)) rfl rfl rfl (hp 5 Cr);rw [e5] at hJ |-; clear e5;refine aX rfl fun K hK => ?_;have cl0 := (hJ.cells _ jk).1;try dsimp only at cl0
       go_simp;exact hJ.q hK (by kernel_rfl) rfl
     . intro L fx w' hJ hL hp hcl;have e6 := hJ.pt 6 60 (.slice (some ⟨R1[k].blk, 0, none⟩) R1[k].xs.length R1[k].cap) rfl rfl rfl (hp 6 Cr);rw [e6] at hJ |-; clear e6;have e7 := hJ.pt 7 61 (.int .i64 (j : Int)) rfl rfl rfl (hp 7 Cr);rw [e7] at hJ |-; clear e7;refine aX rfl fun K hK => ?_;go_simp;exact hJ.q hK (by kernel_rfl) rfl
     . intro L fx w' hJ hL hp hcl;have e8 := hJ.pt 8 62 (.pointer (some ⟨R1[k].blk, j * 2, none⟩)) rfl rfl rfl (hp 8 Cr);rw [e8] at hJ |-; clear e8;refine aX rfl fun K hK => ?_;have cl0 := (hJ.cells _ wR).1;have cl1 := (hJ.cells _ mm4).1;try dsimp only at cl0 cl1
       go_simp;exact hJ.q hK (by kernel_rfl) rfl
     . intro L fx w' hJ hL hp hcl;have e10 := hJ.pt 10 64 (.pointer (some ⟨S.lb, 0, none⟩)) rfl rfl rfl (hp 10 Cr);rw [e10] at hJ |-; clear e10;refine aX rfl fun K hK => ?_;go_simp;exact hJ.q hK (by kernel_rfl) rfl
     . intro L fx w' hJ hL hp hcl;have e11 := hJ.pt 11 65 (.pointer (some ⟨S.lb, 0, none⟩)) rfl rfl rfl (hp 11 Cr);rw [e11] at hJ |-; clear e11;refine aX rfl fun K hK => ?_;go_simp;exact hJ.q hK (by kernel_rfl) rfl
     . intro L fx w' hJ hL hp hcl;have e12 := hJ.pt 12 66 (.pointer (some ⟨S.lb, 0, none⟩)) rfl rfl rfl (hp 12 Cr);rw [e12] at hJ |-; clear e12;refine aX rfl fun K hK => ?_;have cl0 := (hJ.cells _ gM).1;try dsimp only at cl0
       go_simp;exact hJ.q hK (by kernel_rfl) rfl
     . intro L fx w' hJ hL hp hcl;have e13 := hJ.pt 13 67 (.slice (some ⟨S.o, 0, none⟩) R1.length S.cap) rfl rfl rfl (hp 13 Cr);rw [e13] at hJ |-; clear e13;have e14 := hJ.pt 14 68 (.int .i64 (n : Int)) rfl rfl rfl (hp 14 Cr);rw [e14] at hJ |-; clear e14;refine aX rfl fun K hK => ?_;go_simp;exact hJ.q hK (by kernel_rfl) rfl
     . intro L fx w' hJ hL hp hcl;have e15 := hJ.pt 15 69 (.pointer (some ⟨S.o, n, none⟩)) rfl rfl rfl (hp 15 Cr);rw [e15] at hJ |-; clear e15;refine aX rfl fun K hK => ?_;have cl0 := (hJ.cells _ r8).1;try dsimp only at cl0
       go_simp;exact hJ.q hK (by kernel_rfl) rfl
     . intro L fx w' hJ hL hp hcl;have e16 := hJ.pt 16 70 (.slice (some ⟨R1[n].blk, 0, none⟩) R1[n].xs.length R1[n].cap) rfl rfl rfl (hp 16 Cr);rw [e16] at hJ |-; clear e16;have e17 := hJ.pt 17 71 (.int .i64 (j : Int)) rfl rfl rfl (hp 17 Cr);rw [e17] at hJ |-; clear e17;refine aX rfl fun K hK => ?_;go_simp;exact hJ.q hK (by kernel_rfl) rfl
     . intro L fx w' hJ hL hp hcl;have e18 := hJ.pt 18 72 (.pointer (some ⟨R1[n].blk, j * 2, none⟩)) rfl rfl rfl (hp 18 Cr);rw [e18] at hJ |-; clear e18;refine aX rfl fun K hK => ?_;have cl0 := (hJ.cells _ mm5).1;have cl1 := (hJ.cells _ mm6).1;try dsimp only at cl0 cl1
       go_simp;exact hJ.q hK (by kernel_rfl) rfl
     . intro L fx w' hJ hL hp hcl;have hg0 : w6.heap.size <= w'.heap.size := Cw (by omega : w6.heap.size <= w6.heap.size) hJ.size;refine aX rfl fun K hK => ?_;go_simp;exact hK _ _ ⟨_, by kernel_rfl, hJ.grow 20 (by show 20 < 24; decide) _ (by kernel_rfl) (by kernel_rfl) (by intro t ht; rcases mc ht with rfl | ht; exact ⟨by show 22 ≠ 20; decide, fun _ => by cases hh : L 22 with | false => rfl | true => have := hcl 22 (by show 22 < 24; decide) hh 20 Cr; rw [hL] at this; cases this⟩; rcases mc ht with rfl | ht; exact ⟨by show 23 ≠ 20; decide, fun h => absurd (show 12 = 11 from h) Cr⟩; cases ht) (by intro p hp; rcases mc hp with rfl | hp; exact ⟨⟨fun _ => rfl, fun _ => rfl⟩, fun _ q hq hne hLq => (by rcases mc hq with rfl | hq; exact absurd rfl hne; rcases mc hq with rfl | hq; (obtain ⟨g9, cs9, hx9, _, hr9, _⟩ := hJ.slot 21 (by show 21 < 24; decide) hLq; have hx9 : fx 12 = _ := hx9; show _ ≠ fx 12; rw [hx9]; intro e9; injection e9 with e9; injection e9 with e9; injection e9 with e9; exact absurd e9 (EX hr9.lt)); cases hq)⟩; rcases mc hp with rfl | hp; exact ⟨⟨fun h => absurd (show 21 = 20 from h) Cr, fun h => absurd (show 12 = 11 from h) Cr⟩, fun h => absurd (show 21 = 20 from h) Cr⟩; cases hp) ((Below.refl _ _).alloc (Ct _) _) ⟨w'.heap.size, _, rfl, hJ.size, aa.new _ _ _, aN.two _ _ _ _, rfl⟩ hg0⟩
     . intro L fx w' hJ hL hp hcl;have hg0 : w6.heap.size <= w'.heap.size := Cw (by omega : w6.heap.size <= w6.heap.size) hJ.size;refine aX rfl fun K hK => ?_;go_simp;exact hK _ _ ⟨_, by kernel_rfl, hJ.grow 21 (by show 21 < 24; decide) _ (by kernel_rfl) (by kernel_rfl) (by intro t ht; rcases mc ht with rfl | ht; exact ⟨by show 22 ≠ 21; decide, fun h => absurd (show 11 = 12 from h) Cr⟩; rcases mc ht with rfl | ht; exact ⟨by show 23 ≠ 21; decide, fun _ => by cases hh : L 23 with | false => rfl | true => have := hcl 23 (by show 23 < 24; decide) hh 21 Cr; rw [hL] at this; cases this⟩; cases ht) (by intro p hp; rcases mc hp with rfl | hp; exact ⟨⟨fun h => absurd (show 20 = 21 from h) Cr, fun h => absurd (show 11 = 12 from h) Cr⟩, fun h => absurd (show 20 = 21 from h) Cr⟩; rcases mc hp with rfl | hp; exact ⟨⟨fun _ => rfl, fun _ => rfl⟩, fun _ q hq hne hLq => (by rcases mc hq with rfl | hq; (obtain ⟨g9, cs9, hx9, _, hr9, _⟩ := hJ.slot 20 (by show 20 < 24; decide) hLq; have hx9 : fx 11 = _ := hx9; show _ ≠ fx 11; rw [hx9]; intro e9; injection e9 with e9; injection e9 with e9; injection e9 with e9; exact absurd e9 (EX hr9.lt)); rcases mc hq with rfl | hq; exact absurd rfl hne; cases hq)⟩; cases hp) ((Below.refl _ _).alloc (Ct _) _) ⟨w'.heap.size, _, rfl, hJ.size, aa.new _ _ _, aN.two _ _ _ _, rfl⟩ hg0⟩
     . intro L fx w' hJ hL hp hcl;have e20 := hJ.slot 20 (by show 20 < 24; decide) (hp 20 Cr);have e9 := hJ.pt 9 63 (.agg #[.bool pp.1, .slice pp.2.1 pp.2.2.1 pp.2.2.2]) rfl rfl rfl (hp 9 Cr);rw [e9] at hJ |-; clear e9;obtain ⟨g, cs, hx, hgB, hr0, hn0, hl0⟩ := e20;obtain ⟨z0, z1, rfl⟩ : ∃ z0 z1, cs = [z0, z1] := mo hl0;have hf0 := aa.free hr0 0;have hc0 := aa.cell hr0 0;have hf1 := aa.free hr0 1;have hc1 := aa.cell hr0 1;try dsimp only at hf0 hc0 hf1 hc1
       have hx1 := hx;rw [aH (x := (bD fx 63 (.agg #[.bool pp.1, .slice pp.2.1 pp.2.2.1 pp.2.2.2]))) (d := 11) hx] at hJ |-;refine aX rfl fun K hK => ?_;go_simp;exact hK _ _ ⟨_, by kernel_rfl, hJ.fD (us := [.bool pp.1, .slice pp.2.1 pp.2.2.1 pp.2.2.2]) 22 11 _ _ (by show 22 < 24; decide) rfl gM (by intro t ht h; rcases mc ht with rfl | ht; rfl; rcases mc ht with rfl | ht; exact absurd (show 23 = 22 from h) Cr; cases ht) (by intro t ht hne hLt; rcases mc ht with rfl | ht; exact absurd rfl hne; rcases mc ht with rfl | ht; exact hJ.apart (21, 12) jk (20, 11) gM (by show 21 ≠ 20; decide) (hcl 23 (by show 23 < 24; decide) hLt 21 Cr) (hp 20 Cr); cases ht) (by kernel_rfl) (by kernel_rfl) Cr (by rfl) hgB hr0 hn0 rfl (aN.two _ _ _ _) rfl Cp⟩
     . intro L fx w' hJ hL hp hcl;have e21 := hJ.slot 21 (by show 21 < 24; decide) (hp 21 Cr);have e19 := hJ.pt 19 73 (.agg #[.bool pv.1, .slice pv.2.1 pv.2.2.1 pv.2.2.2]) rfl rfl rfl (hp 19 Cr);rw [e19] at hJ |-; clear e19;obtain ⟨g, cs, hx, hgB, hr0, hn0, hl0⟩ := e21;obtain ⟨z0, z1, rfl⟩ : ∃ z0 z1, cs = [z0, z1] := mo hl0;have hf0 := aa.free hr0 0;have hc0 := aa.cell hr0 0;have hf1 := aa.free hr0 1;have hc1 := aa.cell hr0 1;try dsimp only at hf0 hc0 hf1 hc1
       have hx1 := hx;rw [aH (x := (bD fx 73 (.agg #[.bool pv.1, .slice pv.2.1 pv.2.2.1 pv.2.2.2]))) (d := 12) hx] at hJ |-;refine aX rfl fun K hK => ?_;go_simp;exact hK _ _ ⟨_, by kernel_rfl, hJ.fD (us := [.bool pv.1, .slice pv.2.1 pv.2.2.1 pv.2.2.2]) 23 12 _ _ (by show 23 < 24; decide) rfl jk (by intro t ht h; rcases mc ht with rfl | ht; exact absurd (show 22 = 23 from h) Cr; rcases mc ht with rfl | ht; rfl; cases ht) (by intro t ht hne hLt; rcases mc ht with rfl | ht; exact hJ.apart (20, 11) gM (21, 12) jk (by show 20 ≠ 21; decide) (hcl 22 (by show 22 < 24; decide) hLt 20 Cr) (hp 21 Cr); rcases mc ht with rfl | ht; exact absurd rfl hne; cases ht) (by kernel_rfl) (by kernel_rfl) Cr (by rfl) hgB hr0 hn0 rfl (aN.two _ _ _ _) rfl Cp⟩
   . intro L' x1 w7 hL hJ;have hfr : Below w6.drew.heap.size w6.drew w7 := hJ.fr;obtain ⟨g11, cs11, hx11, hg11, hr11, hcs11⟩ := hJ.new _ gM (hL 22 (by show 22 < 24; decide));obtain ⟨g12, cs12, hx12, hg12, hr12, hcs12⟩ := hJ.new _ jk (hL 23 (by show 23 < 24; decide));obtain rfl : cs11 = _ := hcs11;obtain rfl : cs12 = _ := hcs12;have hx11 : x1 11 = _ := hx11;have hx12 : x1 12 = _ := hx12;rw [aH (x := x1) (d := 11) hx11];rw [aH (x := bD x1 11 (.pointer (some ⟨g11, 0, none⟩))) (d := 12) (v := .pointer (some ⟨g12, 0, none⟩)) hx12];have G11 : Hid (aa w7 g11 37 [.bool pp.1, .slice pp.2.1 pp.2.2.1 pp.2.2.2]) := H5 hr11;have G12 : Hid (aa w7 g12 37 [.bool pv.1, .slice pv.2.1 pv.2.2.1 pv.2.2.2]) := H5 hr12;clear hJ hL hx11 hx12 hr11 hr12 cb ci ck ci0 ci1 ck0 ck1;have L7 := H5 (aI.below (w := w6.drew) L6.out.drew hfr);have C7 := H5 (C6.out.drew.below hfr);have P7 := H5 (ah.below (w := w6.drew) Hnp.out hfr);have V7 := H5 (ah.below (w := w6.drew) Hnv.out hfr);clear L6 C6 Hnp Hnv;simp only [pN, Nat.reduceEqDiff, ↓reduceIte];have q0 : w7.cell? ⟨g11, 0, none⟩ = some (.bool pp.1) := G11.out.cell 0;have q1 : w7.cell? ⟨g11, 1, none⟩ = some (.slice pp.2.1 pp.2.2.1 pp.2.2.2) := G11.out.cell 1;have q2 : w7.cell? ⟨g12, 0, none⟩ = some (.bool pv.1) := G12.out.cell 0;have q3 : w7.cell? ⟨g12, 1, none⟩ = some (.slice pv.2.1 pv.2.2.1 pv.2.2.2) := G12.out.cell 1;go_wp2_with fail
     clear q0 q1 q2 q3;refine (zr _ _ xp xv _ P7.out V7.out).mono ?_;rintro e w8 ⟨⟨vg, vx, vy, rfl, hge, hxe, hye⟩, hb8⟩;obtain ⟨zg, rfl⟩ := aL.parts hge.num;obtain ⟨zx, rfl⟩ := aL.parts hxe.num;obtain ⟨zy, rfl⟩ := aL.parts hye.num;have hge := hge.mono (Cx _);have hxe := hxe.mono (Cx _);have hye := hye.mono (Cx _);unfold av at *;obtain ⟨GG, hGG⟩ := Cs (bT xp xv);obtain ⟨XX, hXX⟩ := Cs (eu xp xv);obtain ⟨YY, hYY⟩ := Cs (fP xp xv);obtain ⟨hd1, hd2, hg0, hg1⟩ := jz xp xv;have hxl := pX xp xv;have hyl := uN xp xv;rw [hGG] at hge hd1 hd2 hg0;rw [hXX] at hxe hxl;rw [hYY] at hye hyl;have hgw : ag GG.natAbs <= 4398046511103 := by
      refine Cw (aJ (Nat.le_of_dvd ?_ (Int.natAbs_dvd_natAbs.2 hd1))) (by omega : ag xp.natAbs <= _);have := Hxp0.out; omega
     have hxw : ag XX.natAbs <= B + 2 := pA hxl hwk;have hyw : ag YY.natAbs <= B + 2 := pA hyl hwi;have HG0 := H5 (hg0 Hxp0.out);have HD1 := H5 hd1;have HD2 := H5 hd2;have HGG := H5 hGG; clear hGG;have HXX := H5 hXX; clear hXX;have HYY := H5 hYY; clear hYY;clear hd1 hd2 hg0 hg1 hxl hyl;have GA_0 := H5 (G11.out.below hb8 G11.out.lt);have GB_0 := H5 (G12.out.below hb8 G12.out.lt);have GE_0 := H5 hge;have XE_0 := H5 hxe;have YE_0 := H5 hye;have PA_0 := H5 (P7.out.below hb8);have VA_0 := H5 (V7.out.below hb8);have LL_0 := H5 (L7.out.below hb8);have CC_0 := H5 (C7.out.below hb8);clear G11 G12 P7 V7 L7 C7 hge hxe hye hb8;obtain ⟨n13, n14, n15, hb9⟩ := fz w8 #[.bool zg.1, .slice zg.2.1 zg.2.2.1 zg.2.2.2] #[.bool zx.1, .slice zx.2.1 zx.2.2.1 zx.2.2.2] #[.bool zy.1, .slice zy.2.1 zy.2.2.1 zy.2.2.2] 37 37 37;have GA_1 := H5 (aa.below (w := w8) GA_0.out hb9 GA_0.out.lt);have GB_1 := H5 (aa.below (w := w8) GB_0.out hb9 GB_0.out.lt);have GE_1 := H5 (ai.below (w := w8) GE_0.out hb9);have XE_1 := H5 (ai.below (w := w8) XE_0.out hb9);have YE_1 := H5 (ai.below (w := w8) YE_0.out hb9);have PA_1 := H5 (ah.below (w := w8) PA_0.out hb9);have VA_1 := H5 (ah.below (w := w8) VA_0.out hb9);have LL_1 := H5 (aI.below (w := w8) LL_0.out hb9);have CC_1 := H5 (aU.below CC_0.out hb9);clear GA_0 GB_0 GE_0 XE_0 YE_0 PA_0 VA_0 LL_0 CC_0;have N13_1 := H5 n13;have N14_1 := H5 n14;have N15_1 := H5 n15;clear n13 n14 n15 hb9;have qa0 : (((w8.alloc (.cells #[.bool zg.1, .slice zg.2.1 zg.2.2.1 zg.2.2.2] 37)).alloc (.cells #[.bool zx.1, .slice zx.2.1 zx.2.2.1 zx.2.2.2] 37)).alloc (.cells #[.bool zy.1, .slice zy.2.1 zy.2.2.1 zy.2.2.2] 37)).cell? ⟨g11, 0, none⟩ = some (.bool pp.1) := GA_1.out.cell 0;have qa1 : (((w8.alloc (.cells #[.bool zg.1, .slice zg.2.1 zg.2.2.1 zg.2.2.2] 37)).alloc (.cells #[.bool zx.1, .slice zx.2.1 zx.2.2.1 zx.2.2.2] 37)).alloc (.cells #[.bool zy.1, .slice zy.2.1 zy.2.2.1 zy.2.2.2] 37)).cell? ⟨g11, 1, none⟩ = some (.slice pp.2.1 pp.2.2.1 pp.2.2.2) := GA_1.out.cell 1;have qb0 : (((w8.alloc (.cells #[.bool zg.1, .slice zg.2.1 zg.2.2.1 zg.2.2.2] 37)).alloc (.cells #[.bool zx.1, .slice zx.2.1 zx.2.2.1 zx.2.2.2] 37)).alloc (.cells #[.bool zy.1, .slice zy.2.1 zy.2.2.1 zy.2.2.2] 37)).cell? ⟨w8.heap.size, 0, none⟩ = some (.bool zg.1) := N13_1.out.cell 0;have qb1 : (((w8.alloc (.cells #[.bool zg.1, .slice zg.2.1 zg.2.2.1 zg.2.2.2] 37)).alloc (.cells #[.bool zx.1, .slice zx.2.1 zx.2.2.1 zx.2.2.2] 37)).alloc (.cells #[.bool zy.1, .slice zy.2.1 zy.2.2.1 zy.2.2.2] 37)).cell? ⟨w8.heap.size, 1, none⟩ = some (.slice zg.2.1 zg.2.2.1 zg.2.2.2) := N13_1.out.cell 1;go_wp2_with fail
     clear qa0 qa1 qb0 qb1;generalize (((w8.alloc (.cells #[.bool zg.1, .slice zg.2.1 zg.2.2.1 zg.2.2.2] 37)).alloc (.cells #[.bool zx.1, .slice zx.2.1 zx.2.2.1 zx.2.2.2] 37)).alloc (.cells #[.bool zy.1, .slice zy.2.1 zy.2.2.1 zy.2.2.2] 37)) = w9 at *;refine (eZ _ _ xp GG _ (PA_1.out.mono Cp) (ai.int GE_1.out Cp) HG0.out HD1.out).mono ?_;rintro e w10 ⟨⟨va, rfl, hva⟩, hb10⟩;obtain ⟨za, rfl⟩ := aL.parts hva.num;have hva := hva.mono (Cx _);unfold av at *;have GA_2 := H5 (aa.below (w := w9) GA_1.out hb10 GA_1.out.lt);have GB_2 := H5 (aa.below (w := w9) GB_1.out hb10 GB_1.out.lt);have N13_2 := H5 (aa.below (w := w9) N13_1.out hb10 N13_1.out.lt);have N14_2 := H5 (aa.below (w := w9) N14_1.out hb10 N14_1.out.lt);have N15_2 := H5 (aa.below (w := w9) N15_1.out hb10 N15_1.out.lt);have GE_2 := H5 (ai.below (w := w9) GE_1.out hb10);have XE_2 := H5 (ai.below (w := w9) XE_1.out hb10);have YE_2 := H5 (ai.below (w := w9) YE_1.out hb10);have PA_2 := H5 (ah.below (w := w9) PA_1.out hb10);have VA_2 := H5 (ah.below (w := w9) VA_1.out hb10);have LL_2 := H5 (aI.below (w := w9) LL_1.out hb10);have CC_2 := H5 (aU.below CC_1.out hb10);clear GA_1 GB_1 N13_1 N14_1 N15_1 GE_1 XE_1 YE_1 PA_1 VA_1 LL_1 CC_1;have AE_2 := H5 hva;clear hva hb10;have hb11 : Below w10.heap.size w10 (w10.alloc (.cells #[.bool za.1, .slice za.2.1 za.2.2.1 za.2.2.2] 37)) := (Below.refl _ _).alloc (Ct _) _;have n16 := aa.new w10 #[.bool za.1, .slice za.2.1 za.2.2.1 za.2.2.2] 37;have GA_3 := H5 (aa.below (w := w10) GA_2.out hb11 GA_2.out.lt);have GB_3 := H5 (aa.below (w := w10) GB_2.out hb11 GB_2.out.lt);have N13_3 := H5 (aa.below (w := w10) N13_2.out hb11 N13_2.out.lt);have N14_3 := H5 (aa.below (w := w10) N14_2.out hb11 N14_2.out.lt);have N15_3 := H5 (aa.below (w := w10) N15_2.out hb11 N15_2.out.lt);have GE_3 := H5 (ai.below (w := w10) GE_2.out hb11);have XE_3 := H5 (ai.below (w := w10) XE_2.out hb11);have YE_3 := H5 (ai.below (w := w10) YE_2.out hb11);have AE_3 := H5 (ai.below (w := w10) AE_2.out hb11);have PA_3 := H5 (ah.below (w := w10) PA_2.out hb11);have VA_3 := H5 (ah.below (w := w10) VA_2.out hb11);have LL_3 := H5 (aI.below (w := w10) LL_2.out hb11);have CC_3 := H5 (aU.below CC_2.out hb11);clear GA_2 GB_2 N13_2 N14_2 N15_2 GE_2 XE_2 YE_2 AE_2 PA_2 VA_2 LL_2 CC_2;have N16_3 := H5 n16;clear n16 hb11;have qa0 : (w10.alloc (.cells #[.bool za.1, .slice za.2.1 za.2.2.1 za.2.2.2] 37)).cell? ⟨g12, 0, none⟩ = some (.bool pv.1) := GB_3.out.cell 0;have qa1 : (w10.alloc (.cells #[.bool za.1, .slice za.2.1 za.2.2.1 za.2.2.2] 37)).cell? ⟨g12, 1, none⟩ = some (.slice pv.2.1 pv.2.2.1 pv.2.2.2) := GB_3.out.cell 1;have qb0 : (w10.alloc (.cells #[.bool za.1, .slice za.2.1 za.2.2.1 za.2.2.2] 37)).cell? ⟨w8.heap.size, 0, none⟩ = some (.bool zg.1) := N13_3.out.cell 0;have qb1 : (w10.alloc (.cells #[.bool za.1, .slice za.2.1 za.2.2.1 za.2.2.2] 37)).cell? ⟨w8.heap.size, 1, none⟩ = some (.slice zg.2.1 zg.2.2.1 zg.2.2.2) := N13_3.out.cell 1;go_wp2_with fail
     clear qa0 qa1 qb0 qb1;generalize (w10.alloc (.cells #[.bool za.1, .slice za.2.1 za.2.2.1 za.2.2.2] 37)) = w11 at *;refine (eZ _ _ xv GG _ (VA_3.out.mono Cp) (ai.int GE_3.out Cp) HG0.out HD2.out).mono ?_;rintro e w12 ⟨⟨vb, rfl, hvb⟩, hb12⟩;obtain ⟨zb, rfl⟩ := aL.parts hvb.num;have hvb := hvb.mono (Cx _);unfold av at *;have N14_4 := H5 (aa.below (w := w11) N14_3.out hb12 N14_3.out.lt);have N15_4 := H5 (aa.below (w := w11) N15_3.out hb12 N15_3.out.lt);have N16_4 := H5 (aa.below (w := w11) N16_3.out hb12 N16_3.out.lt);have XE_4 := H5 (ai.below (w := w11) XE_3.out hb12);have YE_4 := H5 (ai.below (w := w11) YE_3.out hb12);have AE_4 := H5 (ai.below (w := w11) AE_3.out hb12);have LL_4 := H5 (aI.below (w := w11) LL_3.out hb12);have CC_4 := H5 (aU.below CC_3.out hb12);clear N14_3 N15_3 N16_3 XE_3 YE_3 AE_3 LL_3 CC_3;clear GA_3 GB_3 N13_3 GE_3 PA_3 VA_3;have BE_4 := H5 hvb;clear hvb hb12;have hb13 : Below w12.heap.size w12 (w12.alloc (.cells #[.bool zb.1, .slice zb.2.1 zb.2.2.1 zb.2.2.2] 37)) := (Below.refl _ _).alloc (Ct _) _;have n18 := aa.new w12 #[.bool zb.1, .slice zb.2.1 zb.2.2.1 zb.2.2.2] 37;have N14_5 := H5 (aa.below (w := w12) N14_4.out hb13 N14_4.out.lt);have N15_5 := H5 (aa.below (w := w12) N15_4.out hb13 N15_4.out.lt);have N16_5 := H5 (aa.below (w := w12) N16_4.out hb13 N16_4.out.lt);have XE_5 := H5 (ai.below (w := w12) XE_4.out hb13);have YE_5 := H5 (ai.below (w := w12) YE_4.out hb13);have AE_5 := H5 (ai.below (w := w12) AE_4.out hb13);have BE_5 := H5 (ai.below (w := w12) BE_4.out hb13);have LL_5 := H5 (aI.below (w := w12) LL_4.out hb13);have CC_5 := H5 (aU.below CC_4.out hb13);clear N14_4 N15_4 N16_4 XE_4 YE_4 AE_4 BE_4 LL_4 CC_4;have N18_5 := H5 n18;clear n18 hb13;go_wp2;generalize (w12.alloc (.cells #[.bool zb.1, .slice zb.2.1 zb.2.2.1 zb.2.2.2] 37)) = w13 at *;have hs18 := N18_5.out.lt;have hs16 := N16_5.out.lt;have hs15 := N15_5.out.lt;have hs14 := N14_5.out.lt;obtain ⟨aq, haq⟩ := Cs (xp / GG);obtain ⟨bq, hbq⟩ := Cs (xv / GG);have haw : ag aq.natAbs <= B := by rw [<- haq]; exact Cw (aJ (EG ..)) hwi
     have hbqw : ag bq.natAbs <= B := by rw [<- hbq]; exact Cw (aJ (EG ..)) hwk
     have AE := AE_5.out;rw [haq] at AE;have AE := H5 AE;have BE := BE_5.out;rw [hbq] at BE;have BE := H5 BE;have HAQ := H5 haq; clear haq;have HBQ := H5 hbq; clear hbq;clear AE_5 BE_5;refine dV ⟨11, fun q_ => [93, 94, 95, 96, 97, 98, 99, 100, 101, 102, 103].getD q_ 0,
      fun q_ => [.val (.pointer (some ⟨S.lb, 0, none⟩)), .val (.int .i64 (k : Int)), .val (.int .i64 (n : Int)), .val (.agg #[.bool zx.1, .slice zx.2.1 zx.2.2.1 zx.2.2.2]), .val (.agg #[.bool zy.1, .slice zy.2.1 zy.2.2.1 zy.2.2.2]), .val (.agg #[.bool zx.1, .slice zx.2.1 zx.2.2.1 zx.2.2.2, .bool zy.1, .slice zy.2.1 zy.2.2.1 zy.2.2.2]), .val (.agg #[.bool zb.1, .slice zb.2.1 zb.2.2.1 zb.2.2.2]), .int 0 (-bq), .val (.agg #[.bool za.1, .slice za.2.1 za.2.2.1 za.2.2.2]), .int2 0 (-bq) aq, .int4 0 XX YY (-bq) aq].getD q_ .any,
      [],
      [(.agg #[.bool zx.1, .slice zx.2.1 zx.2.2.1 zx.2.2.2], .int 0 XX), (.agg #[.bool zy.1, .slice zy.2.1 zy.2.2.1 zy.2.2.2], .int 0 YY), (.agg #[.bool za.1, .slice za.2.1 za.2.2.1 za.2.2.2], .int 0 aq), (.agg #[.bool zb.1, .slice zb.2.1 zb.2.2.1 zb.2.2.2], .int 0 bq)],
      [(w8.heap.size + 1, 37, [.bool zx.1, .slice zx.2.1 zx.2.2.1 zx.2.2.2]), (w8.heap.size + 2, 37, [.bool zy.1, .slice zy.2.1 zy.2.2.1 zy.2.2.2]), (w10.heap.size, 37, [.bool za.1, .slice za.2.1 za.2.2.1 za.2.2.2]), (w12.heap.size, 37, [.bool zb.1, .slice zb.2.1 zb.2.2.1 zb.2.2.2])],
      [], [], []⟩ [93, 94, 95, 96, 97, 98, 99, 100, 101, 102, 103, 104] (w13.heap.size) (by kernel_rfl) (by kernel_rfl) (by kernel_rfl) (by kernel_rfl) (by kernel_rfl) ?_ ?_ ?_ ?_ ?_ ?_
     . exact bO (XE_5.out) (bO (YE_5.out) (bO (AE.out) (bO (BE.out) bf)))
     . exact bO (⟨N14_5.out, (N14_5.out).lt, bf⟩) (bO (⟨N15_5.out, (N15_5.out).lt, bf⟩) (bO (⟨N16_5.out, (N16_5.out).lt, bf⟩) (bO (⟨N18_5.out, (N18_5.out).lt, bf⟩) bf)))
     . exact bf
     . exact bf
     . refine aj ?_ (aj ?_ (aj ?_ (aj ?_ (aj ?_ (aj ?_ (aj ?_ (aj ?_ (aj ?_ (aj ?_ (aj ?_ lk))))))))));any_goals (first | (intro L fx w' hJ hL hp hcl; have _ := tN hp (by decide +kernel); refine aX rfl fun K hK => ?_; go_simp; exact hJ.q hK (by kernel_rfl) rfl) | fail)
       . intro L fx w' hJ hL hp hcl;refine aX rfl fun K hK => ?_;have rw0 := (hJ.rows _ gM).1;have cl0 : w'.cell? ⟨w8.heap.size + 1, 0, none⟩ = some (.bool zx.1) := rw0.cell 0;have cl1 : w'.cell? ⟨w8.heap.size + 1, 1, none⟩ = some (.slice zx.2.1 zx.2.2.1 zx.2.2.2) := rw0.cell 1;go_simp;exact hJ.q hK (by kernel_rfl) rfl
       . intro L fx w' hJ hL hp hcl;refine aX rfl fun K hK => ?_;have rw0 := (hJ.rows _ jk).1;have cl0 : w'.cell? ⟨w8.heap.size + 2, 0, none⟩ = some (.bool zy.1) := rw0.cell 0;have cl1 : w'.cell? ⟨w8.heap.size + 2, 1, none⟩ = some (.slice zy.2.1 zy.2.2.1 zy.2.2.2) := rw0.cell 1;go_simp;exact hJ.q hK (by kernel_rfl) rfl
       . intro L fx w' hJ hL hp hcl;have e3 := hJ.pt 3 96 (.agg #[.bool zx.1, .slice zx.2.1 zx.2.2.1 zx.2.2.2]) rfl rfl rfl (hp 3 Cr);rw [e3] at hJ |-; clear e3;have e4 := hJ.pt 4 97 (.agg #[.bool zy.1, .slice zy.2.1 zy.2.2.1 zy.2.2.2]) rfl rfl rfl (hp 4 Cr);rw [e4] at hJ |-; clear e4;refine aX rfl fun K hK => ?_;go_simp;exact hJ.q hK (by kernel_rfl) rfl
       . intro L fx w' hJ hL hp hcl;refine aX rfl fun K hK => ?_;have rw0 := (hJ.rows _ wR).1;have cl0 : w'.cell? ⟨w12.heap.size, 0, none⟩ = some (.bool zb.1) := rw0.cell 0;have cl1 : w'.cell? ⟨w12.heap.size, 1, none⟩ = some (.slice zb.2.1 zb.2.2.1 zb.2.2.2) := rw0.cell 1;go_simp;exact hJ.q hK (by kernel_rfl) rfl
       . intro L fx w' hJ hL hp hcl;have e6 := hJ.pt 6 99 (.agg #[.bool zb.1, .slice zb.2.1 zb.2.2.1 zb.2.2.2]) rfl rfl rfl (hp 6 Cr);rw [e6] at hJ |-; clear e6;refine aX rfl fun K hK => ?_;go_simp;go_at_call 61;refine (iY _ bq _ (ai.int (show ai w' _ _ _ from hJ.base _ wR) Cp)).mono ?_;rintro e w4 ⟨⟨v5, rfl, h5⟩, hb4⟩;try dsimp only
         exact hK _ _ ⟨_, by kernel_rfl, hJ.gC 7 rfl (by kernel_rfl) hb4 (ai.mono h5 (Cx _)) Cp⟩
       . intro L fx w' hJ hL hp hcl;refine aX rfl fun K hK => ?_;have rw0 := (hJ.rows _ r8).1;have cl0 : w'.cell? ⟨w10.heap.size, 0, none⟩ = some (.bool za.1) := rw0.cell 0;have cl1 : w'.cell? ⟨w10.heap.size, 1, none⟩ = some (.slice za.2.1 za.2.2.1 za.2.2.2) := rw0.cell 1;go_simp;exact hJ.q hK (by kernel_rfl) rfl
       . intro L fx w' hJ hL hp hcl;have e7 := hJ.slot 7 (by show 7 < 11; decide) (hp 7 Cr);have e8 := hJ.pt 8 101 (.agg #[.bool za.1, .slice za.2.1 za.2.2.1 za.2.2.2]) rfl rfl rfl (hp 8 Cr);rw [e8] at hJ |-; clear e8;have e7' := e7;obtain ⟨b7, o7, l7, k7, hv0⟩ := ai.parts e7;rw [hv0] at e7';rw [aH (x := (bD fx 101 (.agg #[.bool za.1, .slice za.2.1 za.2.2.1 za.2.2.2]))) (d := 100) (v := (.agg #[.bool b7, .slice o7 l7 k7])) hv0] at hJ |-;refine aX rfl fun K hK => ?_;go_simp;exact hK _ _ ⟨_, by kernel_rfl, hJ.pC 9 rfl (by kernel_rfl) ⟨_, _, _, _, _, _, _, _, rfl, e7', (show ai w' _ _ _ from hJ.base _ r8)⟩ Cp⟩
       . intro L fx w' hJ hL hp hcl;have e9 := hJ.slot 9 (by show 9 < 11; decide) (hp 9 Cr);have e5 := hJ.pt 5 98 (.agg #[.bool zx.1, .slice zx.2.1 zx.2.2.1 zx.2.2.2, .bool zy.1, .slice zy.2.1 zy.2.2.1 zy.2.2.2]) rfl rfl rfl (hp 5 Cr);rw [e5] at hJ |-; clear e5;obtain ⟨b1, o1, l1, k1, b2, o2, l2, k2, hv0, hO1, hO2⟩ := e9;rw [aH (x := (bD fx 98 (.agg #[.bool zx.1, .slice zx.2.1 zx.2.2.1 zx.2.2.2, .bool zy.1, .slice zy.2.1 zy.2.2.1 zy.2.2.2]))) (d := 102) (v := (.agg #[.bool b1, .slice o1 l1 k1, .bool b2, .slice o2 l2 k2])) hv0] at hJ |-;refine aX rfl fun K hK => ?_;go_simp;exact hK _ _ ⟨_, by kernel_rfl, hJ.pC 10 rfl (by kernel_rfl) ⟨zx, zy, (b1, o1, l1, k1), (b2, o2, l2, k2), rfl, (show ai w' _ _ _ from hJ.base _ gM), (show ai w' _ _ _ from hJ.base _ jk), hO1, hO2⟩ Cp⟩
     . intro L2 x2 w14 hL hJ;have hfr : Below w13.drew.heap.size w13.drew w14 := hJ.fr;have e0 : x2 93 = .pointer (some ⟨S.lb, 0, none⟩) := hJ.slot 0 (by show 0 < 11; decide) (hL 0 (by show 0 < 11; decide));have e1 : x2 94 = .int .i64 (k : Int) := hJ.slot 1 (by show 1 < 11; decide) (hL 1 (by show 1 < 11; decide));have e2 : x2 95 = .int .i64 (n : Int) := hJ.slot 2 (by show 2 < 11; decide) (hL 2 (by show 2 < 11; decide));obtain ⟨mp, mq, mr, ms, e10, hm1, hm2, hm3, hm4⟩ := hJ.slot 10 (by show 10 < 11; decide) (hL 10 (by show 10 < 11; decide));have e10 : x2 103 = .agg #[.bool mp.1, .slice mp.2.1 mp.2.2.1 mp.2.2.2, .bool mq.1, .slice mq.2.1 mq.2.2.1 mq.2.2.2, .bool mr.1, .slice mr.2.1 mr.2.2.1 mr.2.2.2, .bool ms.1, .slice ms.2.1 ms.2.2.1 ms.2.2.2] := e10;rw [aH (x := x2) (d := 93) (v := .pointer (some ⟨S.lb, 0, none⟩)) e0];rw [aH (x := (bD x2 93 (.pointer (some ⟨S.lb, 0, none⟩)))) (d := 94) (v := .int .i64 (k : Int)) e1];rw [aH (x := (bD (bD x2 93 (.pointer (some ⟨S.lb, 0, none⟩))) 94 (.int .i64 (k : Int)))) (d := 95) (v := .int .i64 (n : Int)) e2];rw [aH (x := (bD (bD (bD x2 93 (.pointer (some ⟨S.lb, 0, none⟩))) 94 (.int .i64 (k : Int))) 95 (.int .i64 (n : Int)))) (d := 103) (v := .agg #[.bool mp.1, .slice mp.2.1 mp.2.2.1 mp.2.2.2, .bool mq.1, .slice mq.2.1 mq.2.2.1 mq.2.2.2, .bool mr.1, .slice mr.2.1 mr.2.2.1 mr.2.2.2, .bool ms.1, .slice ms.2.1 ms.2.2.1 ms.2.2.2]) e10];have LF := H5 (aI.below (w := w13.drew) LL_5.out.drew hfr);have CF := H5 (CC_5.out.drew.below hfr);have M1 := H5 (ai.int (L := B + 2) hm1 hxw);have M2 := H5 (ai.int (L := B + 2) hm2 hyw);have M3 := H5 (ai.int (L := B + 2) hm3 (by rw [DK]; omega));have M4 := H5 (ai.int (L := B + 2) hm4 Cp);clear hJ hL e0 e1 e2 e10 hm1 hm2 hm3 hm4 LL_5 CC_5;refine aX rfl fun K hK => ?_;go_simp;go_at_call 131;have hlx : R1[k].xs.length = R1[n].xs.length := by rw [HF1.out.len _ (Cu hkA), HF1.out.len _ (Cu hnA)]
       have hlen2 : R1[k].xs.length <= 4611686018427387903 := by rw [HF1.out.len _ (Cu hkA)]; omega
       have hdet : XX * aq - YY * (-bq) = 1 := by
        have := AI xp xv (by rw [HGG.out]; exact HG0.out);rw [HGG.out, HXX.out, HYY.out, HAQ.out, HBQ.out] at this;rw [Ew];omega
       refine (BN (S.aB R1) k n mp mq mr ms XX YY (-bq) aq (B + 2) B _ LF.out hkA hnA hkn M1.out M2.out M3.out M4.out hlx (fun x hx => HF1.out.fit _ (Cu hkA) x hx) (fun y hy => HF1.out.fit _ (Cu hnA) y hy) Cp hlen2 (HT.out.jX R1) (HT.out.yN HF1.out) Cp hdet).mono ?_;rintro e w15 ⟨rfl, hL15, hC15⟩;try dsimp only
       refine hK _ _ ⟨⟨bD (bD (bD (bD (bD x2 93 (.pointer (some ⟨S.lb, 0, none⟩))) 94 (.int .i64 (k : Int))) 95 (.int .i64 (n : Int))) 103 (.agg #[.bool mp.1, .slice mp.2.1 mp.2.2.1 mp.2.2.2, .bool mq.1, .slice mq.2.1 mq.2.2.1 mq.2.2.2, .bool mr.1, .slice mr.2.1 mr.2.2.1 mr.2.2.2, .bool ms.1, .slice ms.2.1 ms.2.2.1 ms.2.2.2])) 104 (.tuple #[]), by kernel_rfl⟩, ?_⟩;clear hK;have hE : dR S.R k n j = kF R1 k n XX YY (-bq) aq hkA hnA := by
        rw [HMT.out, Hxp.out, Hxv.out, HGG.out, HXX.out, HYY.out, HAQ.out, HBQ.out, uZ hkA hnA]
       have hown : ∀ q, (S.aB R1).own q ↔ S.own q := by
        intro q;rw [<- HR1.out];unfold bB;rw [n7 hn hk];exact gn S n _ q
       have HE := H5 hE; clear hE;have HO := H5 hown; clear hown;have LG := H5 hL15; clear hL15;have CG := H5 (CF.out.trans (hC15.mono (fun q _ e => (HO.out q).1 e))); clear hC15;go_wp2;refine bodyPost_end (results_none (by kernel_rfl) _ _ _) rfl ?_;rw [HE.out];exact ⟨rfl, LG.out, CG.out⟩
theorem pY : ∀ {xs : List Int} {j : Nat} (_ : lead xs = j) (hj : j < xs.length), xs[j] ≠ 0
 | x :: xs, j, h, hj => by
  unfold lead at h;by_cases h0 : x = 0
  . rw [if_pos h0] at h;subst h;simpa using pY (xs := xs) rfl (by simpa using hj)
  . rw [if_neg h0] at h;subst h;simpa using h0
theorem aL.sign {w : World} {p : P4} {x : Int} (h : aL w (av p) x) (hx : x ≠ 0) : p.1 = decide (x < 0) := by
 obtain ⟨n, ao, len, cap, ws, he, hW, hl, hL, hc, rfl⟩ := h.1;unfold av at he;have : p.1 = n := by injection he with he; simp at he; exact he.1
 rw [this];exact kE hx
def cd (R : List Hd) (i : Nat) : List Hd := if h : i < R.length then iG R i h else R
def swapT (R : List Hd) (i j : Nat) : List Hd := if h : i < R.length /\ j < R.length then fF R i j h.1 h.2 else R
theorem nf {R : List Hd} {i : Nat} (hi : i < R.length) : cd R i = iG R i hi := by unfold cd; rw [dif_pos hi]
theorem iy {R : List Hd} {i j : Nat} (hi : i < R.length) (hj : j < R.length) : swapT R i j = fF R i j hi hj := by unfold swapT; rw [dif_pos ⟨hi, hj⟩]
theorem fQ (R : List Hd) (i : Nat) : (cd R i).length = R.length := by
 unfold cd; split
 . unfold iG; rw [aE]
 . rfl
theorem bJ (R : List Hd) (i j : Nat) : (swapT R i j).length = R.length := by
 unfold swapT; split
 . exact cf ..
 . rfl
theorem rK (R : List Hd) (i j : Nat) (a b c d : Int) : (l5 R i j a b c d).length = R.length := by
 unfold l5; split
 . unfold kF; rw [aE, aE]
 . rfl
theorem j5 (R : List Hd) (k n j : Nat) : (dR R k n j).length = R.length := by
 unfold dR bB; split
 . exact dq ..
 . rw [rK]; exact dq ..
def bg (at_ : Nat) : Nat -> List Hd -> List Hd
 | 0, R => R
 | i + 1, R => if i + 1 <= at_ then R else bg at_ i (swapT R (i + 1) i)
inductive jV (B c n : Nat) : Nat -> Int -> List Hd -> Bool -> List Hd -> Prop
 | zero {at_ : Nat} {last : Int} {R R' : List Hd} (hF : Fit B c R) (h : aR R n = c \/ (aR R n : Int) <= last) (hs : iE B c (ep R n) n n R R') : jV B c n at_ last R false R'
 | stop {at_ : Nat} {last : Int} {R R' : List Hd} (hF : Fit B c R) (h1 : aR R n < c) (h2 : last < aR R n) (a : Nat) (ha : at_ <= a) (hn : a <= n) (hlt : ∀ i, at_ <= i -> i < a -> aR R i < aR R n) (hb : a = n \/ aR R n < aR R a)
  (hF2 : Fit B c (bg a n (if az R n (aR R n) < 0 then cd R n else R)))
  (hs : iE B c (ep (bg a n (if az R n (aR R n) < 0 then cd R n else R)) (n + 1)) (n + 1) (n + 1) (bg a n (if az R n (aR R n) < 0 then cd R n else R)) R') : jV B c n at_ last R true R'
 | meet {at_ : Nat} {last : Int} {R R' : List Hd} {b : Bool} (hF : Fit B c R) (h1 : aR R n < c) (h2 : last < aR R n) (a : Nat) (ha : at_ <= a) (hn : a < n) (hlt : ∀ i, at_ <= i -> i < a -> aR R i < aR R n) (hj : aR R a = aR R n)
  (hp : az R a (aR R n) ≠ 0) (hF1 : Fit B c (bB R a n (aR R n))) (hp1 : az (bB R a n (aR R n)) a (aR R n) ≠ 0)
  (hs : jV B c n a (aR R n) (dR R a n (aR R n)) b R') : jV B c n at_ last R b R'
theorem lH (S : cR) (i k : Nat) : (S.aB (cd S.R i)).own k ↔ S.own k := by
 unfold cd; split
 . exact gn S i _ k
 . exact Iff.rfl
theorem nV (S : cR) (i j : Nat) (x : Int) (k : Nat) : (S.aB (iI S.R i j x)).own k ↔ S.own k := by
 unfold iI; split
 . exact gn S i _ k
 . exact Iff.rfl
theorem y5 (S : cR) (i j : Nat) (a b c d : Int) (k : Nat) : (S.aB (l5 S.R i j a b c d)).own k ↔ S.own k := by
 unfold l5; split
 . exact (gn (S.aB (dI S.R i _)) j _ k).trans (gn S i _ k)
 . exact Iff.rfl
theorem pL (S : cR) (a n j k : Nat) : (S.aB (dR S.R a n j)).own k ↔ S.own k := by
 unfold dR bB; split
 . exact nV S n a _ k
 . exact (y5 (S.aB (iI S.R n a _)) a n _ _ _ _ k).trans (nV S n a _ k)
theorem gh (S : cR) (i j k : Nat) : (S.aB (swapT S.R i j)).own k ↔ S.own k := by
 unfold swapT; split
 . rename_i h;exact or_congr (uH (fun b => vW h.1 h.2 b) k) Iff.rfl
 . exact Iff.rfl
theorem Put_c (S : cR) (n B c : Nat) (res : Bool) (R' : List Hd) (w : World) (h : aI w S) (hn : n < S.R.length) (hB : B <= 4000000000000) (hP : jV B c n 0 (-1) S.R res R') (hR : S.R.length <= 100000) (hc : c <= 1000000) (hT : S.sat B c) :
 Calls Tryz.prog 99 #[.pointer (some ⟨S.lb, 0, none⟩), .int .i64 (n : Int)] w fun e w' => e = .returned (.bool res) /\ aI w' (S.aB R') /\ aU S.own w w' := by
 have HT := H5 hT; clear hT;have HL := H5 h; clear h;have HP := H5 hP; clear hP;go_enter Tryz.func99, Tryz.ntmps99;go_wp2;go_loopw [5, 6] (fun a_ l_ wr => ∃ (at_ : Nat) (last : Int) (R : List Hd), at_ <= n /\ (-1 <= last /\ last <= (c : Int)) /\ a_ = .int .i64 (at_ : Int) /\ l_ = .int .i64 last /\ Hid (R.length = S.R.length) /\ Hid (jV B c n at_ last R res R') /\ Hid (aI wr (S.aB R)) /\ Hid (aU S.own w wr) /\ Hid (∀ k, (S.aB R).own k ↔ S.own k)) (fun _ l_ _ => ((c : Int) - intOf l_).toNat)
 case atStart => exact ⟨0, -1, S.R, Cx _, ⟨by omega, by omega⟩, rfl, rfl, rfl, HP, HL, aU.refl .., fun _ => Iff.rfl⟩
 case round =>
  obtain ⟨at_, last, R, hat, ⟨hl1, hl2⟩, rfl, rfl, hRl, hPt, hL, hC, hO⟩ := hrel;have hnR : n < R.length := by have := hRl.out; omega
  have hF : Hid (Fit B c R) := by
   have := hPt.out;cases this with
   | zero hF _ _ => exact hF
   | stop hF _ _ _ _ _ _ _ _ _ => exact hF
   | meet hF _ _ _ _ _ _ _ _ _ _ _ => exact hF
  have hcn : R[n].xs.length = c := hF.out.len _ (Cu hnR);have hlead : aR R n = lead R[n].xs := gg hnR;have hle := qv R[n].xs;have hn1 : (n : Int) < (R.length : Int) := by omega
  have cb : wr.cell? ⟨S.lb, 0, none⟩ = some (.slice (some ⟨S.o, 0, none⟩) R.length S.cap) := hL.out.lad.cell 0;have cn : wr.cell? ⟨S.o, n, none⟩ = some (.slice (some ⟨R[n].blk, 0, none⟩) R[n].xs.length R[n].cap) := hL.out.dU.dA (i := n) hnR;rw [hcn] at cn hle;have Hcn := H5 hcn; clear hcn;have Hlead := H5 hlead; clear hlead;go_wp2_with fail
  have hLd := kI R[n].blk R[n].cap R[n].xs wr (hL.out.dU.row _ (Cu (l := R) hnR)) (fun x hx => by have := hF.out.fit _ (Cu hnR) x hx; omega) (by rw [Hcn.out]; omega);rw [Hcn.out] at hLd;refine hLd.mono ?_;rintro e w2 ⟨rfl, hb2⟩;have L2 := H5 (hL.out.below hb2);have C2 := H5 (hC.out.below hb2);clear hLd hL hC hb2 cb cn;have cb : w2.cell? ⟨S.lb, 0, none⟩ = some (.slice (some ⟨S.o, 0, none⟩) R.length S.cap) := L2.out.lad.cell 0;have cn : w2.cell? ⟨S.o, n, none⟩ = some (.slice (some ⟨R[n].blk, 0, none⟩) R[n].xs.length R[n].cap) := L2.out.dU.dA (i := n) hnR;rw [Hcn.out] at cn;obtain ⟨jj, hjj⟩ := Cs (lead R[n].xs);rw [hjj] at hle |-;have hPj := hPt.out;have hld := Hlead.out;rw [hjj] at hld;have Hld := H5 hld; clear hld;by_cases hz : jj = c \/ (jj : Int) <= last
  . have hfin : res = false /\ iE B c (ep R n) n n R R' := by
     cases hPj with
     | zero _ _ hs => exact ⟨rfl, hs⟩
     | stop _ h1 h2 _ _ _ _ _ _ _ => rw [Hld.out] at h1 h2; omega
     | meet _ h1 h2 _ _ _ _ _ _ _ _ _ => rw [Hld.out] at h1 h2; omega
    obtain ⟨rfl, hs⟩ := hfin;have HSO := H5 hs; clear hs;clear hPj hPt;by_cases hz1 : jj = c
    . have hz2 : ((jj : Int) == (c : Int)) = true := by rw [hz1]; simp
      obtain ⟨j2, hj2⟩ : ∃ j2, j2 = jj := ⟨_, rfl⟩;have hz3 : (jj : Int) = (c : Int) := by omega
      have Hz1 := H5 hz1;clear hz hz1 hz2 hj2;go_wp2_with fail
      refine (iM (S.aB R) n B c R' _ L2.out (Dg hnR) Cp hF.out HSO.out (by show R.length <= 1000000; have := hRl.out; omega) hc HT.out).mono ?_;rintro e w3 ⟨rfl, hL3, hC3⟩;have CF := H5 (C2.out.trans (hC3.mono (fun q _ e => (hO.out q).1 e)));have LF := H5 hL3;clear hL3 hC3;go_wp2;go_ret;exact ⟨rfl, LF.out, CF.out⟩
    . have hz3 : ¬ (jj : Int) = (c : Int) := by omega
      have hz2 : ((jj : Int) == (c : Int)) = false := beq_eq_false_iff_ne.2 hz3;have hz4 : (jj : Int) <= last := by omega
      have Hz1 := H5 hz1;clear hz hz1;go_wp2_with fail
      refine (iM (S.aB R) n B c R' _ L2.out (Dg hnR) Cp hF.out HSO.out (by show R.length <= 1000000; have := hRl.out; omega) hc HT.out).mono ?_;rintro e w3 ⟨rfl, hL3, hC3⟩;have CF := H5 (C2.out.trans (hC3.mono (fun q _ e => (hO.out q).1 e)));have LF := H5 hL3;clear hL3 hC3;go_wp2;go_ret;exact ⟨rfl, LF.out, CF.out⟩
  . have hz3 : ¬ (jj : Int) = (c : Int) := by omega
    have hz2 : ((jj : Int) == (c : Int)) = false := beq_eq_false_iff_ne.2 hz3;have hz4 : ¬ (jj : Int) <= last := by omega
    have hjc : jj < c := by omega
    have hjl : last < (jj : Int) := by omega
    have Hjj := H5 hjj; clear hjj;clear hz hPj;go_wp2;clear hz2 hz3 hz4 cb cn;go_loopw [5] (fun a_ wq => ∃ a : Nat, at_ <= a /\ a <= n /\ a_ = .int .i64 (a : Int) /\ Hid (∀ i, at_ <= i -> i < a -> aR R i < jj) /\ Hid (aI wq (S.aB R)) /\ Hid (aU S.own w wq)) (fun a_ _ => n - (intOf a_).toNat)
    case atStart => exact ⟨at_, Ct _, hat, rfl, fun i h1 h2 => by omega, L2, C2⟩
    case round =>
     obtain ⟨a, ha1, ha2, rfl, hlt, hLq, hCq⟩ := hrel;by_cases han : a < n
     . have haR : a < R.length := by omega
       have han1 : (a : Int) < (n : Int) := by omega
       have haR1 : (a : Int) < (R.length : Int) := by omega
       have cb : wr.cell? ⟨S.lb, 0, none⟩ = some (.slice (some ⟨S.o, 0, none⟩) R.length S.cap) := hLq.out.lad.cell 0;have ca : wr.cell? ⟨S.o, a, none⟩ = some (.slice (some ⟨R[a].blk, 0, none⟩) R[a].xs.length R[a].cap) := hLq.out.dU.dA (i := a) haR;go_wp2_with fail
       refine (kI R[a].blk R[a].cap R[a].xs _ (hLq.out.dU.row _ (Cu (l := R) haR)) (fun x hx => by have := hF.out.fit _ (Cu haR) x hx; omega) (by rw [hF.out.len _ (Cu haR)]; omega)).mono ?_;rintro e w3 ⟨rfl, hb3⟩;have L3 := H5 (hLq.out.below hb3);have C3 := H5 (hCq.out.below hb3);clear hLq hCq hb3 cb ca;obtain ⟨la, hla⟩ := Cs (lead R[a].xs);have hla2 : aR R a = la := (gg haR).trans hla;rw [hla];have Hla := H5 hla2; clear hla hla2;by_cases hlj : la < jj
       . have hlj1 : (la : Int) < (jj : Int) := by omega
         go_wp2;go_roundw
         case rel => exact ⟨a + 1, by omega, by omega, by go_num, H5 (fun i h1 h2 => (Nat.lt_succ_iff_lt_or_eq.1 h2).elim (fun h => hlt.out i h1 h) (fun h => by subst h; rw [Hla.out]; exact hlj)), L3, C3⟩
         case measure => simp [intOf]; omega
       . have hlj1 : ¬ (la : Int) < (jj : Int) := by omega
         have haR2 : (a : Int) < (R.length : Int) := by omega
         have cb : w3.cell? ⟨S.lb, 0, none⟩ = some (.slice (some ⟨S.o, 0, none⟩) R.length S.cap) := L3.out.lad.cell 0;have ca : w3.cell? ⟨S.o, a, none⟩ = some (.slice (some ⟨R[a].blk, 0, none⟩) R[a].xs.length R[a].cap) := L3.out.dU.dA (i := a) haR;have hanb : ((a : Int) == (n : Int)) = false := beq_eq_false_iff_ne.2 Cp;have hane : ¬ (a : Int) = (n : Int) := by omega
         go_wp2_with fail
         refine (kI R[a].blk R[a].cap R[a].xs _ (L3.out.dU.row _ (Cu (l := R) haR)) (fun x hx => by have := hF.out.fit _ (Cu haR) x hx; omega) (by rw [hF.out.len _ (Cu haR)]; omega)).mono ?_;rintro e w4 ⟨rfl, hb4⟩;have L4 := H5 (L3.out.below hb4);have C4 := H5 (C3.out.below hb4);clear L3 C3 hb4 cb ca;have hla3 : lead R[a].xs = la := (gg haR).symm.trans Hla.out;rw [hla3];clear hla3;by_cases hlaj : la = jj
         . have hcase : az R a jj ≠ 0 /\ Fit B c (bB R a n jj) /\ az (bB R a n jj) a jj ≠ 0 /\ jV B c n a (jj : Int) (dR R a n jj) res R' := by
            have hPj := hPt.out;have hx := hlt.out;have hl := Hla.out;have hd := Hld.out;cases hPj with
            | zero _ h _ => rw [hd] at h; omega
            | stop _ h1 h2 a' ha' hn' hlt' hb' _ _ =>
             rw [hd] at hlt' hb';rcases Dl a' a with h | h | h
             . have := hx a' ha' h; omega
             . subst h; omega
             . have := hlt' a ha1 h; omega
            | meet _ h1 h2 a' ha' hn' hlt' hj' hp hF1 hp1 hs =>
             rw [hd] at hlt' hj' hp hF1 hp1 hs;have haa : a' = a := by
              rcases Dl a' a with h | h | h
              . have := hx a' ha' h; omega
              . exact h
              . have := hlt' a ha1 h; omega
             subst haa;exact ⟨hp, hF1, hp1, hs⟩
           obtain ⟨m1, m2, m3, m4⟩ := hcase;have M4 := H5 m4; clear m4;have hlb : ((la : Int) != (jj : Int)) = false := by rw [hlaj]; simp
           have hle2 : (la : Int) = (jj : Int) := by omega
           have Hlaj := H5 hlaj; clear hlaj;have hmt := BZ (S.aB R) a n jj B c w4 L4.out haR hnR Cp hjc hB hF.out m2 m1 m3 (by show R.length <= 1000000; have := hRl.out; omega) hc HT.out;have HMt := H5 hmt;clear m1 m2 m3 hmt;go_wp2_with fail
           refine HMt.out.mono ?_;rintro e w5 ⟨rfl, hL5, hC5⟩;have L5 := H5 hL5;have C5 := H5 (C4.out.trans (hC5.mono (fun q _ e => (hO.out q).1 e)));clear hL5 hC5 hlb hle2 hanb hane;go_wp2;go_roundw
           case rel => exact ⟨a, (jj : Int), dR R a n jj, by omega, ⟨by omega, by omega⟩, by go_num, by go_num, H5 ((j5 ..).trans hRl.out), M4, L5, C5, H5 (fun q => (pL (S.aB R) a n jj q).trans (hO.out q))⟩
           case measure =>
            simp only [intOf];omega
         . have hbr : a = n \/ jj < aR R a := by have := Hla.out; omega
           have Hbr := H5 hbr; clear hbr;have hlb : ((la : Int) != (jj : Int)) = true := by rw [bne_iff_ne]; omega
           have hle2 : ¬ (la : Int) = (jj : Int) := by omega
           clear hlaj;have hstop : res = true /\ Fit B c (bg a n (if az R n jj < 0 then cd R n else R)) /\ iE B c (ep (bg a n (if az R n jj < 0 then cd R n else R)) (n + 1)) (n + 1) (n + 1) (bg a n (if az R n jj < 0 then cd R n else R)) R' := by
            have hPj := hPt.out;have hx := hlt.out;have hd := Hld.out;have hbr := Hbr.out;cases hPj with
            | zero _ h _ => rw [hd] at h; omega
            | stop _ h1 h2 a' ha' hn' hlt' hb' hF2 hs =>
             rw [hd] at hlt' hb' hF2 hs;have haa : a' = a := by
              rcases Dl a' a with h | h | h
              . have := hx a' ha' h; omega
              . exact h
              . have := hlt' a ha1 h; omega
             subst haa;exact ⟨rfl, hF2, hs⟩
            | meet _ h1 h2 a' ha' hn' hlt' hj' hp hF1 hp1 hs =>
             rw [hd] at hlt' hj';rcases Dl a' a with h | h | h
             . have := hx a' ha' h; omega
             . subst h; omega
             . have := hlt' a ha1 h; omega
           obtain ⟨rfl, hF2, hs2⟩ := hstop;have HF2 := H5 hF2; clear hF2;have HS2 := H5 hs2; clear hs2;have hXn := L4.out.dU.row _ (Cu (l := R) hnR);have hjn : jj < R[n].xs.length := by rw [Hcn.out]; exact hjc
           obtain ⟨pn, cp0, cp1, hpn⟩ := hXn.get hjn;have hx0 : R[n].xs[jj] ≠ 0 := pY Hjj.out hjn;have hsg := hpn.sign hx0;have heN := gE hnR hjn;have HXn := H5 hXn; clear hXn;have Hsg := H5 hsg; clear hsg;have HeN := H5 heN; clear heN;clear hpn hx0;have cb : w4.cell? ⟨S.lb, 0, none⟩ = some (.slice (some ⟨S.o, 0, none⟩) R.length S.cap) := L4.out.lad.cell 0;have cn : w4.cell? ⟨S.o, n, none⟩ = some (.slice (some ⟨R[n].blk, 0, none⟩) R[n].xs.length R[n].cap) := L4.out.dU.dA (i := n) hnR;have sb1 := HXn.out.lt;have sb3 : S.lb < w4.heap.size := L4.out.lad.lt;have sb4 : S.o < w4.heap.size := L4.out.dU.out.lt;have hjn1 : (jj : Int) < (R[n].xs.length : Int) := by omega
           go_wp2;refine eK ⟨18, fun q_ => [73, 74, 75, 76, 77, 78, 79, 80, 81, 82, 83, 84, 85, 86, 87, 88, 89, 90].getD q_ 0,
            fun q_ => [.val (.pointer (some ⟨S.lb, 0, none⟩)), .val (.pointer (some ⟨S.lb, 0, none⟩)), .val (.pointer (some ⟨S.lb, 0, none⟩)), .val (.slice (some ⟨S.o, 0, none⟩) R.length S.cap), .val (.int .i64 (n : Int)), .val (.pointer (some ⟨S.o, n, none⟩)), .val (.slice (some ⟨R[n].blk, 0, none⟩) R[n].xs.length R[n].cap), .val (.pointer (some ⟨S.lb, 0, none⟩)), .val (.pointer (some ⟨S.lb, 0, none⟩)), .val (.pointer (some ⟨S.lb, 0, none⟩)), .val (.slice (some ⟨S.o, 0, none⟩) R.length S.cap), .val (.int .i64 (n : Int)), .val (.pointer (some ⟨S.o, n, none⟩)), .val (.slice (some ⟨R[n].blk, 0, none⟩) R[n].xs.length R[n].cap), .val (.int .i64 (jj : Int)), .val (.pointer (some ⟨R[n].blk, jj * 2, none⟩)), .val (.pointer (some ⟨R[n].blk, jj * 2, none⟩)), .val (.bool pn.1)].getD q_ .any,
            [],
            [],
            [],
            [], [(⟨S.lb, 0, none⟩, .slice (some ⟨S.o, 0, none⟩) R.length S.cap), (⟨S.o, n, none⟩, .slice (some ⟨R[n].blk, 0, none⟩) R[n].xs.length R[n].cap), (⟨R[n].blk, jj * 2, none⟩, .bool pn.1)], []⟩ [73, 74, 75, 76, 77, 78, 79, 80, 81, 82, 83, 84, 85, 86, 87, 88, 89, 90] (w4.heap.size) (by kernel_rfl) (by kernel_rfl) (by kernel_rfl) (by kernel_rfl) ?_ ?_ ?_ ?_ ?_ ?_
           . intro p hp;cases hp
           . intro p hp;cases hp
           . intro p hp;rcases mc hp with rfl | hp
             . refine ⟨cb, by show S.lb < w4.heap.size; omega, ?_⟩;intro t ht;cases ht
             rcases mc hp with rfl | hp
             . refine ⟨cn, by show S.o < w4.heap.size; omega, ?_⟩;intro t ht;cases ht
             rcases mc hp with rfl | hp
             . refine ⟨cp0, by show R[n].blk < w4.heap.size; omega, ?_⟩;intro t ht;cases ht
             cases hp
           . intro t ht;cases ht
           . refine aj ?_ (aj ?_ (aj ?_ (aj ?_ (aj ?_ (aj ?_ (aj ?_ (aj ?_ (aj ?_ (aj ?_ (aj ?_ (aj ?_ (aj ?_ (aj ?_ (aj ?_ (aj ?_ (aj ?_ (aj ?_ lk)))))))))))))))));any_goals (first | (intro L fx w' hJ hL hp hcl; have _ := tN hp (by decide +kernel); refine aX rfl fun K hK => ?_; go_simp; exact hJ.q hK (by kernel_rfl) rfl) | fail)
             . intro L fx w' hJ hL hp hcl;have e0 := hJ.pt 0 73 (.pointer (some ⟨S.lb, 0, none⟩)) rfl rfl rfl (hp 0 Cr);rw [e0] at hJ |-; clear e0;refine aX rfl fun K hK => ?_;go_simp;exact hJ.q hK (by kernel_rfl) rfl
             . intro L fx w' hJ hL hp hcl;have e1 := hJ.pt 1 74 (.pointer (some ⟨S.lb, 0, none⟩)) rfl rfl rfl (hp 1 Cr);rw [e1] at hJ |-; clear e1;refine aX rfl fun K hK => ?_;go_simp;exact hJ.q hK (by kernel_rfl) rfl
             . intro L fx w' hJ hL hp hcl;have e2 := hJ.pt 2 75 (.pointer (some ⟨S.lb, 0, none⟩)) rfl rfl rfl (hp 2 Cr);rw [e2] at hJ |-; clear e2;refine aX rfl fun K hK => ?_;have cl0 := (hJ.cells _ gM).1;try dsimp only at cl0
               go_simp;exact hJ.q hK (by kernel_rfl) rfl
             . intro L fx w' hJ hL hp hcl;have e3 := hJ.pt 3 76 (.slice (some ⟨S.o, 0, none⟩) R.length S.cap) rfl rfl rfl (hp 3 Cr);rw [e3] at hJ |-; clear e3;have e4 := hJ.pt 4 77 (.int .i64 (n : Int)) rfl rfl rfl (hp 4 Cr);rw [e4] at hJ |-; clear e4;refine aX rfl fun K hK => ?_;go_simp;exact hJ.q hK (by kernel_rfl) rfl
             . intro L fx w' hJ hL hp hcl;have e5 := hJ.pt 5 78 (.pointer (some ⟨S.o, n, none⟩)) rfl rfl rfl (hp 5 Cr);rw [e5] at hJ |-; clear e5;refine aX rfl fun K hK => ?_;have cl0 := (hJ.cells _ jk).1;try dsimp only at cl0
               go_simp;exact hJ.q hK (by kernel_rfl) rfl
             . intro L fx w' hJ hL hp hcl;have e7 := hJ.pt 7 80 (.pointer (some ⟨S.lb, 0, none⟩)) rfl rfl rfl (hp 7 Cr);rw [e7] at hJ |-; clear e7;refine aX rfl fun K hK => ?_;go_simp;exact hJ.q hK (by kernel_rfl) rfl
             . intro L fx w' hJ hL hp hcl;have e8 := hJ.pt 8 81 (.pointer (some ⟨S.lb, 0, none⟩)) rfl rfl rfl (hp 8 Cr);rw [e8] at hJ |-; clear e8;refine aX rfl fun K hK => ?_;go_simp;exact hJ.q hK (by kernel_rfl) rfl
             . intro L fx w' hJ hL hp hcl;have e9 := hJ.pt 9 82 (.pointer (some ⟨S.lb, 0, none⟩)) rfl rfl rfl (hp 9 Cr);rw [e9] at hJ |-; clear e9;refine aX rfl fun K hK => ?_;have cl0 := (hJ.cells _ gM).1;try dsimp only at cl0
               go_simp;exact hJ.q hK (by kernel_rfl) rfl
             . intro L fx w' hJ hL hp hcl;have e10 := hJ.pt 10 83 (.slice (some ⟨S.o, 0, none⟩) R.length S.cap) rfl rfl rfl (hp 10 Cr);rw [e10] at hJ |-; clear e10;have e11 := hJ.pt 11 84 (.int .i64 (n : Int)) rfl rfl rfl (hp 11 Cr);rw [e11] at hJ |-; clear e11;refine aX rfl fun K hK => ?_;go_simp;exact hJ.q hK (by kernel_rfl) rfl
             . intro L fx w' hJ hL hp hcl;have e12 := hJ.pt 12 85 (.pointer (some ⟨S.o, n, none⟩)) rfl rfl rfl (hp 12 Cr);rw [e12] at hJ |-; clear e12;refine aX rfl fun K hK => ?_;have cl0 := (hJ.cells _ jk).1;try dsimp only at cl0
               go_simp;exact hJ.q hK (by kernel_rfl) rfl
             . intro L fx w' hJ hL hp hcl;have e13 := hJ.pt 13 86 (.slice (some ⟨R[n].blk, 0, none⟩) R[n].xs.length R[n].cap) rfl rfl rfl (hp 13 Cr);rw [e13] at hJ |-; clear e13;refine aX rfl fun K hK => ?_;go_simp;go_at_call 44;refine (kI R[n].blk R[n].cap R[n].xs _ (aO.below (w := w4.drew) HXn.out hJ.fr) (fun x hx => by have := hF.out.fit _ (Cu hnR) x hx; omega) (by rw [Hcn.out]; omega)).mono ?_;rintro e w4 ⟨rfl, hb4⟩;try dsimp only
               rw [Hjj.out];exact hK _ _ ⟨_, by kernel_rfl, hJ.gC 14 rfl (by kernel_rfl) hb4 rfl Cp⟩
             . intro L fx w' hJ hL hp hcl;have e6 := hJ.pt 6 79 (.slice (some ⟨R[n].blk, 0, none⟩) R[n].xs.length R[n].cap) rfl rfl rfl (hp 6 Cr);rw [e6] at hJ |-; clear e6;have e14 := hJ.pt 14 87 (.int .i64 (jj : Int)) rfl rfl rfl (hp 14 Cr);rw [e14] at hJ |-; clear e14;refine aX rfl fun K hK => ?_;go_simp;exact hJ.q hK (by kernel_rfl) rfl
             . intro L fx w' hJ hL hp hcl;have e15 := hJ.pt 15 88 (.pointer (some ⟨R[n].blk, jj * 2, none⟩)) rfl rfl rfl (hp 15 Cr);rw [e15] at hJ |-; clear e15;refine aX rfl fun K hK => ?_;go_simp;exact hJ.q hK (by kernel_rfl) rfl
             . intro L fx w' hJ hL hp hcl;have e16 := hJ.pt 16 89 (.pointer (some ⟨R[n].blk, jj * 2, none⟩)) rfl rfl rfl (hp 16 Cr);rw [e16] at hJ |-; clear e16;refine aX rfl fun K hK => ?_;have cl0 := (hJ.cells _ r8).1;try dsimp only at cl0
               go_simp;exact hJ.q hK (by kernel_rfl) rfl
           . intro L' x1 w7 hL hJ;have hfr : Below w4.drew.heap.size w4.drew w7 := hJ.fr;have e17 : x1 90 = .bool pn.1 := hJ.slot 17 (by show 17 < 18; decide) (hL 17 (by show 17 < 18; decide));rw [aH (x := x1) (d := 90) (v := .bool pn.1) e17];clear hJ hL e17 cb cn cp0 cp1;have L7 := H5 (aI.below (w := w4.drew) L4.out.drew hfr);have C7 := H5 (C4.out.drew.below hfr);clear hfr;simp only [pN, Nat.reduceEqDiff, ↓reduceIte];cases hneg : pn.1
             . have hif : (if az R n jj < 0 then cd R n else R) = R := if_neg (by
                have := Hsg.out; rw [hneg] at this; rw [HeN.out]; simpa using this.symm)
               have HRF := H5 HF2.out; have HSF := H5 HS2.out;rw [hif] at HRF HSF;clear hif;obtain ⟨RF, hRF⟩ := Cs (bg a n R);rw [hRF] at HRF HSF;have HRFe := H5 hRF; clear hRF;go_wp2;go_loopw [8] (fun i_ wq => ∃ (i : Nat) (R8 : List Hd), i <= n /\ a <= i /\ i_ = .int .i64 (i : Int) /\ Hid (bg a i R8 = RF) /\ Hid (R8.length = S.R.length) /\ Hid (aI wq (S.aB R8)) /\ Hid (aU S.own w wq) /\ Hid (∀ k, (S.aB R8).own k ↔ S.own k)) (fun i_ _ => (intOf i_).toNat)
               case atStart => exact ⟨n, R, Ct _, ha2, rfl, HRFe, hRl, L7, C7, hO⟩
               case round =>
                obtain ⟨i, R8, hin, hai, rfl, hSw, hR8, hL8, hC8, hO8⟩ := hrel;by_cases hia : a < i
                . obtain ⟨i', rfl⟩ : ∃ i', i = i' + 1 := ⟨i - 1, by omega⟩;have hi8 : i' + 1 < R8.length := by have := hR8.out; have := hRl.out; omega
                  have hi8' : i' < R8.length := by omega
                  have hia1 : (a : Int) < ((i' + 1 : Nat) : Int) := by omega
                  have hcast : ((i' + 1 : Nat) : Int) - 1 = (i' : Int) := by omega
                  have hms := ll (S.aB R8) (i' + 1) i' wr hL8.out hi8 hi8' Cp (HT.out.jX R8);have HMs := H5 hms; clear hms;have hcast2 : ((i' + 1 : Nat) : Int) = (i' : Int) + 1 := by omega
                  rw [hcast2] at hia1 hcast HMs |-;clear hcast2;have hia2 : (a : Int) < (i' : Int) + 1 := hia1;have hcast3 : (i' : Int) + 1 - 1 = (i' : Int) := by omega
                  go_wp2_with fail
                  refine HMs.out.mono ?_;rintro e w9 ⟨rfl, hL9, hC9⟩;have L9 := H5 hL9;have C9 := H5 (hC8.out.trans (hC9.mono (fun q _ e => (hO8.out q).1 e)));clear hL9 hC9;go_wp2;go_roundw
                  case rel =>
                   refine ⟨i', swapT R8 (i' + 1) i', by omega, by omega, by go_num, ?_, H5 ((bJ ..).trans hR8.out), ?_, C9, H5 (fun q => (gh (S.aB R8) (i' + 1) i' q).trans (hO8.out q))⟩
                   . have := hSw.out;unfold bg at this;rw [if_neg Cp] at this;exact this
                   . rw [iy hi8 hi8']; exact L9
                  case measure => simp only [intOf]; omega
                . obtain rfl : i = a := by omega
                  have hR8F : R8 = RF := by
                   have := hSw.out;cases i with
                   | zero => exact this
                   | succ q => unfold bg at this; rw [if_pos (Ct _)] at this; exact this
                  subst hR8F;have hset := iM (S.aB R8) (n + 1) B c R' wr hL8.out (by show n + 1 <= R8.length; have := hR8.out; omega) Cp HRF.out HSF.out (by show R8.length <= 1000000; have := hR8.out; omega) hc HT.out;have HSet := H5 hset; clear hset;have hcn1 : ((n + 1 : Nat) : Int) = (n : Int) + 1 := by omega
                  rw [hcn1] at HSet;clear hcn1;have hgt : ¬ (i : Int) > (i : Int) := by omega
                  go_wp2_with fail
                  refine HSet.out.mono ?_;rintro e w9 ⟨rfl, hL9, hC9⟩;have L9 := H5 hL9;have C9 := H5 (hC8.out.trans (hC9.mono (fun q _ e => (hO8.out q).1 e)));clear hL9 hC9;go_wp2;go_ret;exact ⟨rfl, L9.out, C9.out⟩
             . have hif : (if az R n jj < 0 then cd R n else R) = cd R n := if_pos (by
                have := Hsg.out; rw [hneg] at this; rw [HeN.out]; simpa using this.symm)
               have hlenN : R[n].xs.length <= 4611686018427387903 := by rw [Hcn.out]; omega
               have hmt := uI (S.aB R) n w7 L7.out hnR (fun x hx => by have := hF.out.fit _ (Cu hnR) x hx; omega) hlenN (HT.out.jX R) (HT.out.yN hF.out);have HMt := H5 hmt; clear hmt;go_wp2_with fail
               refine HMt.out.mono ?_;rintro e w8 ⟨rfl, hL8, hC8⟩;have C8 := H5 (C7.out.trans (hC8.mono (fun q _ e => (hO.out q).1 e)));have L8 : Hid (aI w8 (S.aB (cd R n))) := by rw [nf hnR]; exact hL8
               have O8 : Hid (∀ k, (S.aB (cd R n)).own k ↔ S.own k) := fun q => (lH (S.aB R) n q).trans (hO.out q);have N8 : Hid ((cd R n).length = S.R.length) := (fQ ..).trans hRl.out;clear hL8 hC8;have HRF := H5 HF2.out; have HSF := H5 HS2.out;rw [hif] at HRF HSF;clear hif;obtain ⟨RF, hRF⟩ := Cs (bg a n (cd R n));rw [hRF] at HRF HSF;have HRFe := H5 hRF; clear hRF;go_wp2;go_loopw [8] (fun i_ wq => ∃ (i : Nat) (R8 : List Hd), i <= n /\ a <= i /\ i_ = .int .i64 (i : Int) /\ Hid (bg a i R8 = RF) /\ Hid (R8.length = S.R.length) /\ Hid (aI wq (S.aB R8)) /\ Hid (aU S.own w wq) /\ Hid (∀ k, (S.aB R8).own k ↔ S.own k)) (fun i_ _ => (intOf i_).toNat)
               case atStart => exact ⟨n, (cd R n), Ct _, ha2, rfl, HRFe, N8, L8, C8, O8⟩
               case round =>
                obtain ⟨i, R8, hin, hai, rfl, hSw, hR8, hL8, hC8, hO8⟩ := hrel;by_cases hia : a < i
                . obtain ⟨i', rfl⟩ : ∃ i', i = i' + 1 := ⟨i - 1, by omega⟩;have hi8 : i' + 1 < R8.length := by have := hR8.out; have := hRl.out; omega
                  have hi8' : i' < R8.length := by omega
                  have hia1 : (a : Int) < ((i' + 1 : Nat) : Int) := by omega
                  have hcast : ((i' + 1 : Nat) : Int) - 1 = (i' : Int) := by omega
                  have hms := ll (S.aB R8) (i' + 1) i' wr hL8.out hi8 hi8' Cp (HT.out.jX R8);have HMs := H5 hms; clear hms;have hcast2 : ((i' + 1 : Nat) : Int) = (i' : Int) + 1 := by omega
                  rw [hcast2] at hia1 hcast HMs |-;clear hcast2;have hia2 : (a : Int) < (i' : Int) + 1 := hia1;have hcast3 : (i' : Int) + 1 - 1 = (i' : Int) := by omega
                  go_wp2_with fail
                  refine HMs.out.mono ?_;rintro e w9 ⟨rfl, hL9, hC9⟩;have L9 := H5 hL9;have C9 := H5 (hC8.out.trans (hC9.mono (fun q _ e => (hO8.out q).1 e)));clear hL9 hC9;go_wp2;go_roundw
                  case rel =>
                   refine ⟨i', swapT R8 (i' + 1) i', by omega, by omega, by go_num, ?_, H5 ((bJ ..).trans hR8.out), ?_, C9, H5 (fun q => (gh (S.aB R8) (i' + 1) i' q).trans (hO8.out q))⟩
                   . have := hSw.out;unfold bg at this;rw [if_neg Cp] at this;exact this
                   . rw [iy hi8 hi8']; exact L9
                  case measure => simp only [intOf]; omega
                . obtain rfl : i = a := by omega
                  have hR8F : R8 = RF := by
                   have := hSw.out;cases i with
                   | zero => exact this
                   | succ q => unfold bg at this; rw [if_pos (Ct _)] at this; exact this
                  subst hR8F;have hset := iM (S.aB R8) (n + 1) B c R' wr hL8.out (by show n + 1 <= R8.length; have := hR8.out; omega) Cp HRF.out HSF.out (by show R8.length <= 1000000; have := hR8.out; omega) hc HT.out;have HSet := H5 hset; clear hset;have hcn1 : ((n + 1 : Nat) : Int) = (n : Int) + 1 := by omega
                  rw [hcn1] at HSet;clear hcn1;have hgt : ¬ (i : Int) > (i : Int) := by omega
                  go_wp2_with fail
                  refine HSet.out.mono ?_;rintro e w9 ⟨rfl, hL9, hC9⟩;have L9 := H5 hL9;have C9 := H5 (hC8.out.trans (hC9.mono (fun q _ e => (hO8.out q).1 e)));clear hL9 hC9;go_wp2;go_ret;exact ⟨rfl, L9.out, C9.out⟩
     . have hbr : a = n \/ jj < aR R a := by omega
       have Hbr := H5 hbr; clear hbr;have hnlt : ¬ (a : Int) < (n : Int) := by omega
       have hanb : ((a : Int) == (n : Int)) = true := by rw [beq_iff_eq]; omega
       have hstop : res = true /\ Fit B c (bg a n (if az R n jj < 0 then cd R n else R)) /\ iE B c (ep (bg a n (if az R n jj < 0 then cd R n else R)) (n + 1)) (n + 1) (n + 1) (bg a n (if az R n jj < 0 then cd R n else R)) R' := by
        have hPj := hPt.out;have hx := hlt.out;have hd := Hld.out;have hbr := Hbr.out;cases hPj with
        | zero _ h _ => rw [hd] at h; omega
        | stop _ h1 h2 a' ha' hn' hlt' hb' hF2 hs =>
         rw [hd] at hlt' hb' hF2 hs;have haa : a' = a := by
          rcases Dl a' a with h | h | h
          . have := hx a' ha' h; omega
          . exact h
          . have := hlt' a ha1 h; omega
         subst haa;exact ⟨rfl, hF2, hs⟩
        | meet _ h1 h2 a' ha' hn' hlt' hj' hp hF1 hp1 hs =>
         rw [hd] at hlt' hj';rcases Dl a' a with h | h | h
         . have := hx a' ha' h; omega
         . subst h; omega
         . have := hlt' a ha1 h; omega
       obtain ⟨rfl, hF2, hs2⟩ := hstop;have HF2 := H5 hF2; clear hF2;have HS2 := H5 hs2; clear hs2;have hXn := hLq.out.dU.row _ (Cu (l := R) hnR);have hjn : jj < R[n].xs.length := by rw [Hcn.out]; exact hjc
       obtain ⟨pn, cp0, cp1, hpn⟩ := hXn.get hjn;have hx0 : R[n].xs[jj] ≠ 0 := pY Hjj.out hjn;have hsg := hpn.sign hx0;have heN := gE hnR hjn;have HXn := H5 hXn; clear hXn;have Hsg := H5 hsg; clear hsg;have HeN := H5 heN; clear heN;clear hpn hx0;have cb : wr.cell? ⟨S.lb, 0, none⟩ = some (.slice (some ⟨S.o, 0, none⟩) R.length S.cap) := hLq.out.lad.cell 0;have cn : wr.cell? ⟨S.o, n, none⟩ = some (.slice (some ⟨R[n].blk, 0, none⟩) R[n].xs.length R[n].cap) := hLq.out.dU.dA (i := n) hnR;have sb1 := HXn.out.lt;have sb3 : S.lb < wr.heap.size := hLq.out.lad.lt;have sb4 : S.o < wr.heap.size := hLq.out.dU.out.lt;have hjn1 : (jj : Int) < (R[n].xs.length : Int) := by omega
       go_wp2;refine eK ⟨18, fun q_ => [73, 74, 75, 76, 77, 78, 79, 80, 81, 82, 83, 84, 85, 86, 87, 88, 89, 90].getD q_ 0,
        fun q_ => [.val (.pointer (some ⟨S.lb, 0, none⟩)), .val (.pointer (some ⟨S.lb, 0, none⟩)), .val (.pointer (some ⟨S.lb, 0, none⟩)), .val (.slice (some ⟨S.o, 0, none⟩) R.length S.cap), .val (.int .i64 (n : Int)), .val (.pointer (some ⟨S.o, n, none⟩)), .val (.slice (some ⟨R[n].blk, 0, none⟩) R[n].xs.length R[n].cap), .val (.pointer (some ⟨S.lb, 0, none⟩)), .val (.pointer (some ⟨S.lb, 0, none⟩)), .val (.pointer (some ⟨S.lb, 0, none⟩)), .val (.slice (some ⟨S.o, 0, none⟩) R.length S.cap), .val (.int .i64 (n : Int)), .val (.pointer (some ⟨S.o, n, none⟩)), .val (.slice (some ⟨R[n].blk, 0, none⟩) R[n].xs.length R[n].cap), .val (.int .i64 (jj : Int)), .val (.pointer (some ⟨R[n].blk, jj * 2, none⟩)), .val (.pointer (some ⟨R[n].blk, jj * 2, none⟩)), .val (.bool pn.1)].getD q_ .any,
        [],
        [],
        [],
        [], [(⟨S.lb, 0, none⟩, .slice (some ⟨S.o, 0, none⟩) R.length S.cap), (⟨S.o, n, none⟩, .slice (some ⟨R[n].blk, 0, none⟩) R[n].xs.length R[n].cap), (⟨R[n].blk, jj * 2, none⟩, .bool pn.1)], []⟩ [73, 74, 75, 76, 77, 78, 79, 80, 81, 82, 83, 84, 85, 86, 87, 88, 89, 90] (wr.heap.size) (by kernel_rfl) (by kernel_rfl) (by kernel_rfl) (by kernel_rfl) ?_ ?_ ?_ ?_ ?_ ?_
       . intro p hp;cases hp
       . intro p hp;cases hp
       . intro p hp;rcases mc hp with rfl | hp
         . refine ⟨cb, by show S.lb < wr.heap.size; omega, ?_⟩;intro t ht;cases ht
         rcases mc hp with rfl | hp
         . refine ⟨cn, by show S.o < wr.heap.size; omega, ?_⟩;intro t ht;cases ht
         rcases mc hp with rfl | hp
         . refine ⟨cp0, by show R[n].blk < wr.heap.size; omega, ?_⟩;intro t ht;cases ht
         cases hp
       . intro t ht;cases ht
       . refine aj ?_ (aj ?_ (aj ?_ (aj ?_ (aj ?_ (aj ?_ (aj ?_ (aj ?_ (aj ?_ (aj ?_ (aj ?_ (aj ?_ (aj ?_ (aj ?_ (aj ?_ (aj ?_ (aj ?_ (aj ?_ lk)))))))))))))))));any_goals (first | (intro L fx w' hJ hL hp hcl; have _ := tN hp (by decide +kernel); refine aX rfl fun K hK => ?_; go_simp; exact hJ.q hK (by kernel_rfl) rfl) | fail)
         . intro L fx w' hJ hL hp hcl;have e0 := hJ.pt 0 73 (.pointer (some ⟨S.lb, 0, none⟩)) rfl rfl rfl (hp 0 Cr);rw [e0] at hJ |-; clear e0;refine aX rfl fun K hK => ?_;go_simp;exact hJ.q hK (by kernel_rfl) rfl
         . intro L fx w' hJ hL hp hcl;have e1 := hJ.pt 1 74 (.pointer (some ⟨S.lb, 0, none⟩)) rfl rfl rfl (hp 1 Cr);rw [e1] at hJ |-; clear e1;refine aX rfl fun K hK => ?_;go_simp;exact hJ.q hK (by kernel_rfl) rfl
         . intro L fx w' hJ hL hp hcl;have e2 := hJ.pt 2 75 (.pointer (some ⟨S.lb, 0, none⟩)) rfl rfl rfl (hp 2 Cr);rw [e2] at hJ |-; clear e2;refine aX rfl fun K hK => ?_;have cl0 := (hJ.cells _ gM).1;try dsimp only at cl0
           go_simp;exact hJ.q hK (by kernel_rfl) rfl
         . intro L fx w' hJ hL hp hcl;have e3 := hJ.pt 3 76 (.slice (some ⟨S.o, 0, none⟩) R.length S.cap) rfl rfl rfl (hp 3 Cr);rw [e3] at hJ |-; clear e3;have e4 := hJ.pt 4 77 (.int .i64 (n : Int)) rfl rfl rfl (hp 4 Cr);rw [e4] at hJ |-; clear e4;refine aX rfl fun K hK => ?_;go_simp;exact hJ.q hK (by kernel_rfl) rfl
         . intro L fx w' hJ hL hp hcl;have e5 := hJ.pt 5 78 (.pointer (some ⟨S.o, n, none⟩)) rfl rfl rfl (hp 5 Cr);rw [e5] at hJ |-; clear e5;refine aX rfl fun K hK => ?_;have cl0 := (hJ.cells _ jk).1;try dsimp only at cl0
           go_simp;exact hJ.q hK (by kernel_rfl) rfl
         . intro L fx w' hJ hL hp hcl;have e7 := hJ.pt 7 80 (.pointer (some ⟨S.lb, 0, none⟩)) rfl rfl rfl (hp 7 Cr);rw [e7] at hJ |-; clear e7;refine aX rfl fun K hK => ?_;go_simp;exact hJ.q hK (by kernel_rfl) rfl
         . intro L fx w' hJ hL hp hcl;have e8 := hJ.pt 8 81 (.pointer (some ⟨S.lb, 0, none⟩)) rfl rfl rfl (hp 8 Cr);rw [e8] at hJ |-; clear e8;refine aX rfl fun K hK => ?_;go_simp;exact hJ.q hK (by kernel_rfl) rfl
         . intro L fx w' hJ hL hp hcl;have e9 := hJ.pt 9 82 (.pointer (some ⟨S.lb, 0, none⟩)) rfl rfl rfl (hp 9 Cr);rw [e9] at hJ |-; clear e9;refine aX rfl fun K hK => ?_;have cl0 := (hJ.cells _ gM).1;try dsimp only at cl0
           go_simp;exact hJ.q hK (by kernel_rfl) rfl
         . intro L fx w' hJ hL hp hcl;have e10 := hJ.pt 10 83 (.slice (some ⟨S.o, 0, none⟩) R.length S.cap) rfl rfl rfl (hp 10 Cr);rw [e10] at hJ |-; clear e10;have e11 := hJ.pt 11 84 (.int .i64 (n : Int)) rfl rfl rfl (hp 11 Cr);rw [e11] at hJ |-; clear e11;refine aX rfl fun K hK => ?_;go_simp;exact hJ.q hK (by kernel_rfl) rfl
         . intro L fx w' hJ hL hp hcl;have e12 := hJ.pt 12 85 (.pointer (some ⟨S.o, n, none⟩)) rfl rfl rfl (hp 12 Cr);rw [e12] at hJ |-; clear e12;refine aX rfl fun K hK => ?_;have cl0 := (hJ.cells _ jk).1;try dsimp only at cl0
           go_simp;exact hJ.q hK (by kernel_rfl) rfl
         . intro L fx w' hJ hL hp hcl;have e13 := hJ.pt 13 86 (.slice (some ⟨R[n].blk, 0, none⟩) R[n].xs.length R[n].cap) rfl rfl rfl (hp 13 Cr);rw [e13] at hJ |-; clear e13;refine aX rfl fun K hK => ?_;go_simp;go_at_call 44;refine (kI R[n].blk R[n].cap R[n].xs _ (aO.below (w := wr.drew) HXn.out hJ.fr) (fun x hx => by have := hF.out.fit _ (Cu hnR) x hx; omega) (by rw [Hcn.out]; omega)).mono ?_;rintro e w4 ⟨rfl, hb4⟩;try dsimp only
           rw [Hjj.out];exact hK _ _ ⟨_, by kernel_rfl, hJ.gC 14 rfl (by kernel_rfl) hb4 rfl Cp⟩
         . intro L fx w' hJ hL hp hcl;have e6 := hJ.pt 6 79 (.slice (some ⟨R[n].blk, 0, none⟩) R[n].xs.length R[n].cap) rfl rfl rfl (hp 6 Cr);rw [e6] at hJ |-; clear e6;have e14 := hJ.pt 14 87 (.int .i64 (jj : Int)) rfl rfl rfl (hp 14 Cr);rw [e14] at hJ |-; clear e14;refine aX rfl fun K hK => ?_;go_simp;exact hJ.q hK (by kernel_rfl) rfl
         . intro L fx w' hJ hL hp hcl;have e15 := hJ.pt 15 88 (.pointer (some ⟨R[n].blk, jj * 2, none⟩)) rfl rfl rfl (hp 15 Cr);rw [e15] at hJ |-; clear e15;refine aX rfl fun K hK => ?_;go_simp;exact hJ.q hK (by kernel_rfl) rfl
         . intro L fx w' hJ hL hp hcl;have e16 := hJ.pt 16 89 (.pointer (some ⟨R[n].blk, jj * 2, none⟩)) rfl rfl rfl (hp 16 Cr);rw [e16] at hJ |-; clear e16;refine aX rfl fun K hK => ?_;have cl0 := (hJ.cells _ r8).1;try dsimp only at cl0
           go_simp;exact hJ.q hK (by kernel_rfl) rfl
       . intro L' x1 w7 hL hJ;have hfr : Below wr.drew.heap.size wr.drew w7 := hJ.fr;have e17 : x1 90 = .bool pn.1 := hJ.slot 17 (by show 17 < 18; decide) (hL 17 (by show 17 < 18; decide));rw [aH (x := x1) (d := 90) (v := .bool pn.1) e17];clear hJ hL e17 cb cn cp0 cp1;have L7 := H5 (aI.below (w := wr.drew) hLq.out.drew hfr);have C7 := H5 (hCq.out.drew.below hfr);clear hfr;simp only [pN, Nat.reduceEqDiff, ↓reduceIte];cases hneg : pn.1
         . have hif : (if az R n jj < 0 then cd R n else R) = R := if_neg (by
            have := Hsg.out; rw [hneg] at this; rw [HeN.out]; simpa using this.symm)
           have HRF := H5 HF2.out; have HSF := H5 HS2.out;rw [hif] at HRF HSF;clear hif;obtain ⟨RF, hRF⟩ := Cs (bg a n R);rw [hRF] at HRF HSF;have HRFe := H5 hRF; clear hRF;go_wp2;go_loopw [8] (fun i_ wq => ∃ (i : Nat) (R8 : List Hd), i <= n /\ a <= i /\ i_ = .int .i64 (i : Int) /\ Hid (bg a i R8 = RF) /\ Hid (R8.length = S.R.length) /\ Hid (aI wq (S.aB R8)) /\ Hid (aU S.own w wq) /\ Hid (∀ k, (S.aB R8).own k ↔ S.own k)) (fun i_ _ => (intOf i_).toNat)
           case atStart => exact ⟨n, R, Ct _, ha2, rfl, HRFe, hRl, L7, C7, hO⟩
           case round =>
            obtain ⟨i, R8, hin, hai, rfl, hSw, hR8, hL8, hC8, hO8⟩ := hrel;by_cases hia : a < i
            . obtain ⟨i', rfl⟩ : ∃ i', i = i' + 1 := ⟨i - 1, by omega⟩;have hi8 : i' + 1 < R8.length := by have := hR8.out; have := hRl.out; omega
              have hi8' : i' < R8.length := by omega
              have hia1 : (a : Int) < ((i' + 1 : Nat) : Int) := by omega
              have hcast : ((i' + 1 : Nat) : Int) - 1 = (i' : Int) := by omega
              have hms := ll (S.aB R8) (i' + 1) i' wr hL8.out hi8 hi8' Cp (HT.out.jX R8);have HMs := H5 hms; clear hms;have hcast2 : ((i' + 1 : Nat) : Int) = (i' : Int) + 1 := by omega
              rw [hcast2] at hia1 hcast HMs |-;clear hcast2;have hia2 : (a : Int) < (i' : Int) + 1 := hia1;have hcast3 : (i' : Int) + 1 - 1 = (i' : Int) := by omega
              go_wp2_with fail
              refine HMs.out.mono ?_;rintro e w9 ⟨rfl, hL9, hC9⟩;have L9 := H5 hL9;have C9 := H5 (hC8.out.trans (hC9.mono (fun q _ e => (hO8.out q).1 e)));clear hL9 hC9;go_wp2;go_roundw
              case rel =>
               refine ⟨i', swapT R8 (i' + 1) i', by omega, by omega, by go_num, ?_, H5 ((bJ ..).trans hR8.out), ?_, C9, H5 (fun q => (gh (S.aB R8) (i' + 1) i' q).trans (hO8.out q))⟩
               . have := hSw.out;unfold bg at this;rw [if_neg Cp] at this;exact this
               . rw [iy hi8 hi8']; exact L9
              case measure => simp only [intOf]; omega
            . obtain rfl : i = a := by omega
              have hR8F : R8 = RF := by
               have := hSw.out;cases i with
               | zero => exact this
               | succ q => unfold bg at this; rw [if_pos (Ct _)] at this; exact this
              subst hR8F;have hset := iM (S.aB R8) (n + 1) B c R' wr hL8.out (by show n + 1 <= R8.length; have := hR8.out; omega) Cp HRF.out HSF.out (by show R8.length <= 1000000; have := hR8.out; omega) hc HT.out;have HSet := H5 hset; clear hset;have hcn1 : ((n + 1 : Nat) : Int) = (n : Int) + 1 := by omega
              rw [hcn1] at HSet;clear hcn1;have hgt : ¬ (i : Int) > (i : Int) := by omega
              go_wp2_with fail
              refine HSet.out.mono ?_;rintro e w9 ⟨rfl, hL9, hC9⟩;have L9 := H5 hL9;have C9 := H5 (hC8.out.trans (hC9.mono (fun q _ e => (hO8.out q).1 e)));clear hL9 hC9;go_wp2;go_ret;exact ⟨rfl, L9.out, C9.out⟩
         . have hif : (if az R n jj < 0 then cd R n else R) = cd R n := if_pos (by
            have := Hsg.out; rw [hneg] at this; rw [HeN.out]; simpa using this.symm)
           have hlenN : R[n].xs.length <= 4611686018427387903 := by rw [Hcn.out]; omega
           have hmt := uI (S.aB R) n w7 L7.out hnR (fun x hx => by have := hF.out.fit _ (Cu hnR) x hx; omega) hlenN (HT.out.jX R) (HT.out.yN hF.out);have HMt := H5 hmt; clear hmt;go_wp2_with fail
           refine HMt.out.mono ?_;rintro e w8 ⟨rfl, hL8, hC8⟩;have C8 := H5 (C7.out.trans (hC8.mono (fun q _ e => (hO.out q).1 e)));have L8 : Hid (aI w8 (S.aB (cd R n))) := by rw [nf hnR]; exact hL8
           have O8 : Hid (∀ k, (S.aB (cd R n)).own k ↔ S.own k) := fun q => (lH (S.aB R) n q).trans (hO.out q);have N8 : Hid ((cd R n).length = S.R.length) := (fQ ..).trans hRl.out;clear hL8 hC8;have HRF := H5 HF2.out; have HSF := H5 HS2.out;rw [hif] at HRF HSF;clear hif;obtain ⟨RF, hRF⟩ := Cs (bg a n (cd R n));rw [hRF] at HRF HSF;have HRFe := H5 hRF; clear hRF;go_wp2;go_loopw [8] (fun i_ wq => ∃ (i : Nat) (R8 : List Hd), i <= n /\ a <= i /\ i_ = .int .i64 (i : Int) /\ Hid (bg a i R8 = RF) /\ Hid (R8.length = S.R.length) /\ Hid (aI wq (S.aB R8)) /\ Hid (aU S.own w wq) /\ Hid (∀ k, (S.aB R8).own k ↔ S.own k)) (fun i_ _ => (intOf i_).toNat)
           case atStart => exact ⟨n, (cd R n), Ct _, ha2, rfl, HRFe, N8, L8, C8, O8⟩
           case round =>
            obtain ⟨i, R8, hin, hai, rfl, hSw, hR8, hL8, hC8, hO8⟩ := hrel;by_cases hia : a < i
            . obtain ⟨i', rfl⟩ : ∃ i', i = i' + 1 := ⟨i - 1, by omega⟩;have hi8 : i' + 1 < R8.length := by have := hR8.out; have := hRl.out; omega
              have hi8' : i' < R8.length := by omega
              have hia1 : (a : Int) < ((i' + 1 : Nat) : Int) := by omega
              have hcast : ((i' + 1 : Nat) : Int) - 1 = (i' : Int) := by omega
              have hms := ll (S.aB R8) (i' + 1) i' wr hL8.out hi8 hi8' Cp (HT.out.jX R8);have HMs := H5 hms; clear hms;have hcast2 : ((i' + 1 : Nat) : Int) = (i' : Int) + 1 := by omega
              rw [hcast2] at hia1 hcast HMs |-;clear hcast2;have hia2 : (a : Int) < (i' : Int) + 1 := hia1;have hcast3 : (i' : Int) + 1 - 1 = (i' : Int) := by omega
              go_wp2_with fail
              refine HMs.out.mono ?_;rintro e w9 ⟨rfl, hL9, hC9⟩;have L9 := H5 hL9;have C9 := H5 (hC8.out.trans (hC9.mono (fun q _ e => (hO8.out q).1 e)));clear hL9 hC9;go_wp2;go_roundw
              case rel =>
               refine ⟨i', swapT R8 (i' + 1) i', by omega, by omega, by go_num, ?_, H5 ((bJ ..).trans hR8.out), ?_, C9, H5 (fun q => (gh (S.aB R8) (i' + 1) i' q).trans (hO8.out q))⟩
               . have := hSw.out;unfold bg at this;rw [if_neg Cp] at this;exact this
               . rw [iy hi8 hi8']; exact L9
              case measure => simp only [intOf]; omega
            . obtain rfl : i = a := by omega
              have hR8F : R8 = RF := by
               have := hSw.out;cases i with
               | zero => exact this
               | succ q => unfold bg at this; rw [if_pos (Ct _)] at this; exact this
              subst hR8F;have hset := iM (S.aB R8) (n + 1) B c R' wr hL8.out (by show n + 1 <= R8.length; have := hR8.out; omega) Cp HRF.out HSF.out (by show R8.length <= 1000000; have := hR8.out; omega) hc HT.out;have HSet := H5 hset; clear hset;have hcn1 : ((n + 1 : Nat) : Int) = (n : Int) + 1 := by omega
              rw [hcn1] at HSet;clear hcn1;have hgt : ¬ (i : Int) > (i : Int) := by omega
              go_wp2_with fail
              refine HSet.out.mono ?_;rintro e w9 ⟨rfl, hL9, hC9⟩;have L9 := H5 hL9;have C9 := H5 (hC8.out.trans (hC9.mono (fun q _ e => (hO8.out q).1 e)));clear hL9 hC9;go_wp2;go_ret;exact ⟨rfl, L9.out, C9.out⟩
def mO : Nat -> Nat -> List Hd -> List Hd
 | 0, _, R => R
 | k + 1, i, R => mO k (i + 1) (swapT R i (i + 1))
inductive mK (B c : Nat) : Nat -> Nat -> List Hd -> Nat -> List Hd -> Prop
 | fin {d e : Nat} {R : List Hd} (h : e <= d) : mK B c d e R d R
 | ok {d e k : Nat} {R R1 R' : List Hd} (h : d < e) (hp : jV B c d 0 (-1) R true R1) (hs : mK B c (d + 1) e R1 k R') : mK B c d e R k R'
 | zero {d e k : Nat} {R R1 R' : List Hd} (h : d < e) (hp : jV B c d 0 (-1) R false R1) (hs : mK B c d (e - 1) (mO (e - 1 - d) d R1) k R') : mK B c d e R k R'
theorem iE.length {B c : Nat} {ls : List Nat} {n m : Nat} {R R' : List Hd} (h : iE B c ls n m R R') : R'.length = R.length := by
 induction h with
 | done => rfl
 | step h1 _ ih => rw [ih, h1.length]
theorem ig (a : Nat) : ∀ (i : Nat) (R : List Hd), (bg a i R).length = R.length
 | 0, R => rfl
 | i + 1, R => by
  unfold bg; split
  . rfl
  . rw [ig a i, bJ]
theorem jV.length {B c n a : Nat} {l : Int} {R R' : List Hd} {b : Bool} (h : jV B c n a l R b R') : R'.length = R.length := by
 induction h with
 | zero _ _ hs => exact hs.length
 | stop _ _ _ _ _ _ _ _ _ hs =>
  rw [hs.length, ig];split
  . exact fQ ..
  . rfl
 | meet _ _ _ _ _ _ _ _ _ _ _ _ ih => rw [ih, j5]
theorem xK (S : cR) (R : List Hd) (i j : Nat) (x : Int) (q : Nat) : (S.aB (iI R i j x)).own q ↔ (S.aB R).own q := nV (S.aB R) i j x q
theorem wz (S : cR) (R : List Hd) (i q : Nat) : (S.aB (cd R i)).own q ↔ (S.aB R).own q := lH (S.aB R) i q
theorem vM (S : cR) (R : List Hd) (k n j q : Nat) : (S.aB (dR R k n j)).own q ↔ (S.aB R).own q := pL (S.aB R) k n j q
theorem AL {B c i n k : Nat} {ls : List Nat} {R R' : List Hd} (h : u6 B c ls i n k R R') : ∀ (S : cR) (q : Nat), (S.aB R').own q ↔ (S.aB R).own q := by
 induction h with
 | done _ => exact fun _ _ => Iff.rfl
 | step _ _ _ _ _ ih => exact fun S q => (ih S q).trans (xK S _ _ _ _ q)
theorem ss {B c n m : Nat} {ls : List Nat} {R R' : List Hd} (h : iE B c ls n m R R') : ∀ (S : cR) (q : Nat), (S.aB R').own q ↔ (S.aB R).own q := by
 induction h with
 | done => exact fun _ _ => Iff.rfl
 | step h1 _ ih => exact fun S q => (ih S q).trans (AL h1 S q)
theorem nD (a : Nat) : ∀ (i : Nat) (R : List Hd) (S : cR) (q : Nat), (S.aB (bg a i R)).own q ↔ (S.aB R).own q
 | 0, R, S, q => Iff.rfl
 | i + 1, R, S, q => by
  unfold bg; split
  . exact Iff.rfl
  . exact (nD a i _ S q).trans (gh (S.aB R) _ _ q)
theorem xu {B c n a : Nat} {l : Int} {R R' : List Hd} {b : Bool} (h : jV B c n a l R b R') : ∀ (S : cR) (q : Nat), (S.aB R').own q ↔ (S.aB R).own q := by
 induction h with
 | zero _ _ hs => exact ss hs
 | stop _ _ _ _ _ _ _ _ _ hs =>
  refine fun S q => (ss hs S q).trans ((nD _ _ _ S q).trans ?_);split
  . exact wz S _ _ q
  . exact Iff.rfl
 | meet _ _ _ _ _ _ _ _ _ _ _ _ ih => exact fun S q => (ih S q).trans (vM S _ _ _ _ q)
theorem xN (S : cR) (B c k : Nat) (R' : List Hd) (w : World) (h : aI w S) (hB : B <= 4000000000000) (hP : mK B c 0 S.R.length S.R k R') (hR : S.R.length <= 100000) (hc : c <= 1000000) (hT : S.sat B c) :
 Calls Tryz.prog 78 #[.pointer (some ⟨S.lb, 0, none⟩)] w fun e w' => e = .returned (.int .i64 (k : Int)) /\ aI w' (S.aB R') /\ aU S.own w w' := by
 have HT := H5 hT; clear hT;have cb : w.cell? ⟨S.lb, 0, none⟩ = some (.slice (some ⟨S.o, 0, none⟩) S.R.length S.cap) := h.lad.cell 0;have HL := H5 h; clear h;have HP := H5 hP; clear hP;go_enter Tryz.func78, Tryz.ntmps78;go_wp2
 go_region_held3 (fun w' => w'.cell? ⟨S.lb, 0, none⟩ = some (.slice (some ⟨S.o, 0, none⟩) S.R.length S.cap)) (first | exact cb) (fail)
 go_wp2;have HL1 := H5 HL.out.drew;have HC1 := H5 (aU.refl S.own w).drew;clear cb;go_loopw [3, 4] (fun d_ e_ wr => ∃ (d e : Nat) (R : List Hd), d <= e /\ e <= S.R.length /\ d_ = .int .i64 (d : Int) /\ e_ = .int .i64 (e : Int) /\ Hid (mK B c d e R k R') /\ Hid (R.length = S.R.length) /\ Hid (aI wr (S.aB R)) /\ Hid (aU S.own w wr) /\ Hid (∀ q, (S.aB R).own q ↔ S.own q)) (fun d_ e_ _ => (intOf e_ - intOf d_).toNat)
 case atStart => exact ⟨0, S.R.length, S.R, Cx _, Ct _, rfl, rfl, HP, rfl, HL1, HC1, fun _ => Iff.rfl⟩
 case round =>
  obtain ⟨d, e, R, hde, heR, rfl, rfl, hRed, hRl, hL, hC, hO⟩ := hrel;by_cases hd : d < e
  . have hd1 : (d : Int) < (e : Int) := by omega
    have hdR : d < R.length := by have := hRl.out; omega
    have hcase : ∃ b R1, jV B c d 0 (-1) R b R1 /\ (b = true -> mK B c (d + 1) e R1 k R') /\ (b = false -> mK B c d (e - 1) (mO (e - 1 - d) d R1) k R') := by
     cases hRed.out with
     | fin h => omega
     | ok _ hp hs => exact ⟨true, _, hp, fun _ => hs, fun h => by cases h⟩
     | zero _ hp hs => exact ⟨false, _, hp, fun h => (by cases h), fun _ => hs⟩
    obtain ⟨b, R1, hp, hs1, hs2⟩ := hcase;have hput := Put_c (S.aB R) d B c b R1 wr hL.out hdR hB hp (by show R.length <= 100000; have := hRl.out; omega) hc HT.out;have HPut := H5 hput;have HR1 := H5 (hp.length.trans hRl.out);have HO1 := H5 (fun q => (xu hp S q).trans (hO.out q));have HS1 := H5 hs1;have HS2 := H5 hs2;clear hput hp hs1 hs2 hRed;go_wp2_with fail
    refine HPut.out.mono ?_;rintro e' w2 ⟨rfl, hL2, hC2⟩;have L2 := H5 hL2;have C2 := H5 (hC.out.trans (hC2.mono (fun q _ e => (hO.out q).1 e)));clear hL2 hC2 hL hC;cases b
    . have HSF := H5 (HS2.out rfl);have hec : ((e - 1 : Nat) : Int) = (e : Int) - 1 := by omega
      have Hec := H5 hec; clear hec;go_wp2;go_loopw [5] (fun i_ wq => ∃ (i : Nat) (R2 : List Hd), d <= i /\ i <= e - 1 /\ i_ = .int .i64 (i : Int) /\ Hid (mO (e - 1 - i) i R2 = mO (e - 1 - d) d R1) /\ Hid (R2.length = S.R.length) /\ Hid (aI wq (S.aB R2)) /\ Hid (aU S.own w wq) /\ Hid (∀ q, (S.aB R2).own q ↔ S.own q)) (fun i_ _ => ((e : Int) - intOf i_).toNat)
      case atStart => exact ⟨d, R1, Ct _, by omega, rfl, rfl, HR1, L2, C2, HO1⟩
      case round =>
       obtain ⟨i, R2, hdi, hie, rfl, hRot, hR2, hL2, hC2, hO2⟩ := hrel;by_cases hi : i < e - 1
       . have hi1 : (i : Int) < (e : Int) - 1 := by omega
         have hiR : i < R2.length := by have := hR2.out; omega
         have hiR1 : i + 1 < R2.length := by have := hR2.out; omega
         have hms := ll (S.aB R2) i (i + 1) wr hL2.out hiR hiR1 Cp (HT.out.jX R2);have hcast : ((i + 1 : Nat) : Int) = (i : Int) + 1 := by omega
         rw [hcast] at hms;have HMs := H5 hms; clear hms hcast;go_wp2_with fail
         refine HMs.out.mono ?_;rintro e'' w9 ⟨rfl, hL9, hC9⟩;have L9 := H5 hL9;have C9 := H5 (hC2.out.trans (hC9.mono (fun q _ e => (hO2.out q).1 e)));clear hL9 hC9;go_wp2;go_roundw
         case rel =>
          refine ⟨i + 1, swapT R2 i (i + 1), by omega, by omega, by go_num, ?_, H5 ((bJ ..).trans hR2.out), ?_, C9, H5 (fun q => (gh (S.aB R2) i (i + 1) q).trans (hO2.out q))⟩
          . have h2 := hRot.out;have h3 : e - 1 - i = (e - 1 - (i + 1)) + 1 := by omega
            rw [h3] at h2;exact h2
          . rw [iy hiR hiR1]; exact L9
         case measure => simp only [intOf]; omega
       . have hi1 : ¬ (i : Int) < (e : Int) - 1 := by omega
         have hie2 : e - 1 - i = 0 := by omega
         have hfin : R2 = mO (e - 1 - d) d R1 := by
          have h2 := hRot.out;rw [hie2] at h2;exact h2
         have HFin := H5 hfin; clear hfin hie2;go_wp2;go_roundw
         case rel =>
          refine ⟨d, e - 1, R2, by omega, by omega, by go_num, by go_num, ?_, hR2, hL2, hC2, hO2⟩;rw [HFin.out];exact HSF
         case measure => simp only [intOf]; omega
    . have HSF := H5 (HS1.out rfl);go_wp2;go_roundw
      case rel => exact ⟨d + 1, e, R1, by omega, by omega, by go_num, by go_num, HSF, HR1, L2, C2, HO1⟩
      case measure => simp only [intOf]; omega
  . have hd1 : ¬ (d : Int) < (e : Int) := by omega
    have hfin : d = k /\ R = R' := by
     cases hRed.out with
     | fin h => exact ⟨rfl, rfl⟩
     | ok h _ _ => omega
     | zero h _ _ => omega
    have HFin := H5 hfin; clear hfin;go_wp2;go_ret;rw [<- HFin.out.1, <- HFin.out.2];exact ⟨rfl, hL.out, hC.out⟩
end Go.Proofs.YtjjlmfmoihooiaaGreat
namespace Go.Proofs.YtjjlmfmoihooiaaGreat
def Sh (c : Nat) (R : List Hd) : Prop := ∀ h ∈ R, h.xs.length = c
theorem cJ {R : List Hd} {i : Nat} (hi : i < R.length) (j : Nat) : az R i j = R[i].xs.getD j 0 := by
 unfold az; simp [hi]
theorem eY {R : List Hd} {i : Nat} (hi : R.length <= i) (j : Nat) : az R i j = 0 := by
 unfold az; rw [List.getElem?_eq_none hi]; rfl
theorem Sh.get {c : Nat} {R : List Hd} (h : Sh c R) {i : Nat} (hi : i < R.length) : R[i].xs.length = c := h _ (Cu hi)
theorem Sh.wide {c : Nat} {R : List Hd} (h : Sh c R) (i : Nat) {j : Nat} (hj : c <= j) : az R i j = 0 := by
 by_cases hi : i < R.length
 . rw [cJ hi, fI _ _ (by rw [h.get hi]; exact hj)]
 . exact eY Cp j
theorem Sh.qA {c : Nat} {R : List Hd} (h : Sh c R) (i : Nat) {xs : List Int} (hx : xs.length = c) : Sh c (dI R i xs) := by
 intro r hr;obtain ⟨j, hj, rfl⟩ := Dh hr;rw [aE] at hj;rw [dK hj];split
 . exact hx
 . exact h.get hj
theorem jM {R : List Hd} {i : Nat} (hi : i < R.length) (xs : List Int) (a b : Nat) : az (dI R i xs) a b = if a = i then xs.getD b 0 else az R a b := by
 by_cases ha : a < R.length
 . rw [cJ (by rw [aE]; exact ha), dK ha];by_cases e : i = a
   . subst e; simp
   . rw [if_neg e, if_neg (fun h => e h.symm), cJ ha]
 . rw [eY (by rw [aE]; omega), if_neg Cp, eY Cp]
theorem iO {f : Int -> Int -> Int} (hf : f 0 0 = 0) {xs ys : List Int} (h : xs.length = ys.length) (b : Nat) : (List.zipWith f xs ys).getD b 0 = f (xs.getD b 0) (ys.getD b 0) := by
 by_cases hb : b < xs.length
 . have hb2 : b < ys.length := by omega
   have hb3 : b < (List.zipWith f xs ys).length := by simp; omega
   rw [ix _ _ hb3, ix _ _ hb, ix _ _ hb2, List.getElem_zipWith]
 . rw [fI _ _ (by simp; omega), fI _ _ Cp, fI _ _ Cp, hf]
theorem ni {c : Nat} {R : List Hd} (hs : Sh c R) {i j : Nat} (hi : i < R.length) (hj : j < R.length) (k : Int) (a b : Nat) : az (iI R i j k) a b = if a = i then k * az R j b + az R i b else az R a b := by
 rw [n7 hi hj]; unfold ji;rw [jM hi];unfold fO;rw [iO Cq (by rw [hs.get hi, hs.get hj]), <- cJ hi, <- cJ hj]
theorem Sh.vp {c : Nat} {R : List Hd} (hs : Sh c R) (i j : Nat) (k : Int) : Sh c (iI R i j k) := by
 unfold iI;split
 . rename_i h;unfold ji;exact hs.qA i (by unfold fO; rw [List.length_zipWith, hs.get h.1, hs.get h.2]; omega)
 . exact hs
theorem lC (R : List Hd) (i j : Nat) (k : Int) : (iI R i j k).map Hd.blk = R.map Hd.blk := by
 unfold iI; split
 . exact fv ..
 . rfl
theorem yu {c : Nat} {R : List Hd} (hs : Sh c R) {i j : Nat} (hi : i < R.length) (hj : j < R.length) (hij : i ≠ j) (p q r s : Int) (a b : Nat) : az (l5 R i j p q r s) a b = if a = i then p * az R i b + q * az R j b else if a = j then r * az R i b + s * az R j b else az R a b := by
 rw [uZ hi hj]; unfold kF;rw [jM (by rw [aE]; exact hj), jM hi];have hl : R[i].xs.length = R[j].xs.length := by rw [hs.get hi, hs.get hj]
 unfold gL;rw [iO Cq hl, iO Cq hl, <- cJ hi, <- cJ hj];by_cases e : a = i
 . subst e; rw [if_neg hij, if_pos rfl, if_pos rfl]
 . rw [if_neg e, if_neg e]
theorem Sh.mixT_ {c : Nat} {R : List Hd} (hs : Sh c R) (i j : Nat) (p q r s : Int) : Sh c (l5 R i j p q r s) := by
 unfold l5;split
 . rename_i h;unfold kF;refine (hs.qA i ?_).qA j ?_ <;> (unfold gL; rw [List.length_zipWith, hs.get h.1, hs.get h.2]; omega)
 . exact hs
theorem xV (R : List Hd) (i j : Nat) (p q r s : Int) : (l5 R i j p q r s).map Hd.blk = R.map Hd.blk := by
 unfold l5; split
 . unfold kF; rw [fv, fv]
 . rfl
theorem pQ {R : List Hd} {i : Nat} (hi : i < R.length) (a b : Nat) : az (cd R i) a b = if a = i then - az R i b else az R a b := by
 rw [nf hi]; unfold iG;rw [jM hi, cJ hi];split
 . unfold kH;by_cases hb : b < R[i].xs.length
   . rw [ix _ _ (by simpa using hb), ix _ _ hb]; simp
   . rw [fI _ _ (by simp; omega), fI _ _ Cp]; rfl
 . rfl
theorem Sh.Ce {c : Nat} {R : List Hd} (hs : Sh c R) (i : Nat) : Sh c (cd R i) := by
 unfold cd;split
 . rename_i h;unfold iG;exact hs.qA i (by simp [kH, hs.get h])
 . exact hs
theorem wC {R : List Hd} {i j m : Nat} (hi : i < R.length) (hj : j < R.length) (hm : m < R.length) : (swapT R i j)[m]'(by rw [bJ]; exact hm) = R[swp i j m]'(lK hi hj hm) := by
 have := fy hi hj hm;rw [<- this]; congr 1; exact iy hi hj
theorem pI {R : List Hd} {i j : Nat} (hi : i < R.length) (hj : j < R.length) (a b : Nat) : az (swapT R i j) a b = az R (swp i j a) b := by
 by_cases ha : a < R.length
 . rw [cJ (by rw [bJ]; exact ha), wC hi hj ha, cJ]
 . rw [eY (by rw [bJ]; omega), eY];unfold swp; split
   . omega
   . split <;> omega
theorem Sh.yI {c : Nat} {R : List Hd} (hs : Sh c R) (i j : Nat) : Sh c (swapT R i j) := by
 unfold swapT;split
 . rename_i h;intro r hr;obtain ⟨m, hm, rfl⟩ := Dh hr;rw [cf] at hm;rw [fy h.1 h.2 hm];exact hs.get _
 . exact hs
theorem nZ {R : List Hd} {i : Nat} (hi : i < R.length) {c : Nat} (hs : Sh c R) : (aR R i <= c) /\ (∀ b, b < aR R i -> az R i b = 0) /\ (aR R i < c -> az R i (aR R i) ≠ 0) := by
 rw [gg hi];have key : ∀ xs : List Int, (∀ b, b < lead xs -> xs.getD b 0 = 0) /\ (lead xs < xs.length -> xs.getD (lead xs) 0 ≠ 0) := by
  intro xs;induction xs with
  | nil => exact ⟨fun b _ => by simp, fun h => by simp at h⟩
  | cons x xs ih =>
   unfold lead;by_cases hx : x = 0
   . rw [if_pos hx];refine ⟨fun b hb => ?_, fun h => ?_⟩
     . cases b with
       | zero => simpa using hx
       | succ b => rw [List.getD_cons_succ]; exact ih.1 b Cp
     . rw [List.getD_cons_succ]; exact ih.2 (by simpa using h)
   . rw [if_neg hx];exact ⟨fun b hb => by omega, fun _ => by simpa using hx⟩
 have hl := hs.get hi;have h1 := key R[i].xs;refine ⟨hl ▸ qv _, fun b hb => ?_, fun h => ?_⟩
 . rw [cJ hi]; exact h1.1 b hb
 . rw [cJ hi]; exact h1.2 Cp
theorem pH {R : List Hd} {i : Nat} (hi : i < R.length) {c : Nat} (hs : Sh c R) {j : Nat} (h0 : ∀ b, b < j -> az R i b = 0) (hj : az R i j ≠ 0) : aR R i = j := by
 have h1 := nZ hi hs;have hjc : j < c := by
  by_cases h : j < c
  . exact h
  . exact absurd (hs.wide i Cp) hj
 rcases Dl (aR R i) j with h | h | h
 . exact absurd (h0 _ h) (h1.2.2 Cp)
 . exact h
 . exact absurd (h1.2.1 _ h) hj
theorem Fit.of {B c : Nat} {R : List Hd} (hs : Sh c R) (h : ∀ a b, (az R a b).natAbs < W ^ B) : Fit B c R := by
 refine ⟨hs, fun r hr x hx => ?_⟩;obtain ⟨i, hi, rfl⟩ := Dh hr;obtain ⟨j, hj, rfl⟩ := Dh hx;have := h i j;rw [cJ hi, ix _ _ hj] at this;exact an this
/-! Bounds by powers of the base. -/
theorem xG {u v : Nat} (h : u <= v) : W ^ u <= W ^ v := CU bw h
theorem jv {n u v : Nat} (h : n < W ^ u) (k : u <= v) : n < W ^ v := CK h (xG k)
theorem il (u : Nat) : 0 < W ^ u := DF bw
theorem pE {k y x u d : Nat} (hk : k < W ^ u) (hy : y < W ^ d) (hx : x < W ^ u) : k * y + x < W ^ (u + d) := by
 have h1 : (k + 1) * W ^ d <= W ^ u * W ^ d := Cy _ hk;have h2 : k * (y + 1) <= k * W ^ d := CD _ hy;rw [DR];rw [Dz] at h1;rw [CA, Ee] at h2;have h3 : W ^ u <= W ^ u * W ^ d := by have := CD (W ^ u) (il d); omega
 by_cases hk0 : k = 0
 . subst hk0; omega
 . have h4 : k * y + k <= k * W ^ d := h2;have h5 : (W ^ u - 1) * y + (W ^ u - 1) <= (W ^ u - 1) * W ^ d := by
    have := CD (W ^ u - 1) hy;rw [Nat.mul_succ] at this; exact this
   have h6 : k * y <= (W ^ u - 1) * y := Cy _ Cp;have h7 : (W ^ u - 1) * W ^ d < W ^ u * W ^ d := EA (by have := il u; omega) (il d);omega
theorem jZ (k y x : Int) : (k * y + x).natAbs <= k.natAbs * y.natAbs + x.natAbs := by
 have := Int.natAbs_add_le (k * y) x
 rwa [CP] at this
theorem vt {x y : Int} (hy : 0 < y) : (x.fdiv y).natAbs <= x.natAbs := by
 rw [Int.fdiv_eq_ediv_of_nonneg _ (D1 hy)];exact EG x y
theorem sq {x y : Int} (hy : 0 < y) : 0 <= x.fmod y /\ x.fmod y < y := by
 rw [Int.fmod_eq_emod_of_nonneg _ (D1 hy)];exact ⟨DO _ Cp, EY _ hy⟩
theorem oX {x y : Int} (hy : 0 < y) : -(x.fdiv y) * y + x = x.fmod y := by
 rw [Int.fdiv_eq_ediv_of_nonneg _ (D1 hy), Int.fmod_eq_emod_of_nonneg _ (D1 hy), Int.emod_def, Dc y, Du]; omega
/-! settle. -/
def ky (ls : List Nat) (i : Nat) : Nat -> Nat -> List Hd -> List Hd
 | 0, _, R => R
 | f + 1, k, R => ky ls i f (k + 1) (iI R i k (-((az R i (ls.getD k 0)).fdiv (az R k (ls.getD k 0)))))
def uY (ls : List Nat) (n : Nat) : Nat -> List Hd -> List Hd
 | 0, R => R
 | m + 1, R => uY ls n m (ky ls m (n - (m + 1)) (m + 1) R)
theorem bc.add {n : Nat} {E F : Nat -> Nat -> Int} {i k : Nat} (hi : i < n) (hk : k < n) (hik : i ≠ k) (q : Int) (h : ∀ a b, F a b = if a = i then q * E k b + E i b else E a b) : bc n E n F := by
 refine ⟨fun a ha => ?_, fun a ha => ?_⟩
 . by_cases e : a = i
   . subst e;refine ((Sp.row F ha).add ((Sp.row F hk).smul (-q))).congr (fun j => ?_);rw [h a j, if_pos rfl, h k j, if_neg (fun e => hik e.symm), Du]; omega
   . exact (Sp.row F ha).congr (fun j => by rw [h, if_neg e])
 . by_cases e : a = i
   . subst e;refine (((Sp.row E hk).smul q).add (Sp.row E ha)).congr (fun j => ?_);rw [h, if_pos rfl]
   . exact (Sp.row E ha).congr (fun j => by rw [h, if_neg e])
structure yr (n c i k : Nat) (l : Nat -> Nat) (R R' : List Hd) : Prop where
 same : ∀ a, a ≠ i -> ∀ b, az R' a b = az R a b
 low : ∀ b, (∀ m, k <= m -> m < n -> b < l m) -> az R' i b = az R i b
 red : ∀ m, k <= m -> m < n -> 0 <= az R' i (l m) /\ az R' i (l m) < az R m (l m)
 sh : Sh c R'
 len : R'.length = R.length
 blk : R'.map Hd.blk = R.map Hd.blk
 sp : bc n (az R) n (az R')
theorem Ech.add {n c : Nat} {E F : Nat -> Nat -> Int} {l : Nat -> Nat} (h : Ech n c E l) {i k : Nat} (hik : i < k) (hk : k < n) (q : Int) (e : ∀ a b, F a b = if a = i then q * E k b + E i b else E a b) : Ech n c F l := by
 refine ⟨h.inc, h.lt, fun a ha j hj => ?_, fun a ha => ?_⟩
 . rw [e]; split
   . rename_i e'; subst e';rw [h.zero k hk j (by have := h.inc a k hik hk; omega), h.zero a ha j hj]; simp
   . exact h.zero a ha j hj
 . rw [e]; split
   . rename_i e'; subst e';rw [h.zero k hk _ (h.inc a k hik hk)]; have := h.pos a ha; simpa using this
   . exact h.pos a ha
theorem qo {n c i : Nat} {l : Nat -> Nat} {ls : List Nat} (hls : ∀ k, k < n -> ls.getD k 0 = l k) : ∀ (f k : Nat) (R : List Hd), k + f = n -> i < k -> Sh c R -> n <= R.length -> Ech n c (az R) l -> yr n c i k l R (ky ls i f k R)
 | 0, k, R, hf, hik, hs, hn, hE => ⟨fun _ _ _ => rfl, fun _ _ => rfl, fun m h1 h2 => by omega, hs, rfl, rfl, bc.refl _ _⟩
 | f + 1, k, R, hf, hik, hs, hn, hE => by
  have hk : k < n := by omega
  have he := fun (a b : Nat) => ni hs (i := i) (j := k) Cp Cp (-((az R i (ls.getD k 0)).fdiv (az R k (ls.getD k 0)))) a b;have ih := qo (i := i) hls f (k + 1) (iI R i k (-((az R i (ls.getD k 0)).fdiv (az R k (ls.getD k 0))))) Cp Cp (hs.vp i k _) (by rw [dq]; exact hn) (hE.add hik hk _ he);rw [hls k hk] at he;have hp := hE.pos k hk;refine ⟨fun a ha b => ?_, fun b hb => ?_, fun m hm hmn => ?_, ih.sh, ih.len.trans (dq ..), ih.blk.trans (lC ..), (bc.add Cp hk Cp _ he).trans (by rw [<- hls k hk]; exact ih.sp)⟩
  . show az (ky ls i f (k + 1) _) a b = _;rw [ih.same a ha b, hls k hk, he, if_neg ha]
  . show az (ky ls i f (k + 1) _) i b = _;rw [ih.low b (fun m h1 h2 => hb m Cp h2), hls k hk, he, if_pos rfl, hE.zero k hk b (hb k (Ct _) hk)]; omega
  . by_cases e : m = k
    . subst e;show 0 <= az (ky ls i f (m + 1) _) i (l m) /\ az (ky ls i f (m + 1) _) i (l m) < _;rw [ih.low (l m) (fun q h1 h2 => hE.inc m q Cp h2), hls m hk, he, if_pos rfl, oX hp];exact sq hp
    . have h1 := ih.red m Cp hmn;rw [hls k hk, he m, if_neg Cp] at h1;show 0 <= az (ky ls i f (k + 1) _) i (l m) /\ az (ky ls i f (k + 1) _) i (l m) < _;rw [hls k hk];exact h1
theorem Ech.congr {n c : Nat} {E F : Nat -> Nat -> Int} {l : Nat -> Nat} (h : Ech n c E l) (e : ∀ a, a < n -> ∀ b, F a b = E a b) : Ech n c F l :=
 ⟨h.inc, h.lt, fun a ha j hj => (e a ha j).trans (h.zero a ha j hj), fun a ha => by rw [e a ha]; exact h.pos a ha⟩
theorem yr.tb {n c i k : Nat} {l : Nat -> Nat} {R R' : List Hd} (h : yr n c i k l R R') (hE : Ech n c (az R) l) (hik : i < k) (hin : i < n) : Ech n c (az R') l := by
 have hlow : ∀ b, b <= l i -> az R' i b = az R i b := fun b hb => h.low b (fun m h1 h2 => by have := hE.inc i m Cp h2; omega);refine ⟨hE.inc, hE.lt, fun a ha j hj => ?_, fun a ha => ?_⟩
 . by_cases e : a = i
   . subst e; rw [hlow j Cp]; exact hE.zero a ha j hj
   . rw [h.same a e]; exact hE.zero a ha j hj
 . by_cases e : a = i
   . subst e; rw [hlow _ (Ct _)]; exact hE.pos a ha
   . rw [h.same a e]; exact hE.pos a ha
structure yc (n c m : Nat) (l : Nat -> Nat) (R R' : List Hd) : Prop where
 same : ∀ a, m <= a -> ∀ b, az R' a b = az R a b
 herm : eo n c (az R') l
 sh : Sh c R'
 len : R'.length = R.length
 blk : R'.map Hd.blk = R.map Hd.blk
 sp : bc n (az R) n (az R')
theorem kZ {n c : Nat} {l : Nat -> Nat} {ls : List Nat} (hls : ∀ k, k < n -> ls.getD k 0 = l k) : ∀ (m : Nat) (R : List Hd), m <= n -> Sh c R -> n <= R.length -> Ech n c (az R) l -> (∀ i k, m <= i -> i < k -> k < n -> 0 <= az R i (l k) /\ az R i (l k) < az R k (l k)) -> yc n c m l R (uY ls n m R)
 | 0, R, hm, hs, hn, hE, hr => ⟨fun _ _ _ => rfl, ⟨hE, fun i k => hr i k (Cx _)⟩, hs, rfl, rfl, bc.refl _ _⟩
 | m + 1, R, hm, hs, hn, hE, hr => by
  have h1 := qo (i := m) hls (n - (m + 1)) (m + 1) R Cp Cp hs hn hE;have h2 := kZ hls m (ky ls m (n - (m + 1)) (m + 1) R) Cp h1.sh (by rw [h1.len]; exact hn) (h1.tb hE Cp Cp) (fun i k hi hik hk => by
   by_cases e : i = m
   . subst e;rw [h1.same k Cp];exact h1.red k Cp hk
   . rw [h1.same i e, h1.same k Cp];exact hr i k Cp hik hk)
  exact ⟨fun a ha b => (h2.same a Cp b).trans (h1.same a Cp b), h2.herm, h2.sh, h2.len.trans h1.len, h2.blk.trans h1.blk, h1.sp.trans h2.sp⟩
theorem yJ {n c i B δ : Nat} {l : Nat -> Nat} {ls : List Nat} (hls : ∀ k, k < n -> ls.getD k 0 = l k) : ∀ (f k u : Nat) (R : List Hd), k + f = n -> i < k -> Sh c R -> n <= R.length -> Ech n c (az R) l ->
 (∀ a b, (az R a b).natAbs < W ^ B) -> (∀ b, (az R i b).natAbs < W ^ u) -> (∀ a, k <= a -> a < n -> ∀ b, (az R a b).natAbs < W ^ δ) -> u + f * δ <= B -> u6 B c ls i n k R (ky ls i f k R)
 | 0, k, u, R, hf, hik, hs, hn, hE, hB, hu, hd, hb => .done Cp
 | f + 1, k, u, R, hf, hik, hs, hn, hE, hB, hu, hd, hb => by
  have hk : k < n := by omega
  have he := fun (a b : Nat) => ni hs (i := i) (j := k) Cp Cp (-((az R i (ls.getD k 0)).fdiv (az R k (ls.getD k 0)))) a b;have hp := hE.pos k hk;have hq : ((az R i (ls.getD k 0)).fdiv (az R k (ls.getD k 0))).natAbs < W ^ u := by
   rw [hls k hk];exact CT (vt hp) (hu _)
  have hrow : ∀ b, (az (iI R i k (-((az R i (ls.getD k 0)).fdiv (az R k (ls.getD k 0))))) i b).natAbs < W ^ (u + δ) := by
   intro b;rw [he, if_pos rfl];refine CT (jZ _ _ _) ?_;rw [DK];exact pE hq (hd k (Ct _) hk b) (hu b)
  have e1 : (f + 1) * δ = f * δ + δ := Dz ..;refine .step hk (Fit.of hs hB) (by rw [hls k hk]; exact hE.lt k hk) (by rw [hls k hk]; omega) ?_;refine yJ (δ := δ) hls f (k + 1) (u + δ) _ Cp Cp (hs.vp i k _) (by rw [dq]; exact hn) (hE.add hik hk _ he) (fun a b => ?_) hrow (fun a h1 h2 b => ?_) Cp
  . by_cases e : a = i
    . subst e; exact jv (hrow b) Cp
    . rw [he, if_neg e]; exact hB a b
  . rw [he, if_neg Cp]; exact hd a Cp h2 b
theorem v7 {n c B δ u : Nat} {l : Nat -> Nat} {ls : List Nat} (hls : ∀ k, k < n -> ls.getD k 0 = l k) (hb : u + n * δ <= B) : ∀ (m : Nat) (R : List Hd), m <= n -> Sh c R -> n <= R.length -> Ech n c (az R) l -> (∀ i k, m <= i -> i < k -> k < n -> 0 <= az R i (l k) /\ az R i (l k) < az R k (l k)) ->
 (∀ a b, (az R a b).natAbs < W ^ B) -> (∀ a, a < m -> ∀ b, (az R a b).natAbs < W ^ u) -> (∀ a, a < n -> ∀ b, (az (uY ls n m R) a b).natAbs < W ^ δ) -> iE B c ls n m R (uY ls n m R)
 | 0, R, hm, hs, hn, hE, hr, hB, hu, hd => .done
 | m + 1, R, hm, hs, hn, hE, hr, hB, hu, hd => by
  have hout := kZ hls (m + 1) R hm hs hn hE hr;have h1 := qo (i := m) hls (n - (m + 1)) (m + 1) R Cp Cp hs hn hE;have hr1 : ∀ i k, m <= i -> i < k -> k < n -> 0 <= az (ky ls m (n - (m + 1)) (m + 1) R) i (l k) /\ az (ky ls m (n - (m + 1)) (m + 1) R) i (l k) < az (ky ls m (n - (m + 1)) (m + 1) R) k (l k) := fun i k hi hik hk => by
   by_cases e : i = m
   . subst e;rw [h1.same k Cp];exact h1.red k Cp hk
   . rw [h1.same i e, h1.same k Cp];exact hr i k Cp hik hk
  have h2 := kZ hls m (ky ls m (n - (m + 1)) (m + 1) R) Cp h1.sh (by rw [h1.len]; exact hn) (h1.tb hE Cp Cp) hr1;have hmul : (n - (m + 1)) * δ <= n * δ := Cy _ Cp;have hδ : δ <= n * δ := by have := Cy δ (show 1 <= n by omega); omega
  refine .step (yJ (δ := δ) hls (n - (m + 1)) (m + 1) u R Cp Cp hs hn hE hB (fun b => hu m Cp b) (fun a h3 h4 b => ?_) Cp) ?_
  . rw [<- hout.same a h3 b]; exact hd a h4 b
  . refine v7 hls hb m _ Cp h1.sh (by rw [h1.len]; exact hn) (h1.tb hE Cp Cp) hr1 (fun a b => ?_) (fun a ha b => ?_) hd
    . by_cases e : a = m
      . subst e;rw [<- h2.same a (Ct _) b];exact jv (hd a Cp b) Cp
      . rw [h1.same a e]; exact hB a b
    . rw [h1.same a Cp]; exact hu a Cp b
/-! meet. -/
theorem BK (a b : Int) (hb : b ≠ 0) : a * eu a b + b * fP a b = bT a b := by
 have h := j9 a b;unfold eU at h;rw [if_neg hb] at h;exact h.2.2.2
theorem bc.two {N : Nat} {E F : Nat -> Nat -> Int} {k n : Nat} (hk : k < N) (hn : n < N) (hkn : k ≠ n) (hs : ∀ a, a ≠ k -> a ≠ n -> ∀ b, F a b = E a b)
 {x y z t x' y' z' t' : Int} (h1 : ∀ b, F k b = x * E k b + y * E n b) (h2 : ∀ b, F n b = z * E k b + t * E n b) (h3 : ∀ b, E k b = x' * F k b + y' * F n b) (h4 : ∀ b, E n b = z' * F k b + t' * F n b) : bc N E N F := by
 refine ⟨fun a ha => ?_, fun a ha => ?_⟩
 . by_cases e : a = k
   . subst e; exact (((Sp.row F hk).smul x').add ((Sp.row F hn).smul y')).congr h3
   . by_cases e' : a = n
     . subst e'; exact (((Sp.row F hk).smul z').add ((Sp.row F hn).smul t')).congr h4
     . exact (Sp.row F ha).congr (fun j => (hs a e e' j).symm)
 . by_cases e : a = k
   . subst e; exact (((Sp.row E hk).smul x).add ((Sp.row E hn).smul y)).congr h1
   . by_cases e' : a = n
     . subst e'; exact (((Sp.row E hk).smul z).add ((Sp.row E hn).smul t)).congr h2
     . exact (Sp.row E ha).congr (fun j => hs a e e' j)
structure Cf (c k n j δ u : Nat) (R R' : List Hd) : Prop where
 same : ∀ a, a ≠ k -> a ≠ n -> ∀ b, az R' a b = az R a b
 low : ∀ b, b < j -> az R' k b = 0
 piv : 0 < az R' k j
 gone : ∀ b, b <= j -> az R' n b = 0
 comb : ∃ t s : Int, t ≠ 0 /\ ∀ b, az R' n b = t * az R n b + s * az R k b
 sp : ∀ N, k < N -> n < N -> bc N (az R) N (az R')
 bk : ∀ b, (az R' k b).natAbs < W ^ (u + 2 * δ + 1)
 bn : ∀ b, (az R' n b).natAbs < W ^ (u + 2 * δ + 1)
 sh : Sh c R'
 len : R'.length = R.length
 blk : R'.map Hd.blk = R.map Hd.blk
theorem lR {c : Nat} {R : List Hd} (hs : Sh c R) {k n : Nat} (hk : k < R.length) (hn : n < R.length) (j a b : Nat) : az (bB R k n j) a b = if a = n then -((az R n j).fdiv (az R k j)) * az R k b + az R n b else az R a b :=
 ni hs hn hk _ a b
theorem Bk {x y z t u d : Nat} (hx : x <= W ^ d) (hy : y < W ^ d) (hz : z <= W ^ d) (ht : t < W ^ (u + d)) : x * y + z * t < W ^ (u + 2 * d + 1) := by
 have h1 : x * y <= W ^ d * W ^ d := Da hx (Dg hy);have h2 : z * t <= W ^ d * W ^ (u + d) := Da hz (Dg ht);have e1 : W ^ d * W ^ d <= W ^ (u + 2 * d) := by rw [<- DR]; exact xG Cp
 have e2 : W ^ d * W ^ (u + d) = W ^ (u + 2 * d) := by rw [<- DR]; congr 1; omega
 have e3 : W ^ (u + 2 * d) * 2 < W ^ (u + 2 * d + 1) := by
  rw [Dd];exact DU (by unfold W; omega) (il _)
 omega
theorem mE {c : Nat} {R : List Hd} (hs : Sh c R) {k n j δ u : Nat} (hk : k < R.length) (hn : n < R.length) (hp : 0 < az R k j) (hbk : ∀ b, (az R k b).natAbs < W ^ δ) (hbn : ∀ b, (az R n b).natAbs < W ^ u) (b : Nat) : (az (bB R k n j) n b).natAbs < W ^ (u + δ) := by
 rw [lR hs hk hn, if_pos rfl];refine CT (jZ _ _ _) ?_;rw [DK];exact pE (CT (vt hp) (hbn j)) (hbk b) (hbn b)
theorem vO (R : List Hd) (k n j : Nat) : (dR R k n j).map Hd.blk = R.map Hd.blk := by
 unfold dR bB; split
 . exact lC ..
 . rw [xV]; exact lC ..
theorem zL {c k n j δ u : Nat} {R : List Hd} (hs : Sh c R) (hk : k < R.length) (hn : n < R.length) (hkn : k ≠ n) (hp : 0 < az R k j) (h0 : ∀ b, b < j -> az R k b = 0) (h1 : ∀ b, b < j -> az R n b = 0)
 (hbk : ∀ b, (az R k b).natAbs < W ^ δ) (hbn : ∀ b, (az R n b).natAbs < W ^ u) : Cf c k n j δ u R (dR R k n j) := by
 have hA := lR hs hk hn j;have hAn := fun b => (hA n b).trans (if_pos rfl);have hAk := fun b => (hA k b).trans (if_neg hkn);have hAs := fun a b (h : a ≠ n) => (hA a b).trans (if_neg h);have hsA : Sh c (bB R k n j) := hs.vp n k _;have hlA : (bB R k n j).length = R.length := dq ..;have hbA := mE hs hk hn hp hbk hbn;have hr : az (bB R k n j) n j = (az R n j).fmod (az R k j) := by rw [hAn, oX hp]
 have hrr := sq (x := az R n j) hp;by_cases hz : (az R n j).fmod (az R k j) = 0
 . have e : dR R k n j = bB R k n j := by unfold dR; rw [if_pos hz]
   rw [e];refine ⟨fun a _ h b => hAs a b h, fun b hb => (hAk b).trans (h0 b hb), by rw [hAk]; exact hp, fun b hb => ?_, ⟨1, -((az R n j).fdiv (az R k j)), by omega, fun b => ?_⟩, fun N hkN hnN => bc.add hnN hkN (fun e => hkn e.symm) _ hA, fun b => ?_, fun b => jv (hbA b) Cp, hsA, hlA, lC ..⟩
   . rcases EE hb with h | h
     . rw [hAn, h0 b h, h1 b h]; simp
     . subst h; rw [hr, hz]
   . rw [hAn, Em]; omega
   . rw [hAk]; exact jv (hbk b) Cp
 . obtain ⟨M, hM⟩ := Cs (bB R k n j);rw [hM] at hAn hAk hAs hsA hlA hbA hr;have e : dR R k n j = l5 M k n (eu (az M k j) (az M n j)) (fP (az M k j) (az M n j)) (-(az M n j / bT (az M k j) (az M n j))) (az M k j / bT (az M k j) (az M n j)) := by
    unfold dR; rw [if_neg hz, hM]
   obtain ⟨p, hp'⟩ : ∃ p, az M k j = p := ⟨_, rfl⟩;obtain ⟨r, hr'⟩ : ∃ r, az M n j = r := ⟨_, rfl⟩;have hpp : p = az R k j := hp'.symm.trans (hAk j);rw [hr'] at hr;rw [hp', hr'] at e;have hrne : r ≠ 0 := by rw [hr]; exact hz
   rw [<- hr, <- hpp] at hrr;have hrp : 0 < r := by omega
   have hg := jz p r;have hx := BK p r hrne;have hxl := pX p r;have hyl := uN p r;obtain ⟨g, hgd⟩ := Cs (bT p r);obtain ⟨x, hxd⟩ := Cs (eu p r);obtain ⟨y, hyd⟩ := Cs (fP p r);rw [hgd] at hg hx e;rw [hxd] at hx hxl e;rw [hyd] at hx hyl e;have hgp : 0 < g := by have := hg.2.2.1 Cp; have := hg.2.2.2; omega
   obtain ⟨p', hp1⟩ := hg.1;obtain ⟨r', hr1⟩ := hg.2.1;have hpd : p / g = p' := by rw [hp1, DH _ Cp]
   have hrd : r / g = r' := by rw [hr1, DH _ Cp]
   rw [hpd, hrd] at e;have hk1 : p' * x + r' * y = 1 := by
    have : g * (p' * x + r' * y) = g * 1 := by
     rw [DB, <- CH, <- CH, <- hp1, <- hr1, hx]; omega
    exact DC Cp this
   have tN : p' ≠ 0 := fun h => by rw [h, CS] at hp1; omega
   have hmix := yu hsA (by omega : k < M.length) (by omega : n < M.length) hkn x y (-r') p';rw [<- e] at hmix;have hmk := fun b => (hmix k b).trans (if_pos rfl);have hmn := fun b => ((hmix n b).trans (if_neg (fun h => hkn h.symm))).trans (if_pos rfl);have hms := fun a b (h : a ≠ k) (h' : a ≠ n) => ((hmix a b).trans (if_neg h)).trans (if_neg h');have hM0 : ∀ b, b < j -> az M n b = 0 := fun b hb => by rw [hAn, h0 b hb, h1 b hb]; simp
   have hpD : p.natAbs < W ^ δ := by rw [hpp]; exact hbk j
   have hrD : r.natAbs < W ^ δ := by omega
   have hp'D : p'.natAbs <= W ^ δ := by
    have h2 : p'.natAbs <= p.natAbs := by
     rw [hp1, CP];have := Cy p'.natAbs (show 1 <= g.natAbs by omega);omega
    omega
   have hr'D : r'.natAbs <= W ^ δ := by
    have h2 : r'.natAbs <= r.natAbs := by
     rw [hr1, CP];have := Cy r'.natAbs (show 1 <= g.natAbs by omega);omega
    omega
   have bnd : ∀ (s t : Int) b, s.natAbs <= W ^ δ -> t.natAbs <= W ^ δ -> (s * az M k b + t * az M n b).natAbs < W ^ (u + 2 * δ + 1) := by
    intro s t b hs' ht';refine CT (Int.natAbs_add_le _ _) ?_;rw [CP, CP];exact Bk hs' (by rw [hAk]; exact hbk b) ht' (hbA b)
   have hspA : ∀ N, k < N -> n < N -> bc N (az R) N (az M) := fun N hkN hnN => by
    rw [<- hM]; exact bc.add hnN hkN (fun e => hkn e.symm) _ hA
   refine ⟨fun a h h' b => ?_, fun b hb => ?_, ?_, fun b hb => ?_, ?_, fun N hkN hnN => ?_, fun b => ?_, fun b => ?_, ?_, ?_, vO ..⟩
   . rw [hms a b h h', hAs a b h']
   . rw [hmk, hAk, h0 b hb, hM0 b hb]; simp
   . rw [hmk, hp', hr', Dc x, Dc y, hx]; exact hgp
   . rw [hmn];rcases EE hb with h | h
     . rw [hAk, h0 b h, hM0 b h]; simp
     . subst h;rw [hp', hr', hp1, hr1, Du, Dr r', Dr p', Dc r' p']; omega
   . refine ⟨p', -r' + p' * (-((az R n j).fdiv (az R k j))), tN, fun b => ?_⟩;rw [hmn, hAk, hAn, DB, DY, <- CH]; omega
   . refine (hspA N hkN hnN).trans (bc.two hkN hnN hkn (fun a h h' b => hms a b h h') hmk hmn (x' := p') (y' := -y) (z' := r') (t' := x) (fun b => ?_) (fun b => ?_))
     . rw [hmk, hmn];have : p' * (x * az M k b + y * az M n b) + -y * (-r' * az M k b + p' * az M n b) = (p' * x + r' * y) * az M k b := by
        simp only [DB, DY, Du, Ew, Int.neg_neg];have a1 : p' * (y * az M n b) = y * (p' * az M n b) := Dr ..;have a2 : y * (r' * az M k b) = r' * y * az M k b := by rw [<- CH, Dc y]
        have a3 : p' * (x * az M k b) = p' * x * az M k b := (CH ..).symm;omega
       rw [this, hk1, Em]
     . rw [hmk, hmn];have : r' * (x * az M k b + y * az M n b) + x * (-r' * az M k b + p' * az M n b) = (p' * x + r' * y) * az M n b := by
        simp only [DB, DY, Du, Ew];have a1 : r' * (x * az M k b) = x * (r' * az M k b) := Dr ..;have a2 : r' * (y * az M n b) = r' * y * az M n b := (CH ..).symm;have a3 : x * (p' * az M n b) = p' * x * az M n b := by rw [<- CH, Dc x]
        omega
       rw [this, hk1, Em]
   . rw [hmk]; exact bnd x y b Cp Cp
   . rw [hmn]; exact bnd (-r') p' b (by rw [DK]; exact hr'D) hp'D
   . rw [e]; exact hsA.mixT_ k n _ _ _ _
   . exact j5 ..
/-! put. -/
theorem rE (R : List Hd) {n k : Nat} (hk : k < n) : (ep R n).getD k 0 = aR R k := by
 unfold ep; simp [hk]
theorem pj {c n B δ u : Nat} {l : Nat -> Nat} {R : List Hd} (hs : Sh c R) (hn : n <= R.length) (hE : Ech n c (az R) l) (hu : ∀ a b, (az R a b).natAbs < W ^ u) (hb : u + n * δ <= B)
 (hD : ∀ E', eo n c E' l -> bc n (az R) n E' -> ∀ i, i < n -> ∀ j, (E' i j).natAbs < W ^ δ) : ∃ R', iE B c (ep R n) n n R R' /\ yc n c n l R R' := by
 have hls : ∀ k, k < n -> (ep R n).getD k 0 = l k := fun k hk => by
  rw [rE R hk];exact pH Cp hs (hE.zero k hk) (by have := hE.pos k hk; omega)
 have h1 := kZ hls n R (Ct _) hs hn hE (fun i k h1 h2 h3 => by omega);exact ⟨_, v7 (δ := δ) (u := u) hls hb n R (Ct _) hs hn hE (fun i k h1 h2 h3 => by omega) (fun a b => jv (hu a b) Cp) (fun a _ b => hu a b) (hD _ h1.herm h1.sp), h1⟩
theorem nr {a : Nat} : ∀ (n : Nat) (R : List Hd), a <= n -> n < R.length -> ∀ i b, az (bg a n R) i b = if i < a then az R i b else if i = a then az R n b else if i <= n then az R (i - 1) b else az R i b
 | 0, R, ha, hn, i, b => by
  obtain rfl : a = 0 := by omega
  unfold bg;by_cases h : i = 0
  . subst h; simp
  . rw [if_neg Cp, if_neg h, if_neg Cp]
 | n + 1, R, ha, hn, i, b => by
  unfold bg;by_cases h : n + 1 <= a
  . obtain rfl : a = n + 1 := by omega
    rw [if_pos h];by_cases h1 : i < n + 1
    . rw [if_pos h1]
    . rw [if_neg h1];by_cases h2 : i = n + 1
      . subst h2; rw [if_pos rfl]
      . rw [if_neg h2, if_neg Cp]
  . rw [if_neg h, nr n _ Cp (by rw [bJ]; omega)];have hsw := fun x => pI (R := R) (i := n + 1) (j := n) hn Cp x b;rw [hsw, hsw, hsw];by_cases h1 : i < a
    . rw [if_pos h1, if_pos h1];unfold swp; rw [if_neg Cp, if_neg Cp]
    . rw [if_neg h1, if_neg h1];by_cases h2 : i = a
      . rw [if_pos h2, if_pos h2];unfold swp; rw [if_pos rfl]
      . rw [if_neg h2, if_neg h2];by_cases h3 : i <= n
        . rw [if_pos h3, if_pos Cp];unfold swp; rw [if_neg Cp, if_neg Cp]
        . rw [if_neg h3];by_cases h4 : i = n + 1
          . subst h4; rw [if_pos Cp];unfold swp; rw [if_neg Cp, if_pos rfl]; rfl
          . rw [if_neg (by omega : ¬ i <= n + 1)];unfold swp; rw [if_neg Cp, if_neg h4]
theorem tm {c a : Nat} : ∀ (n : Nat) (R : List Hd), Sh c R -> Sh c (bg a n R)
 | 0, R, h => h
 | n + 1, R, h => by
  unfold bg; split
  . exact h
  . exact tm n _ (h.yI _ _)
structure PI (c n δ u s : Nat) (l : Nat -> Nat) (last : Int) (E0 : Nat -> Nat -> Int) (v0 : Nat -> Int) (Ro R : List Hd) : Prop where
 sh : Sh c R
 len : R.length = Ro.length
 tb : Ech n c (az R) l
 sn : s <= n
 lo : ∀ i, i < s -> (l i : Int) <= last
 hi : ∀ i, s <= i -> i < n -> last < (l i : Int)
 un : ∀ i, s <= i -> i < n -> ∀ b, az R i b = E0 i b
 z : ∀ b : Nat, (b : Int) <= last -> az R n b = 0
 bd : ∀ a b, (az R a b).natAbs < W ^ u
 cb : ∃ (t : Int) (w : Nat -> Int), t ≠ 0 /\ Sp n E0 w /\ ∀ b, az R n b = t * v0 b + w b
 sp : bc (n + 1) (az Ro) (n + 1) (az R)
 oth : ∀ a, n < a -> ∀ b, az R a b = az Ro a b
structure yp (c n : Nat) (E0 : Nat -> Nat -> Int) (v0 : Nat -> Int) (Ro : List Hd) (b : Bool) (R' : List Hd) : Prop where
 sh : Sh c R'
 len : R'.length = Ro.length
 oth : ∀ a, n < a -> ∀ b, az R' a b = az Ro a b
 no : b = false -> (∃ l', eo n c (az R') l') /\ (∀ b, az R' n b = 0) /\ bc (n + 1) (az Ro) n (az R')
 yes : b = true -> (∃ l', eo (n + 1) c (az R') l') /\ bc (n + 1) (az Ro) (n + 1) (az R') /\ ∀ s : Int, Sp n E0 (fun j => s * v0 j) -> s = 0
theorem xR {n s j : Nat} {l : Nat -> Nat} (h : s <= n) : ∃ a, s <= a /\ a <= n /\ (∀ i, s <= i -> i < a -> l i < j) /\ (a = n \/ (a < n /\ j <= l a)) := by
 obtain ⟨f, hf⟩ := Cs (n - s);induction f generalizing s with
 | zero => exact ⟨s, Ct _, h, fun i h1 h2 => by omega, .inl Cp⟩
 | succ f ih =>
  by_cases hj : j <= l s
  . exact ⟨s, Ct _, h, fun i h1 h2 => by omega, .inr ⟨by omega, hj⟩⟩
  . obtain ⟨a, h1, h2, h3, h4⟩ := ih (s := s + 1) Cp Cp;refine ⟨a, by omega, h2, fun i hi hia => ?_, h4⟩;by_cases e : i = s
    . subst e; omega
    . exact h3 i Cp hia
theorem tC {c n a j : Nat} {l : Nat -> Nat} {E F : Nat -> Nat -> Int} (h : Ech n c E l) (ha : a <= n) (hlo : ∀ i, i < a -> l i < j) (hhi : ∀ i, a <= i -> i < n -> j < l i) (hj : j < c) (h0 : ∀ b, b < j -> E n b = 0) (hp : 0 < E n j)
 (hF : ∀ i b, i <= n -> F i b = if i < a then E i b else if i = a then E n b else E (i - 1) b) : Ech (n + 1) c F (fun i => if i < a then l i else if i = a then j else l (i - 1)) := by
 refine ⟨fun i k hik hk => ?_, fun i hi => ?_, fun i hi b hb => ?_, fun i hi => ?_⟩
 . show (if i < a then l i else if i = a then j else l (i - 1)) < (if k < a then l k else if k = a then j else l (k - 1));by_cases h1 : k < a
   . rw [if_pos h1, if_pos Cp]; exact h.inc i k hik Cp
   . rw [if_neg h1];by_cases h2 : k = a
     . rw [if_pos h2, if_pos Cp]; exact hlo i Cp
     . rw [if_neg h2];by_cases h3 : i < a
       . rw [if_pos h3]; exact h.inc i (k - 1) Cp Cp
       . rw [if_neg h3];by_cases h4 : i = a
         . rw [if_pos h4]; exact hhi (k - 1) Cp Cp
         . rw [if_neg h4]; exact h.inc (i - 1) (k - 1) Cp Cp
 . show (if i < a then l i else if i = a then j else l (i - 1)) < c;split
   . exact h.lt i Cp
   . split
     . exact hj
     . exact h.lt (i - 1) Cp
 . rw [hF i b Cp];have hb : b < (if i < a then l i else if i = a then j else l (i - 1)) := hb;split at hb
   . rename_i h1; rw [if_pos h1]; exact h.zero i Cp b hb
   . rename_i h1; rw [if_neg h1];split at hb
     . rename_i h2; rw [if_pos h2]; exact h0 b hb
     . rename_i h2; rw [if_neg h2]; exact h.zero (i - 1) Cp b hb
 . rw [hF i _ Cp];show 0 < (if i < a then E i (if i < a then l i else if i = a then j else l (i - 1)) else if i = a then E n (if i < a then l i else if i = a then j else l (i - 1)) else E (i - 1) (if i < a then l i else if i = a then j else l (i - 1)));split
   . exact h.pos i Cp
   . split
     . exact hp
     . exact h.pos (i - 1) Cp
theorem bc.perm {n a : Nat} {E F : Nat -> Nat -> Int} (ha : a <= n) (hF : ∀ i b, i <= n -> F i b = if i < a then E i b else if i = a then E n b else E (i - 1) b) : bc (n + 1) E (n + 1) F := by
 refine ⟨fun k hk => ?_, fun k hk => ?_⟩
 . by_cases h1 : k < a
   . exact (Sp.row F hk).congr (fun b => by rw [hF k b Cp, if_pos h1])
   . by_cases h2 : k = n
     . subst h2;exact (Sp.row F (show a < k + 1 by omega)).congr (fun b => by rw [hF a b Cp, if_neg Cp, if_pos rfl])
     . exact (Sp.row F (show k + 1 < n + 1 by omega)).congr (fun b => by rw [hF (k + 1) b Cp, if_neg Cp, if_neg Cp]; rfl)
 . by_cases h1 : k < a
   . exact (Sp.row E hk).congr (fun b => by rw [hF k b Cp, if_pos h1])
   . by_cases h2 : k = a
     . exact (Sp.row E (show n < n + 1 by omega)).congr (fun b => by rw [hF k b Cp, if_neg h1, if_pos h2])
     . exact (Sp.row E (show k - 1 < n + 1 by omega)).congr (fun b => by rw [hF k b Cp, if_neg h1, if_neg h2])
theorem bc.neg {N n : Nat} {E F : Nat -> Nat -> Int} (hn : n < N) (hs : ∀ a, a ≠ n -> ∀ b, F a b = E a b) (h : ∀ b, F n b = - E n b) : bc N E N F := by
 refine ⟨fun k hk => ?_, fun k hk => ?_⟩
 . by_cases e : k = n
   . subst e; exact ((Sp.row F hk).smul (-1)).congr (fun b => by rw [h]; omega)
   . exact (Sp.row F hk).congr (fun b => (hs k e b).symm)
 . by_cases e : k = n
   . subst e; exact ((Sp.row E hk).smul (-1)).congr (fun b => by rw [h]; omega)
   . exact (Sp.row E hk).congr (fun b => hs k e b)
theorem mx {c n δ B U : Nat} {l : Nat -> Nat} {E0 : Nat -> Nat -> Int} {v0 : Nat -> Int} {Ro : List Hd} (hn : n < Ro.length) (hH0 : Ech n c E0 l) (hδ : ∀ a, a < n -> ∀ b, (E0 a b).natAbs < W ^ δ) (hUB : U + (n + 1) * δ <= B)
 (hZ : ∀ E' l', eo n c E' l' -> bc (n + 1) (az Ro) n E' -> ∀ i, i < n -> ∀ j, (E' i j).natAbs < W ^ δ)
 (hS : (∀ s : Int, Sp n E0 (fun j => s * v0 j) -> s = 0) -> ∀ E' l', eo (n + 1) c E' l' -> bc (n + 1) (az Ro) (n + 1) E' -> ∀ i, i < n + 1 -> ∀ j, (E' i j).natAbs < W ^ δ)
 (s u at_ : Nat) (last : Int) (R : List Hd) (hI : PI c n δ u s l last E0 v0 Ro R) (hat : at_ <= s) (hu : u + (n - s) * (2 * δ + 1) <= U)
 (hnext : ∀ a, s <= a -> a < n -> ∀ R1 u1, PI c n δ u1 (a + 1) l (l a) E0 v0 Ro R1 -> u1 + (n - (a + 1)) * (2 * δ + 1) <= U -> ∃ b R', jV B c n a (l a) R1 b R' /\ yp c n E0 v0 Ro b R') :
 ∃ b R', jV B c n at_ last R b R' /\ yp c n E0 v0 Ro b R' := by
 have hnR : n < R.length := by rw [hI.len]; exact hn
 have hle := nZ hnR hI.sh;have huB : u <= B := by have := Cx ((n - s) * (2 * δ + 1)); have := Cx ((n + 1) * δ); omega
 have hFit : Fit B c R := Fit.of hI.sh (fun a b => jv (hI.bd a b) huB);have hnδ : n * δ <= (n + 1) * δ := Cy _ Cp;have huU : u <= U := by have := Cx ((n - s) * (2 * δ + 1)); omega
 by_cases hc : aR R n = c
 . -- nothing is left
   have hz : ∀ b, az R n b = 0 := fun b => by
    by_cases h : b < c
    . exact hle.2.1 b Cp
    . exact hI.sh.wide n Cp
   have hspz : bc (n + 1) (az R) n (az R) := by
    refine ⟨fun k hk => ?_, fun k hk => Sp.row _ Cp⟩;by_cases e : k = n
    . subst e; exact (Sp.zero _ _).congr hz
    . exact Sp.row _ Cp
   obtain ⟨R', h1, h2⟩ := pj (B := B) (δ := δ) hI.sh (by omega : n <= R.length) hI.tb hI.bd Cp (fun E' hE' hsp => hZ E' l hE' (hI.sp.trans (hspz.trans hsp)));exact ⟨false, R', .zero hFit (.inl hc) h1, h2.sh, h2.len.trans hI.len, fun a ha b => (h2.same a Cp b).trans (hI.oth a ha b), fun _ => ⟨⟨l, h2.herm⟩, fun b => (h2.same n (Ct _) b).trans (hz b), hI.sp.trans (hspz.trans h2.sp)⟩, fun h => by cases h⟩
 . have hjc : aR R n < c := by have := hle.1; omega
   obtain ⟨j, hj⟩ := Cs (aR R n);rw [hj] at hjc hc hle;have hvj := hle.2.2 hjc;have hlast : last < (j : Int) := by
    by_cases h : last < (j : Int)
    . exact h
    . exact absurd (hI.z j Cp) hvj
   obtain ⟨a, hsa, han, hlt, hend⟩ := xR (l := l) (j := j) hI.sn;have hlead : ∀ i, i < n -> aR R i = l i := fun i hi => pH Cp hI.sh (hI.tb.zero i hi) (by have := hI.tb.pos i hi; omega);have hlo : ∀ i, i < a -> l i < j := fun i hi => by
    by_cases h : s <= i
    . exact hlt i h hi
    . have := hI.lo i Cp; omega
   by_cases hm : a < n /\ l a = j
   . obtain ⟨ha, hla⟩ := hm;have hrow : ∀ b, (az R a b).natAbs < W ^ δ := fun b => by rw [hI.un a hsa ha]; exact hδ a ha b
     have hp : 0 < az R a j := by rw [<- hla]; exact hI.tb.pos a ha
     have h0a : ∀ b, b < j -> az R a b = 0 := fun b hb => hI.tb.zero a ha b Cp;have hok := zL (j := j) hI.sh (by omega : a < R.length) hnR Cp hp h0a hle.2.1 hrow (hI.bd n);have hA := lR hI.sh (by omega : a < R.length) hnR j;have hbA := mE (j := j) hI.sh (by omega : a < R.length) hnR hp hrow (hI.bd n);have h2n : (n - s) * (2 * δ + 1) = (n - (a + 1)) * (2 * δ + 1) + (a + 1 - s) * (2 * δ + 1) := by rw [<- CY]; congr 1; omega
     have h2a : 2 * δ + 1 <= (a + 1 - s) * (2 * δ + 1) := by have := Cy (2 * δ + 1) (show 1 <= a + 1 - s by omega); omega
     have hbud : u + 2 * δ + 1 + (n - (a + 1)) * (2 * δ + 1) <= U := by omega
     have hudB : u + 2 * δ + 1 <= B := by
      have := Cx ((n - (a + 1)) * (2 * δ + 1)); have := Cx ((n + 1) * δ); omega
     have hFitA : Fit B c (bB R a n j) := Fit.of (hI.sh.vp n a _) (fun x b => by
      by_cases e : x = n
      . subst e; exact jv (hbA b) Cp
      . rw [hA, if_neg e]; exact jv (hI.bd x b) huB)
     have hpA : az (bB R a n j) a j ≠ 0 := by rw [hA, if_neg Cp]; omega
     have hPI : PI c n δ (u + 2 * δ + 1) (a + 1) l (l a) E0 v0 Ro (dR R a n j) := by
      refine ⟨hok.sh, hok.len.trans hI.len, ?_, by omega, ?_, ?_, ?_, ?_, ?_, ?_, hI.sp.trans (hok.sp (n + 1) Cp Cp), ?_⟩
      . refine ⟨hI.tb.inc, hI.tb.lt, fun i hi b hb => ?_, fun i hi => ?_⟩
        . by_cases e : i = a
          . subst e; exact hok.low b Cp
          . rw [hok.same i e Cp]; exact hI.tb.zero i hi b hb
        . by_cases e : i = a
          . subst e; rw [hla]; exact hok.piv
          . rw [hok.same i e Cp]; exact hI.tb.pos i hi
      . intro i hi;by_cases e : i = a
        . subst e; exact Int.le_refl _
        . have := hI.tb.inc i a Cp ha; omega
      . intro i hi hin;have := hI.tb.inc a i Cp hin; omega
      . intro i hi hin b;rw [hok.same i Cp Cp]; exact hI.un i Cp hin b
      . intro b hb;exact hok.gone b Cp
      . intro x b;by_cases e : x = a
        . subst e; exact hok.bk b
        . by_cases e' : x = n
          . subst e'; exact hok.bn b
          . rw [hok.same x e e']; exact jv (hI.bd x b) Cp
      . obtain ⟨t, w, ht, hw, hv⟩ := hI.cb;obtain ⟨t', s', ht', hv'⟩ := hok.comb;refine ⟨t' * t, fun b => t' * w b + s' * E0 a b, fun e => ?_, (hw.smul t').add ((Sp.row E0 ha).smul s'), fun b => ?_⟩
        . rcases Int.mul_eq_zero.1 e with e | e
          . exact ht' e
          . exact ht e
        . show az (dR R a n j) n b = t' * t * v0 b + (t' * w b + s' * E0 a b);rw [hv', hv, hI.un a hsa ha, DB, CH]; omega
      . intro x hx b;rw [hok.same x Cp Cp]; exact hI.oth x hx b
     obtain ⟨b, R', h1, h2⟩ := hnext a hsa ha (dR R a n j) (u + 2 * δ + 1) hPI hbud;refine ⟨b, R', .meet hFit (by rw [hj]; exact hjc) (by rw [hj]; exact hlast) a Cp ha (fun i h3 h4 => ?_) ?_ ?_ ?_ ?_ ?_, h2⟩
     . rw [hj, hlead i Cp]; exact hlo i h4
     . rw [hj, hlead a ha, hla]
     . rw [hj]; omega
     . rw [hj]; exact hFitA
     . rw [hj]; exact hpA
     . rw [hj]; rw [hla] at h1; exact h1
   . have hhi : ∀ i, a <= i -> i < n -> j < l i := fun i h1 h2 => by
      rcases hend with h3 | ⟨h3, h4⟩
      . omega
      . by_cases e : i = a
        . subst e;have : l i ≠ j := fun h => hm ⟨h3, h⟩;omega
        . have := hI.tb.inc a i Cp h2; omega
     obtain ⟨R1, hR1⟩ := Cs ((if az R n (aR R n) < 0 then cd R n else R));have hR1e : ∀ x, x ≠ n -> ∀ b, az R1 x b = az R x b := fun x hx b => by
      rw [<- hR1]; split
      . rw [pQ hnR, if_neg hx]
      . rfl
     have hR1n : (∀ b, (az R1 n b).natAbs = (az R n b).natAbs) /\ 0 < az R1 n j /\ ((∀ b, az R1 n b = az R n b) \/ (∀ b, az R1 n b = - az R n b)) := by
      rw [<- hR1]; split
      . rename_i h;rw [hj] at h;have h1 := fun b => (pQ hnR n b).trans (if_pos rfl);exact ⟨fun b => by rw [h1, DK], by rw [h1]; omega, .inr h1⟩
      . rename_i h;rw [hj] at h;exact ⟨fun b => rfl, by omega, .inl (fun b => rfl)⟩
     have hR1s : Sh c R1 := by
      rw [<- hR1]; split
      . exact hI.sh.Ce n
      . exact hI.sh
     have hR1l : R1.length = R.length := by
      rw [<- hR1]; split
      . exact fQ ..
      . rfl
     have hR1b : ∀ x b, (az R1 x b).natAbs < W ^ u := fun x b => by
      by_cases e : x = n
      . subst e; rw [hR1n.1]; exact hI.bd x b
      . rw [hR1e x e]; exact hI.bd x b
     have hsp1 : bc (n + 1) (az R) (n + 1) (az R1) := by
      rcases hR1n.2.2 with h | h
      . exact bc.of_eq (fun k hk b => by
         by_cases e : k = n
         . subst e; exact (h b).symm
         . exact (hR1e k e b).symm)
      . exact bc.neg Cp hR1e h
     have hsw := nr (a := a) n R1 han Cp;obtain ⟨R2, hR2⟩ := Cs (bg a n R1);have hs2 : Sh c R2 := hR2 ▸ tm n R1 hR1s;have hl2 : R2.length = R.length := by rw [<- hR2, ig, hR1l]
     rw [hR2] at hsw;have hsw2 : ∀ i b, i <= n -> az R2 i b = if i < a then az R1 i b else if i = a then az R1 n b else az R1 (i - 1) b := fun i b hi => by
      rw [hsw];by_cases h1 : i < a
      . rw [if_pos h1, if_pos h1]
      . rw [if_neg h1, if_neg h1];by_cases h2 : i = a
        . rw [if_pos h2, if_pos h2]
        . rw [if_neg h2, if_neg h2, if_pos hi]
     have hb2 : ∀ x b, (az R2 x b).natAbs < W ^ u := fun x b => by
      rw [hsw]; split
      . exact hR1b ..
      . split
        . exact hR1b ..
        . split <;> exact hR1b ..
     have hE1 : Ech n c (az R1) l := hI.tb.congr (fun x hx b => hR1e x Cp b);have h10 : ∀ b, b < j -> az R1 n b = 0 := fun b hb => by
      have h1 := hR1n.1 b;rw [hle.2.1 b hb] at h1; omega
     have hE2 := tC hE1 han hlo hhi hjc h10 hR1n.2.1 hsw2;have hsp2 := bc.perm han hsw2;have hind : ∀ t : Int, Sp n E0 (fun b => t * v0 b) -> t = 0 := by
      intro t ht;obtain ⟨t', w, ht', hw, hv⟩ := hI.cb;by_cases h0 : t = 0
      . exact h0
      . exfalso;have hin : Sp n E0 (fun b => t * az R n b) := ((ht.smul t').add (hw.smul t)).congr (fun b => by
         rw [hv, DB, <- CH, <- CH, Dc t' t])
        obtain ⟨k, hk, hlk, _⟩ := hH0.lead hin (q := j) (fun e => by
         rcases Int.mul_eq_zero.1 e with e | e
         . exact h0 e
         . exact hvj e) (fun b hb => by
           show t * az R n b = 0;rw [hle.2.1 b hb, CS])
        by_cases hka : k < a
        . have := hlo k hka; omega
        . have := hhi k Cp hk; omega
     obtain ⟨R', h1, h2⟩ := pj (B := B) (δ := δ) (n := n + 1) hs2 Cp hE2 hb2 Cp (fun E' hE' hsp => hS hind E' _ hE' (hI.sp.trans (hsp1.trans (hsp2.trans hsp))));refine ⟨true, R', .stop hFit (by rw [hj]; exact hjc) (by rw [hj]; exact hlast) a Cp han (fun i h3 h4 => ?_) ?_ ?_ ?_, h2.sh, h2.len.trans (hl2.trans hI.len), fun x hx b => ?_, fun h => (by cases h), fun _ => ⟨⟨_, h2.herm⟩, hI.sp.trans (hsp1.trans (hsp2.trans h2.sp)), hind⟩⟩
     . rw [hj, hlead i Cp]; exact hlo i h4
     . rcases EE han with h | h
       . refine .inr ?_;rw [hj, hlead a h]; exact hhi a (Ct _) h
       . exact .inl h
     . rw [hR1, hR2]; exact Fit.of hs2 (fun a b => jv (hb2 a b) huB)
     . rw [hR1, hR2]; exact h1
     . rw [h2.same x Cp, hsw, if_neg Cp, if_neg Cp, if_neg Cp, hR1e x Cp];exact hI.oth x hx b
theorem zN {c n δ B U : Nat} {l : Nat -> Nat} {E0 : Nat -> Nat -> Int} {v0 : Nat -> Int} {Ro : List Hd} (hn : n < Ro.length) (hH0 : Ech n c E0 l) (hδ : ∀ a, a < n -> ∀ b, (E0 a b).natAbs < W ^ δ) (hUB : U + (n + 1) * δ <= B)
 (hZ : ∀ E' l', eo n c E' l' -> bc (n + 1) (az Ro) n E' -> ∀ i, i < n -> ∀ j, (E' i j).natAbs < W ^ δ)
 (hS : (∀ s : Int, Sp n E0 (fun j => s * v0 j) -> s = 0) -> ∀ E' l', eo (n + 1) c E' l' -> bc (n + 1) (az Ro) (n + 1) E' -> ∀ i, i < n + 1 -> ∀ j, (E' i j).natAbs < W ^ δ) :
 ∀ (f s u at_ : Nat) (last : Int) (R : List Hd), n - s <= f -> PI c n δ u s l last E0 v0 Ro R -> at_ <= s -> u + (n - s) * (2 * δ + 1) <= U -> ∃ b R', jV B c n at_ last R b R' /\ yp c n E0 v0 Ro b R' := by
 intro f;induction f with
 | zero =>
  intro s u at_ last R hf hI hat hu;exact mx hn hH0 hδ hUB hZ hS s u at_ last R hI hat hu (fun a ha1 ha2 => by omega)
 | succ f ih =>
  intro s u at_ last R hf hI hat hu;refine mx hn hH0 hδ hUB hZ hS s u at_ last R hI hat hu (fun a ha1 ha2 R1 u1 hI1 hu1 => ?_);exact ih (a + 1) u1 a (l a) R1 Cp hI1 Cp hu1
/-! Reduce. -/
def gX (N m : Nat) : Nat := 2 * (m + 1) * N + 1
theorem lu {n N m : Nat} (hn : n <= N) (hN : N <= 1048576) : uW n (W ^ m) < W ^ gX N m := by
 unfold uW gX;rcases Dn n with h | h
 . subst h; simp; exact il _
 . have h1 : 2 * n * W ^ m + 1 <= W ^ (m + 1) := by
    rw [Dd, CE (W ^ m)];have h2 : (2 * n + 1) * W ^ m <= W * W ^ m := Cy _ (by unfold W; omega);have h3 : (2 * n + 1) * W ^ m = 2 * n * W ^ m + W ^ m := by rw [CY, ER]
    have := il m;omega
   have h2 : (2 * n * W ^ m + 1) ^ (n - 1) <= W ^ ((m + 1) * (n - 1)) := by
    rw [Nat.pow_mul]; exact Nat.pow_le_pow_left h1 _
   have h3 : n * ((2 * n * W ^ m + 1) ^ (n - 1) * W ^ m) <= W ^ ((m + 1) * n) := by
    have h4 : (2 * n * W ^ m + 1) ^ (n - 1) * W ^ m <= W ^ ((m + 1) * (n - 1)) * W ^ m := Cy _ h2;have h5 : n * ((2 * n * W ^ m + 1) ^ (n - 1) * W ^ m) <= W * (W ^ ((m + 1) * (n - 1)) * W ^ m) := Da (by unfold W; omega) h4;refine Cw h5 ?_;have e : W * (W ^ ((m + 1) * (n - 1)) * W ^ m) = W ^ ((m + 1) * (n - 1) + m + 1) := by
     rw [<- DR, CE W, <- Dd]
    rw [e];have e2 : (m + 1) * (n - 1) + m + 1 = (m + 1) * n := by
     have : n = n - 1 + 1 := by omega
     rw [Eh]
     conv => rhs; rw [this, CA, Ee]
    rw [e2]; exact Ct _
   obtain ⟨D, hD⟩ := Cs (n * ((2 * n * W ^ m + 1) ^ (n - 1) * W ^ m));rw [hD] at h3 |-;have h6 : D * D <= W ^ (2 * (m + 1) * n) := by
    have := Da h3 h3;rw [<- DR] at this;have e : (m + 1) * n + (m + 1) * n = 2 * (m + 1) * n := by rw [CN]; omega
    rwa [e] at this
   have h7 : n * D * D < W * W ^ (2 * (m + 1) * n) := by
    rw [CN];refine CT (CD n h6) ?_;exact EA (by unfold W; omega) (il _)
   refine CK h7 ?_;rw [CE W, <- Dd];refine xG ?_;have : 2 * (m + 1) * n <= 2 * (m + 1) * N := CD _ hn;omega
def sf (N m : Nat) : Nat := gX N m + N * (2 * gX N m + 1) + (N + 1) * gX N m
theorem sQ.snoc {n : Nat} {a E0 : Nat -> Nat -> Int} {v : Nat -> Int} (h : sQ n a) (ha : ∀ k, k < n -> Sp n E0 (a k)) (hv : ∀ s : Int, Sp n E0 (fun j => s * v j) -> s = 0) : sQ (n + 1) (fun k => if k < n then a k else v) := by
 intro x hx k hk;have e : ∀ j, sm n (fun k => x k * a k j) + x n * v j = 0 := fun j => by
  have := hx j;unfold sm at this;rw [ak (g := fun k => x k * a k j) (fun k hk => by simp [hk])] at this;simpa using this
 have h0 : x n = 0 := by
  refine hv _ (((Sp.sm (x := fun k => - x k) ha)).congr (fun j => ?_));have h1 := e j;have h2 : sm n (fun k => - x k * a k j) = - sm n (fun k => x k * a k j) := by
   have := bQ n (-1) (fun k => x k * a k j);rw [Int.neg_one_mul] at this;rw [<- this]; exact ak (fun k _ => by rw [Du, Int.neg_one_mul])
  rw [h2]; omega
 by_cases hkn : k = n
 . subst hkn; exact h0
 . refine h x (fun j => ?_) k Cp;have := e j;rw [h0] at this; simpa using this
theorem rC : ∀ (k i : Nat) (R : List Hd), i + k < R.length -> ∀ a b, az (mO k i R) a b = if a < i then az R a b else if a < i + k then az R (a + 1) b else if a = i + k then az R i b else az R a b
 | 0, i, R, h, a, b => by
  unfold mO;by_cases h1 : a < i
  . rw [if_pos h1]
  . rw [if_neg h1, if_neg Cp];by_cases h2 : a = i + 0
    . rw [if_pos h2]; subst h2; rfl
    . rw [if_neg h2]
 | k + 1, i, R, h, a, b => by
  unfold mO;rw [rC k (i + 1) _ (by rw [bJ]; omega)];have hsw := fun x => pI (R := R) (i := i) (j := i + 1) Cp Cp x b;rw [hsw, hsw, hsw];by_cases h1 : a < i
  . rw [if_pos Cp, if_pos h1];unfold swp; rw [if_neg Cp, if_neg Cp]
  . rw [if_neg h1];by_cases h2 : a = i
    . rw [if_pos Cp, if_pos Cp];unfold swp; rw [if_neg Cp, if_pos h2, h2]
    . rw [if_neg Cp];by_cases h3 : a < i + (k + 1)
      . rw [if_pos Cp, if_pos h3];unfold swp; rw [if_neg Cp, if_neg Cp]
      . rw [if_neg Cp, if_neg h3];by_cases h4 : a = i + (k + 1)
        . rw [if_pos Cp, if_pos h4];unfold swp; rw [if_pos rfl]
        . rw [if_neg Cp, if_neg h4];unfold swp; rw [if_neg Cp, if_neg Cp]
theorem x9 {c : Nat} : ∀ (k i : Nat) (R : List Hd), Sh c R -> Sh c (mO k i R)
 | 0, i, R, h => h
 | k + 1, i, R, h => x9 k (i + 1) _ (h.yI _ _)
theorem mD : ∀ (k i : Nat) (R : List Hd), (mO k i R).length = R.length
 | 0, i, R => rfl
 | k + 1, i, R => (mD k (i + 1) _).trans (bJ ..)
theorem eo.congr {n c : Nat} {E F : Nat -> Nat -> Int} {l : Nat -> Nat} (h : eo n c E l) (e : ∀ a, a < n -> ∀ b, F a b = E a b) : eo n c F l :=
 ⟨h.toEch.congr e, fun i k hik hk => by rw [e i Cp, e k hk]; exact h.red i k hik hk⟩
structure RI (c m : Nat) (Ro : List Hd) (d e : Nat) (R : List Hd) : Prop where
 sh : Sh c R
 len : R.length = Ro.length
 de : d <= e
 el : e <= Ro.length
 herm : ∃ l, eo d c (az R) l
 raw : ∀ i, d <= i -> i < e -> ∀ b, (az R i b).natAbs < W ^ m
 zero : ∀ i, e <= i -> ∀ b, az R i b = 0
 sp : bc Ro.length (az Ro) e (az R)
 ind : ∃ a : Nat -> Nat -> Int, (∀ k, k < d -> Sp d (az R) (a k)) /\ sQ d a /\ ∀ k b, k < d -> (a k b).natAbs <= W ^ m
structure rH (c D : Nat) (Ro : List Hd) (k : Nat) (R' : List Hd) : Prop where
 sh : Sh c R'
 len : R'.length = Ro.length
 kl : k <= Ro.length
 herm : ∃ l, eo k c (az R') l
 zero : ∀ i, k <= i -> ∀ b, az R' i b = 0
 sp : bc Ro.length (az Ro) k (az R')
 bd : ∀ i b, (az R' i b).natAbs < W ^ D
theorem RI.done {c m N d : Nat} {Ro R : List Hd} (hI : RI c m Ro d d R) (hN : Ro.length <= N) (hN1 : N <= 1048576) : rH c (gX N m) Ro d R := by
 refine ⟨hI.sh, hI.len, hI.el, hI.herm, hI.zero, hI.sp, fun i b => ?_⟩;obtain ⟨l, hH⟩ := hI.herm;obtain ⟨a, ha1, ha2, ha3⟩ := hI.ind;by_cases h : i < d
 . exact CT (hH.bound ha1 ha2 (fun k j hk => ha3 k j hk) i b h) (lu (by have := hI.el; omega) hN1)
 . rw [hI.zero i Cp]; simpa using il _
theorem tA {c m N B : Nat} {Ro : List Hd} (hN : Ro.length <= N) (hN1 : N <= 1048576) (hB : sf N m <= B) : ∀ (f d e : Nat) (R : List Hd), e - d <= f -> RI c m Ro d e R -> ∃ k R', mK B c d e R k R' /\ rH c (gX N m) Ro k R'
 | 0, d, e, R, hf, hI => by
  have : d = e := by have := hI.de; omega
  subst this;exact ⟨d, R, .fin (Ct _), hI.done hN hN1⟩
 | f + 1, d, e, R, hf, hI => by
  by_cases hde : d < e
  . obtain ⟨δ, hδ⟩ := Cs (gX N m);unfold sf at hB;rw [hδ] at hB;obtain ⟨l, hH⟩ := hI.herm;obtain ⟨a, ha1, ha2, ha3⟩ := hI.ind;have hdl : d < Ro.length := by have := hI.el; omega
    have hmδ : m <= δ := by
     have h1 : (m + 1) * 1 <= (m + 1) * (2 * N) := CD _ Cp;rw [<- hδ]; unfold gX;have h2 : 2 * (m + 1) * N = (m + 1) * (2 * N) := by rw [CE 2, CN]
     omega
    have hbnd : ∀ i, i < d -> ∀ b, (az R i b).natAbs < W ^ δ := fun i hi b => by
     have := hH.bound ha1 ha2 (fun k j hk => ha3 k j hk) i b hi;exact CT this (hδ ▸ lu Cp hN1)
    have hall : ∀ x b, (az R x b).natAbs < W ^ δ := fun x b => by
     by_cases h1 : x < d
     . exact hbnd x h1 b
     . by_cases h2 : x < e
       . exact jv (hI.raw x Cp h2 b) hmδ
       . rw [hI.zero x Cp]; simpa using il δ
    have hsub : ∀ {M : Nat} {E' : Nat -> Nat -> Int}, bc (d + 1) (az R) M E' -> ∀ k, k < d -> Sp M E' (a k) := fun hsp k hk =>
     (ha1 k hk).trans (fun i hi => hsp.1 i Cp)
    have hZ : ∀ E' l', eo d c E' l' -> bc (d + 1) (az R) d E' -> ∀ i, i < d -> ∀ j, (E' i j).natAbs < W ^ δ := fun E' l' hE' hsp i hi j =>
     CT (hE'.bound (hsub hsp) ha2 (fun k j hk => ha3 k j hk) i j hi) (hδ ▸ lu Cp hN1)
    have hS : (∀ s : Int, Sp d (az R) (fun j => s * az R d j) -> s = 0) -> ∀ E' l', eo (d + 1) c E' l' -> bc (d + 1) (az R) (d + 1) E' -> ∀ i, i < d + 1 -> ∀ j, (E' i j).natAbs < W ^ δ := fun hv E' l' hE' hsp i hi j => by
     have hb := hE'.bound (a := fun k => if k < d then a k else az R d) (M := W ^ m) (fun k hk => by
      by_cases h : k < d
      . simp only [if_pos h]; exact hsub hsp k h
      . simp only [if_neg h]; exact hsp.1 d Cp) (ha2.snoc ha1 hv) (fun k j hk => by
      by_cases h : k < d
      . simp only [if_pos h]; exact ha3 k j h
      . simp only [if_neg h]; exact Dg (hI.raw d (Ct _) hde j)) i j hi
     exact CT hb (hδ ▸ lu Cp hN1)
    have hmulN : (d - 0) * (2 * δ + 1) <= N * (2 * δ + 1) := Cy _ Cp;have hmulN2 : (d + 1) * δ <= (N + 1) * δ := Cy _ Cp;obtain ⟨b, R1, hput, hok⟩ := zN (δ := δ) (B := B) (U := δ + N * (2 * δ + 1)) (v0 := az R d) (by rw [hI.len]; exact hdl : d < R.length) hH.toEch hbnd Cp hZ hS d 0 δ 0 (-1) R Cp
     ⟨hI.sh, rfl, hH.toEch, Cx _, fun i hi => by omega, fun i _ _ => by omega, fun i _ _ _ => rfl, fun b hb => by omega, hall, ⟨1, fun _ => 0, by omega, Sp.zero _ _, fun b => by simp⟩, bc.refl _ _, fun _ _ _ => rfl⟩ (Ct _) Cp
    cases b
    . obtain ⟨⟨l', hH'⟩, hz, hsp⟩ := hok.no rfl;have hl1 : R1.length = R.length := hok.len;have hrot := rC (e - 1 - d) d R1 (by rw [hl1, hI.len]; have := hI.el; omega);have e1 : d + (e - 1 - d) = e - 1 := by omega
      rw [e1] at hrot;obtain ⟨R2, hR2⟩ := Cs (mO (e - 1 - d) d R1);have hlo : ∀ i, i < d -> ∀ b, az R2 i b = az R1 i b := fun i hi b => by rw [<- hR2, hrot, if_pos hi]
      have hmid : ∀ i, d <= i -> i < e - 1 -> ∀ b, az R2 i b = az R (i + 1) b := fun i h1 h2 b => by
       rw [<- hR2, hrot, if_neg Cp, if_pos h2, hok.oth (i + 1) Cp]
      have hsp2 : bc Ro.length (az Ro) (e - 1) (az R2) := by
       refine hI.sp.trans ⟨fun k hk => ?_, fun k hk => ?_⟩
       . by_cases h1 : k <= d
         . refine (hsp.1 k Cp).trans (fun i hi => ?_);exact (Sp.row (az R2) (by omega : i < e - 1)).congr (fun b => (hlo i hi b).symm)
         . refine (Sp.row (az R2) (by omega : k - 1 < e - 1)).congr (fun b => ?_);rw [hmid (k - 1) Cp Cp]; congr 1; omega
       . by_cases h1 : k < d
         . refine ((hsp.2 k h1).congr (hlo k h1)).trans (fun i hi => Sp.row _ Cp)
         . exact (Sp.row (az R) (by omega : k + 1 < e)).congr (hmid k Cp hk)
      have hRI : RI c m Ro d (e - 1) R2 := by
       refine ⟨hR2 ▸ x9 _ _ _ hok.sh, by rw [<- hR2, mD, hl1, hI.len], by omega, by have := hI.el; omega, ⟨l', hH'.congr hlo⟩, fun i h3 h4 b => ?_, fun i h3 b => ?_, hsp2, ⟨a, fun k hk => ?_, ha2, ha3⟩⟩
       . rw [hmid i h3 h4]; exact hI.raw (i + 1) Cp Cp b
       . rw [<- hR2, hrot, if_neg Cp, if_neg Cp];by_cases h4 : i = e - 1
         . rw [if_pos h4]; exact hz b
         . rw [if_neg h4, hok.oth i Cp]; exact hI.zero i Cp b
       . refine (hsub hsp k hk).trans (fun i hi => ?_);exact (Sp.row (az R2) hi).congr (fun b => (hlo i hi b).symm)
      obtain ⟨k, R', h1, h2⟩ := tA hN hN1 (by unfold sf; rw [hδ]; exact hB) f d (e - 1) R2 Cp hRI;exact ⟨k, R', .zero hde hput (by rw [hR2]; exact h1), h2⟩
    . obtain ⟨⟨l', hH'⟩, hsp, hv⟩ := hok.yes rfl;have hl1 : R1.length = R.length := hok.len;have hsp2 : bc Ro.length (az Ro) e (az R1) := by
       refine hI.sp.trans ⟨fun k hk => ?_, fun k hk => ?_⟩
       . by_cases h1 : k < d + 1
         . exact (hsp.1 k h1).trans (fun i hi => Sp.row _ Cp)
         . exact (Sp.row (az R1) hk).congr (fun b => (hok.oth k Cp b).symm)
       . by_cases h1 : k < d + 1
         . exact (hsp.2 k h1).trans (fun i hi => Sp.row _ Cp)
         . exact (Sp.row (az R) hk).congr (fun b => hok.oth k Cp b)
      have hRI : RI c m Ro (d + 1) e R1 := by
       refine ⟨hok.sh, hl1.trans hI.len, by omega, hI.el, ⟨l', hH'⟩, fun i h3 h4 b => ?_, fun i h3 b => ?_, hsp2, ⟨fun k => if k < d then a k else az R d, fun k hk => ?_, ha2.snoc ha1 hv, fun k b hk => ?_⟩⟩
       . rw [hok.oth i Cp]; exact hI.raw i Cp h4 b
       . rw [hok.oth i Cp]; exact hI.zero i h3 b
       . by_cases h : k < d
         . simp only [if_pos h]; exact hsub hsp k h
         . simp only [if_neg h]; exact hsp.1 d Cp
       . by_cases h : k < d
         . simp only [if_pos h]; exact ha3 k b h
         . simp only [if_neg h]; exact Dg (hI.raw d (Ct _) hde b)
      obtain ⟨k, R', h1, h2⟩ := tA hN hN1 (by unfold sf; rw [hδ]; exact hB) f (d + 1) e R1 Cp hRI;exact ⟨k, R', .ok hde hput h1, h2⟩
  . have : d = e := by have := hI.de; omega
    subst this;exact ⟨d, R, .fin (Ct _), hI.done hN hN1⟩
theorem oN {c m N B : Nat} {Ro : List Hd} (hs : Sh c Ro) (hm : ∀ i b, (az Ro i b).natAbs < W ^ m) (hN : Ro.length <= N) (hN1 : N <= 1048576) (hB : sf N m <= B) : ∃ k R', mK B c 0 Ro.length Ro k R' /\ rH c (gX N m) Ro k R' :=
 tA hN hN1 hB Ro.length 0 Ro.length Ro Cp
  ⟨hs, rfl, Cx _, Ct _, ⟨fun _ => 0, ⟨fun i k _ h => by omega, fun i h => by omega, fun i h => by omega, fun i h => by omega⟩, fun i k _ h => by omega⟩, fun i _ _ b => hm i b, fun i hi b => eY hi b, bc.refl _ _, ⟨fun _ _ => 0, fun k h => by omega, fun x _ k h => by omega, fun k b h => by omega⟩⟩
end Go.Proofs.YtjjlmfmoihooiaaGreat
namespace Go.Proofs.YtjjlmfmoihooiaaGreat
open Go.RowKit
structure ed (B : Nat) (S : Nat -> Prop) (w w' : World) : Prop where
 os : w'.os = w.os
 tape : w'.tape = w.tape
 output : w'.output = w.output
 size : w.heap.size <= w'.heap.size
 block : ∀ k, k < B -> ¬ S k -> w'.heap[k]? = w.heap[k]?
theorem ed.trans {B : Nat} {S : Nat -> Prop} {a b c : World} (h : ed B S a b) (k : ed B S b c) : ed B S a c :=
 ⟨k.os.trans h.os, k.tape.trans h.tape, k.output.trans h.output, Cw h.size k.size, fun i hi hs => (k.block i hi hs).trans (h.block i hi hs)⟩
theorem ed.putObj {B : Nat} {S : Nat -> Prop} (w : World) {l : Nat} (o : Obj) (hl : B <= l) : ed B S w (w.putObj l o) :=
 ⟨rfl, rfl, rfl, by simp, fun k hk _ => World.putObj_heap_other Cp⟩
theorem ed.bC {B : Nat} {S : Nat -> Prop} {w w' : World} (h : Below B w w') : ed B S w w' := ⟨h.os, h.tape, h.output, h.size, fun k hk _ => h.block k hk⟩
def ry {α : Type} (B : Nat) (S : Nat -> Prop) (I : List α -> World -> Prop) (xs : List α) (W : World) : Exit -> Act -> World -> Prop
 | .normal, _, W' => KeepsOthers W W' /\ ed B S W W' /\ I xs W'
 | _, _, _ => False
theorem tU {α : Type} {P : Program} {n : Nat} {g : Operand} {ps : Array Tmp} {assign body : Code} {Q : Exit -> Act -> World -> Prop} {a : Act} {w : World}
 {gf : Nat} {lb : Array Value} (hg : a.eval g = .func (.func gf) #[] lb) (eg : ∀ args w, (callFunc gf args).run P w = .ok (.enter gf args) w)
 {encs : α -> Array Value} (hps : ∀ x, (encs x).size = ps.size) (S : Nat -> Prop) (N : Nat) (Sx : List α -> Prop)
 (E : List α -> α -> World -> Prop) (I : List α -> World -> Prop)
 (hE : ∀ s x W l o o', E s x W -> w.heap.size <= l -> W.heap[l]? = some o -> o.isCells = false -> E s x (W.putObj l o'))
 (hIl : ∀ s W l o o', I s W -> w.heap.size <= l -> W.heap[l]? = some o -> o.isCells = false -> I s (W.putObj l o'))
 (hIb : ∀ s A B, I s A -> Below A.heap.size A B -> I s B) (h0 : I [] w) (a₁ : α -> Act)
 (hseq : ∀ (l : Nat) (J : List α -> World -> Prop) (W : World), Below w.heap.size w W -> (∀ s A B, J s A -> Below A.heap.size A B -> J s B) ->
  (∀ pre x W1, J pre W1 -> E pre x W1 -> pre.length < N -> YieldAt Fence.wide (n - 1 - 1) P l (encs x) W1 fun e W' => e = .returned (.bool true) /\ J (pre ++ [x]) W' /\ ed w.heap.size S W1 W') ->
  J [] W -> CallsIn Fence.wide (n - 1) P gf (#[.func (.yield l) #[] #[]] ++ lb) W fun e W' => (∃ v, e = .returned v) /\ ∃ xs, Sx xs /\ J xs W')
 (hassign : ∀ (l : Nat) (x : α) (W : World) (K : Act -> World -> Prop), K (a₁ x) W ->
  assign.wpIn (Fence.wide.inRound l) (n - 1 - 1) P (Exit.then K (fun _ _ _ => False)) { tmps := (ps.zip (encs x)).foldl (fun t (p, v) => t.setIfInBounds p v) a.tmps, defers := [] } W)
 (hbody : ∀ (l : Nat) (pre : List α) (x : α) (W : World), I pre W -> E pre x W -> pre.length < N -> body.wpIn (Fence.wide.inRound l) (n - 1 - 1) P (ry w.heap.size S I (pre ++ [x]) W) (a₁ x) W)
 (hdone : ∀ (D : Nat) (xs : List α) (W : World), w.heap.size <= D -> Sx xs -> I xs W -> W.heap[D]? = some (.deferred (some [])) -> Q .normal { a with defers := { target := .collected D, args := #[] } :: a.defers } W) :
 (Code.rangeFunc g ps assign body).wpIn Fence.wide n P Q a w := by
 refine wpIn_rangeFunc ?_;intro fn hfn;obtain ⟨R, hR⟩ : ∃ R : LoopState -> Option Code -> Loop, R = fun st pe => { state := st, pending := pe, fn, tmps := a.tmps, params := ps, assign, body, defers := w.heap.size } := ⟨_, rfl⟩;have hz0 : (w.alloc (.deferred (some []))).heap.size = w.heap.size + 1 := by simp
 have hbA : Below w.heap.size w (w.alloc (.deferred (some []))) := (Below.refl _ _).alloc (Ct _) _;have hbB : Below (w.heap.size + 1) (w.alloc (.deferred (some []))) ((w.alloc (.deferred (some []))).alloc (.loop (R .ready none))) := (Below.refl _ _).alloc Cq _;have hl0 : ((w.alloc (.deferred (some []))).alloc (.loop (R .ready none))).heap[w.heap.size + 1]? = some (.loop (R .ready none)) := by
  have := World.alloc_heap_new (w.alloc (.deferred (some []))) (.loop (R .ready none)); rwa [World.size_alloc] at this
 have hd0 : ((w.alloc (.deferred (some []))).alloc (.loop (R .ready none))).heap[w.heap.size]? = some (.deferred (some [])) :=
  (hbB.block _ Cp).trans (World.alloc_heap_new w _)
 have hen := run_enterLoop_outer (P := P) (w := w) fn a.tmps ps assign body;have hI1 : I [] ((w.alloc (.deferred (some []))).alloc (.loop (R .ready none))) := hIb _ _ _ (hIb _ _ _ h0 hbA) (by rw [hz0]; exact hbB);have hbw : Below w.heap.size w ((w.alloc (.deferred (some []))).alloc (.loop (R .ready none))) := hbA.trans (hbB.mono Cp);rw [show ({ state := .ready, pending := none, fn, tmps := a.tmps, params := ps, assign, body, defers := w.heap.size } : Loop) = R .ready none by rw [hR]] at hen;generalize (w.alloc (.deferred (some []))).alloc (.loop (R .ready none)) = W0 at *;refine ⟨w.heap.size + 1, [{ target := .collected w.heap.size, args := #[] }], W0, { target := .fn (.func gf) lb, args := #[.func (.yield (w.heap.size + 1)) #[] #[]] }, W0, gf,
  #[.func (.yield (w.heap.size + 1)) #[] #[]] ++ lb, W0, hen, ?_, fun _ _ => trivial, by simp [invoke, go_sem, eg], fun h => absurd h Cr, ?_⟩
 . simp only [resolve, hg];simp [go_sem]
 have hlp : ∀ st pe, (Obj.loop (R st pe)).isCells = false := fun _ _ => rfl;refine (hseq (w.heap.size + 1) (fun pre W => I pre W /\ W.heap[w.heap.size + 1]? = some (.loop (R .ready none)) /\ W.heap[w.heap.size]? = some (.deferred (some []))) W0 hbw ?_ ?_ ⟨hI1, hl0, hd0⟩).mono ?_
 . rintro s A B ⟨h1, h2, h3⟩ hb;exact ⟨hIb _ _ _ h1 hb, (hb.block _ (Array.getElem?_eq_some_iff.1 h2).1).trans h2, (hb.block _ (Array.getElem?_eq_some_iff.1 h3).1).trans h3⟩
 . rintro pre x W ⟨hi, hl, hd⟩ hx hlen;have hlt : w.heap.size + 1 < W.heap.size := (Array.getElem?_eq_some_iff.1 hl).1;have hy := run_yield (P := P) (args := encs x) hl (by rw [hR]; exact hps x);have hbg := run_beginRound (P := P) hl (by rw [hR]);have hle : w.heap.size <= w.heap.size + 1 := by omega
   rw [hR] at hy hbg;refine ⟨fn, _, assign, body, hy, roundIn_of_wpIn hfn (hassign _ x W _ ⟨_, hbg, ?_⟩)⟩;have hl2 : (W.putObj (w.heap.size + 1) (.loop (R .busy none))).heap[w.heap.size + 1]? = some (.loop (R .busy none)) := World.putObj_heap_same hlt;have hd2 : (W.putObj (w.heap.size + 1) (.loop (R .busy none))).heap[w.heap.size]? = some (.deferred (some [])) := (World.putObj_heap_other Cp).trans hd;have hk2 : ed w.heap.size S W (W.putObj (w.heap.size + 1) (.loop (R .busy none))) := ed.putObj W _ hle;have hi2 := hIl pre W (w.heap.size + 1) _ (.loop (R .busy none)) hi hle hl rfl;have hx2 := hE pre x W (w.heap.size + 1) _ (.loop (R .busy none)) hx hle hl rfl;rw [show ({ state := .busy, pending := none, fn, tmps := a.tmps, params := ps, assign, body, defers := w.heap.size } : Loop) = R .busy none by rw [hR]];generalize W.putObj (w.heap.size + 1) (.loop (R .busy none)) = W2 at *;refine wpIn_mono (hbody (w.heap.size + 1) pre x W2 hi2 hx2 hlen) ?_;intro e a3 W3 hp;cases e with
   | normal =>
    obtain ⟨hk3, hkp3, hi3⟩ := hp;have hl3 := hk3.same _ _ hl2 rfl;have hd3 := hk3.same _ _ hd2 rfl;have hend := run_endRound (P := P) none hl3;rw [hR] at hend;refine ⟨_, _, hend, rfl, ⟨hIl _ _ _ _ _ hi3 hle hl3 rfl, ?_, ?_⟩, ?_⟩
    . rw [World.putObj_heap_same (Array.getElem?_eq_some_iff.1 hl3).1, hR]; rfl
    . exact (World.putObj_heap_other Cp).trans hd3
    . exact hk2.trans (hkp3.trans (ed.putObj _ _ hle))
   | ret => exact hp.elim
   | exit id => exact hp.elim
   | goto t => exact hp.elim
   | panic ch => exact hp.elim
   | outgrown => exact hp.elim
 . rintro e W2 ⟨⟨v, rfl⟩, xs, hS, hi, hl, hd⟩;have hle : w.heap.size <= w.heap.size + 1 := by omega
   have hend := run_endLoop (P := P) hl (by rw [hR]; simp);rw [hR] at hend;exact ⟨none, _, hend, hdone _ xs _ (Ct _) hS (hIl _ _ _ _ _ hi hle hl rfl) ((World.putObj_heap_other Cp).trans hd)⟩
attribute [local go_sem] Oper.semAt_some
abbrev NR := Nat × Hd
def NR.enc (x : NR) : Array Value := #[.int .i64 (x.1 : Int), .slice (some ⟨x.2.blk, 0, none⟩) x.2.xs.length x.2.cap]
def vv (B : Nat) (pre : List NR) (x : NR) (W : World) : Prop := aO W x.2.blk x.2.xs /\ B <= x.2.blk /\ ∀ y ∈ pre, y.2.blk ≠ x.2.blk
def vD (r c : Nat) (xs : List Int) (zs : List NR) : Prop := zs.length = r /\ ∀ k (h : k < zs.length), zs[k] = (k, ⟨(zs[k]).2.blk, c, rowOf xs c k⟩)
theorem aQ.piece {w : World} {b : Nat} {xs : List Int} (h : aO w b xs) (L : Nat) (hL : ∀ x ∈ xs, ag x.natAbs <= L) (k c : Nat) : aQ w L (some ⟨b, k * c * 2, none⟩) (rowOf xs c k) := by
 intro hp;refine ⟨b, k * c * 2, rfl, h.lt, fun i hi => ?_⟩;have h0 : i < c := by simp [rowOf] at hi; omega
 have h1 : k * c + i < xs.length := by simp [rowOf] at hi; omega
 obtain ⟨p, h2, h3, h4⟩ := h.get h1;have e : (k * c + i) * 2 = k * c * 2 + i * 2 := by omega
 rw [e] at h2 h3;refine ⟨p, h2, h3, ?_⟩;have e2 : (rowOf xs c k)[i] = xs[k * c + i] := by simp [rowOf]
 rw [e2];exact h4.int (hL _ (Cu _))
theorem kN (n g b r c : Nat) (xs : List Int) (w : World) (S : Nat -> Prop) (hS : dX S w) (hg : aa w g 24 [.int .i64 (r : Int), .int .i64 (c : Int), .slice (some ⟨b, 0, none⟩) xs.length xs.length]) (hgS : ¬ S g) (hb : aO w b xs) (hbS : ¬ S b) (hl : xs.length = r * c) (hr : r <= 100000) (hc : c <= 100000)
 (hL : ∀ x ∈ xs, ag x.natAbs <= 17592186044415)
 (l : Nat) (J : List NR -> World -> Prop) (W : World) (hW : Below w.heap.size w W) (hJ : ∀ s A B, J s A -> Below A.heap.size A B -> J s B)
 (hY : ∀ pre x Wp W1, J pre Wp -> Below Wp.heap.size Wp W1 -> Wp.heap.size <= x.2.blk -> vv w.heap.size pre x W1 -> x = (pre.length, ⟨x.2.blk, c, rowOf xs c pre.length⟩) -> pre.length < r -> YieldAt Fence.wide (n - 1) Tryz.prog l (NR.enc x) W1 fun e W' => e = .returned (.bool true) /\ J (pre ++ [x]) W' /\ ed w.heap.size S W1 W')
 (h0 : J [] W) (hn : 1 <= n) :
 CallsIn Fence.wide n Tryz.prog 89 (#[.func (.yield l) #[] #[]] ++ #[.pointer (some ⟨g, 0, none⟩)]) W fun e W' => (∃ v, e = .returned v) /\ ∃ zs, vD r c xs zs /\ J zs W' := by
 have HG := H5 hg; clear hg;have HB := H5 hb; clear hb;have HL := H5 hl; clear hl;have HW := H5 hW; clear hW;have HY := H5 hY; clear hY;have HWL := H5 hS; clear hS;have g0 := (HG.out.below HW.out HG.out.lt).cell 0;refine callsIn_of_wp Tryz.func89 rfl trivial ?_ rfl;simp only [Tryz.ntmps89, List.size_toArray, Er, List.length_nil, Nat.reduceAdd, Nat.reduceSub, Array.replicate_succ, Array.replicate_zero, List.push_toArray, List.append_toArray, Dt, Dp];simp only [List.getElem?_cons_zero] at g0
 gi_wp2
 clear g0
 gi_loopw [6] (fun i wr => ∃ (k : Nat) (zs : List NR), k <= r /\ i = .int .i64 (k : Int) /\ Hid (zs.length = k /\ (∀ j (h : j < zs.length), zs[j] = (j, ⟨(zs[j]).2.blk, c, rowOf xs c j⟩)) /\ (∀ y ∈ zs, y.2.blk < wr.heap.size) /\ J zs wr /\ aU S w wr))
  (fun i _ => r - (intOf i).toNat)
 case atStart => exact ⟨0, [], Cx _, rfl, H5 ⟨rfl, fun j h => absurd h Cq, fun y h => absurd h Cq, h0, aU.bC HW.out⟩⟩
 case round =>
  obtain ⟨k, zs, hk, rfl, HI⟩ := hrel;by_cases hlt : k < r
  . have hlt' : (k : Int) < (r : Int) := by omega
    have g0 := (HI.out.2.2.2.2.row HG.out hgS).cell 0;have g1 := (HI.out.2.2.2.2.row HG.out hgS).cell 1;have g2 := (HI.out.2.2.2.2.row HG.out hgS).cell 2;simp only [List.getElem?_cons_zero, List.getElem?_cons_succ] at g0 g1 g2;obtain ⟨q, hq⟩ := Cs (k * c);have hq2 : (k + 1) * c = q + c := by rw [Dz, hq]
    have hq3 : q + c <= xs.length := by rw [<- hq2, HL.out]; exact Cy _ hlt
    have hxl : xs.length <= 10000000000 := by rw [HL.out]; exact Da hr hc
    have hw1 : wrap64 ((k : Int) * (c : Int)) = (q : Int) := by
     rw [<- Dq, hq]; unfold wrap64; omega
    have hw2 : wrap64 (((k : Int) + 1) * (c : Int)) = (q : Int) + (c : Int) := by
     have : ((k : Int) + 1) * (c : Int) = ((q + c : Nat) : Int) := by rw [<- hq2]; push_cast; rfl
     rw [this]; push_cast; unfold wrap64; omega
    have hpc : aQ wr 17592186044415 (some ⟨b, q * 2, none⟩) (rowOf xs c k) := by
     rw [<- hq]; exact aQ.piece (HI.out.2.2.2.2.zQ HWL.out HB.out hbS) _ hL k c
    have hrl : (rowOf xs c k).length = c := eh HL.out hlt;have HP := H5 hpc; clear hpc;have HQ := H5 hq; clear hq;have HQ2 := H5 hq2; clear hq2;have hle1 : (q : Int) + (c : Int) <= (xs.length : Int) := by omega
    have hle2 : (q : Int) <= (q : Int) + (c : Int) := by omega
    have hcap : xs.length - q ≠ 0 \/ c = 0 := by omega
    gi_wp2_with fail
    . refine ⟨trivial, ?_⟩;have hE := jt (some ⟨b, 0, none⟩) 0 (rowOf xs c k) wr (fun h => by rw [hrl] at h; omega) (by rw [hrl]; omega);rw [hrl] at hE;refine (callsIn_wide.2 hE).mono ?_;rintro e w3 ⟨⟨bn, rfl, hbn, hrow⟩, hb3⟩;have hs3 := hb3.size;have hJ3 : J zs w3 := hJ _ _ _ HI.out.2.2.2.1 hb3;have hlt3 : bn < w3.heap.size := hrow.lt;obtain ⟨fn, tmps, assign, body, hy, hR⟩ := HY.out zs (k, ⟨bn, c, rowOf xs c k⟩) wr w3 HI.out.2.2.2.1 hb3 hbn ⟨hrow, by have := HI.out.2.2.2.2.size; show w.heap.size <= bn; omega, fun y hy => by have := HI.out.2.2.1 y hy; show y.2.blk ≠ bn; omega⟩ (by rw [HI.out.1]) (by rw [HI.out.1]; exact hlt);simp only [NR.enc] at hy;rw [hrl] at hy;have HI3 : Hid (aU S w w3) := H5 (HI.out.2.2.2.2.below hb3);have HZ := H5 (Cv HI.out.1 (Cv HI.out.2.1 HI.out.2.2.1));have HB3 := H5 hb3;clear hb3 HI HP hrow hJ3 g0 g1 g2
      gi_wp2
      refine hR.mono ?_;rintro e W' ⟨rfl, hJ', hk'⟩;have HJ' := H5 hJ';have HK' := H5 hk';clear hJ' hk' hy hR
      gi_wp2
      go_roundw
      case rel =>
       refine ⟨k + 1, zs ++ [(k, ⟨bn, c, rowOf xs c k⟩)], by omega, by go_num, H5 ⟨by simp [HZ.out.1], fun j hj => ?_, fun y hy => ?_, HJ'.out, ?_⟩⟩
       . by_cases hjk : j < zs.length
         . rw [D9 hjk];exact HZ.out.2.1 j hjk
         . have hjl : j = zs.length := by simp at hj; omega
           subst hjl;simp [HZ.out.1]
       . have hsz := HK'.out.size;rcases List.mem_append.1 hy with hy | hy
         . have := HZ.out.2.2 y hy; have := HB3.out.size; omega
         . simp only [List.mem_singleton] at hy; subst hy; show bn < _; omega
       . exact ⟨HK'.out.os.trans HI3.out.os, HK'.out.tape.trans HI3.out.tape, HK'.out.output.trans HI3.out.output, Cw HI3.out.size HK'.out.size, fun i hi hs => (HK'.out.block i hi hs).trans (HI3.out.block i hi hs)⟩
      case measure => simp [intOf]; omega
    . refine ⟨trivial, ?_⟩;have hE := jt (some ⟨b, q * 2, none⟩) (xs.length - q) (rowOf xs c k) wr HP.out (by rw [hrl]; omega);rw [hrl] at hE;refine (callsIn_wide.2 hE).mono ?_;rintro e w3 ⟨⟨bn, rfl, hbn, hrow⟩, hb3⟩;have hs3 := hb3.size;have hJ3 : J zs w3 := hJ _ _ _ HI.out.2.2.2.1 hb3;have hlt3 : bn < w3.heap.size := hrow.lt;obtain ⟨fn, tmps, assign, body, hy, hR⟩ := HY.out zs (k, ⟨bn, c, rowOf xs c k⟩) wr w3 HI.out.2.2.2.1 hb3 hbn ⟨hrow, by have := HI.out.2.2.2.2.size; show w.heap.size <= bn; omega, fun y hy => by have := HI.out.2.2.1 y hy; show y.2.blk ≠ bn; omega⟩ (by rw [HI.out.1]) (by rw [HI.out.1]; exact hlt);simp only [NR.enc] at hy;rw [hrl] at hy;have HI3 : Hid (aU S w w3) := H5 (HI.out.2.2.2.2.below hb3);have HZ := H5 (Cv HI.out.1 (Cv HI.out.2.1 HI.out.2.2.1));have HB3 := H5 hb3;clear hb3 HI HP hrow hJ3 g0 g1 g2
      gi_wp2
      refine hR.mono ?_;rintro e W' ⟨rfl, hJ', hk'⟩;have HJ' := H5 hJ';have HK' := H5 hk';clear hJ' hk' hy hR
      gi_wp2
      go_roundw
      case rel =>
       refine ⟨k + 1, zs ++ [(k, ⟨bn, c, rowOf xs c k⟩)], by omega, by go_num, H5 ⟨by simp [HZ.out.1], fun j hj => ?_, fun y hy => ?_, HJ'.out, ?_⟩⟩
       . by_cases hjk : j < zs.length
         . rw [D9 hjk];exact HZ.out.2.1 j hjk
         . have hjl : j = zs.length := by simp at hj; omega
           subst hjl;simp [HZ.out.1]
       . have hsz := HK'.out.size;rcases List.mem_append.1 hy with hy | hy
         . have := HZ.out.2.2 y hy; have := HB3.out.size; omega
         . simp only [List.mem_singleton] at hy; subst hy; show bn < _; omega
       . exact ⟨HK'.out.os.trans HI3.out.os, HK'.out.tape.trans HI3.out.tape, HK'.out.output.trans HI3.out.output, Cw HI3.out.size HK'.out.size, fun i hi hs => (HK'.out.block i hi hs).trans (HI3.out.block i hi hs)⟩
      case measure => simp [intOf]; omega
  . obtain rfl : k = r := by omega
    gi_wp2
    go_end0
    exact ⟨⟨_, rfl⟩, zs, ⟨HI.out.1, HI.out.2.1⟩, HI.out.2.2.2.1⟩
theorem sy (n g b r c : Nat) (xs : List Int) (w : World) (S : Nat -> Prop) (hS : dX S w) (hg : aa w g 24 [.int .i64 (r : Int), .int .i64 (c : Int), .slice (some ⟨b, 0, none⟩) xs.length xs.length]) (hgS : ¬ S g) (hb : aO w b xs) (hbS : ¬ S b) (hl : xs.length = r * c) (hr : r <= 100000) (hc : c <= 100000)
 (hL : ∀ x ∈ xs, ag x.natAbs <= 17592186044415)
 (l : Nat) (J : List NR -> World -> Prop) (W : World) (hW : Below w.heap.size w W) (hJ : ∀ s A B, J s A -> Below A.heap.size A B -> J s B)
 (hY : ∀ pre x W1, J pre W1 -> vv w.heap.size pre x W1 -> pre.length < r -> YieldAt Fence.wide (n - 1) Tryz.prog l (NR.enc x) W1 fun e W' => e = .returned (.bool true) /\ J (pre ++ [x]) W' /\ ed w.heap.size S W1 W')
 (h0 : J [] W) (hn : 1 <= n) :
 CallsIn Fence.wide n Tryz.prog 89 (#[.func (.yield l) #[] #[]] ++ #[.pointer (some ⟨g, 0, none⟩)]) W fun e W' => (∃ v, e = .returned v) /\ ∃ zs, vD r c xs zs /\ J zs W' :=
 kN n g b r c xs w S hS hg hgS hb hbS hl hr hc hL l J W hW hJ (fun pre x Wp W1 hj hb _ hx _ hl => hY pre x W1 (hJ _ _ _ hj hb) hx hl) h0 hn
end Go.Proofs.YtjjlmfmoihooiaaGreat
namespace Go.Proofs.YtjjlmfmoihooiaaGreat
def au (xs : List Int) (r c i j : Nat) : Int := if i < r /\ j < c then xs.getD (i * c + j) 0 else 0
theorem cZ {r c i j : Nat} (hi : i < r) (hj : j < c) : i * c + j < r * c := by
 have h1 : (i + 1) * c <= r * c := Cy _ hi;have h2 : (i + 1) * c = i * c + c := Dz i c;omega
theorem yL {r c n : Nat} (h : n < r * c) : ∃ i j, i < r /\ j < c /\ n = i * c + j := by
 have hc : 0 < c := by
  rcases Dn c with h0 | h0
  . subst h0; simp at h
  . exact h0
 exact ⟨n / c, n % c, (Dj hc).2 h, Dm _ hc, by have := Ds n c; rw [CE] at this; omega⟩
theorem bE {xs : List Int} {r c i j : Nat} (hi : i < r) (hj : j < c) : au xs r c i j = xs.getD (i * c + j) 0 := by
 unfold au; rw [if_pos ⟨hi, hj⟩]
theorem jy {xs : List Int} {r c i : Nat} (hi : r <= i) (j : Nat) : au xs r c i j = 0 := by
 unfold au; rw [if_neg Cp]
theorem gI {xs : List Int} {r c j : Nat} (i : Nat) (hj : c <= j) : au xs r c i j = 0 := by
 unfold au; rw [if_neg Cp]
theorem yi {xs ys : List Int} {r c : Nat} (hx : xs.length = r * c) (hy : ys.length = r * c) (h : ∀ i j, i < r -> j < c -> au xs r c i j = au ys r c i j) : xs = ys := by
 refine Dx Cp fun n h1 h2 => ?_;obtain ⟨i, j, hi, hj, e⟩ := yL (by omega : n < r * c);have := h i j hi hj;rw [bE hi hj, bE hi hj, <- e, ix _ _ h1, ix _ _ h2] at this;exact this
theorem iS {xs : List Int} {r c B : Nat} (hB : 0 < B) (h : ∀ x ∈ xs, x.natAbs < B) (i j : Nat) : (au xs r c i j).natAbs < B := by
 unfold au;split
 . by_cases hl : i * c + j < xs.length
   . rw [ix _ _ hl]; exact h _ (Cu _)
   . rw [fI _ _ Cp]; simpa using hB
 . simpa using hB
theorem nS {xs : List Int} {r c B : Nat} (hx : xs.length = r * c) (h : ∀ i j, i < r -> j < c -> (au xs r c i j).natAbs < B) : ∀ x ∈ xs, x.natAbs < B := by
 intro x hm;obtain ⟨n, hn, rfl⟩ := Dh hm;obtain ⟨i, j, hi, hj, e⟩ := yL (by omega : n < r * c);have := h i j hi hj;rw [bE hi hj, <- e, ix _ _ hn] at this;exact this
theorem kz (xs : List Int) (c k j : Nat) (hj : j < c) : (rowOf xs c k).getD j 0 = xs.getD (k * c + j) 0 := by
 unfold rowOf;simp [hj]
theorem kP : ∀ (xss : List (List Int)) (c : Nat), (∀ x ∈ xss, x.length = c) -> ∀ i j, (hi : i < xss.length) -> j < c -> xss.flatten.getD (i * c + j) 0 = (xss[i]).getD j 0
 | [], c, h, i, j, hi, hj => by simp at hi
 | x :: xss, c, h, 0, j, hi, hj => by
  have hx := h x (CC ..);rw [List.flatten_cons, Fg, Db, List.getElem_cons_zero];rw [ix _ _ (by rw [CQ]; omega), ix _ _ Cp, D9]
 | x :: xss, c, h, i + 1, j, hi, hj => by
  have hx := h x (CC ..);rw [List.flatten_cons, List.getElem_cons_succ, <- kP xss c (fun y hy => h y (CB _ hy)) i j (by simpa using hi) hj];have e : (i + 1) * c + j = x.length + (i * c + j) := by rw [Dz, hx]; omega
  rw [e, List.getD_eq_getElem?_getD, List.getElem?_append_right Cp, List.getD_eq_getElem?_getD];congr 2; omega
structure kX (r c : Nat) (xs hs : List Int) (k : Nat) (l : Nat -> Nat) : Prop where
 len : hs.length = r * c
 kr : k <= r
 herm : eo k c (au hs r c) l
 zero : ∀ i, k <= i -> ∀ b, au hs r c i b = 0
 sp : bc r (au xs r c) k (au hs r c)
theorem kX.unique {r c : Nat} {xs hs hs' : List Int} {k k' : Nat} {l l' : Nat -> Nat} (h : kX r c xs hs k l) (h' : kX r c xs hs' k' l') : hs = hs' /\ k = k' /\ ∀ i, i < k -> l i = l' i := by
 obtain ⟨h1, h2, h3⟩ := h.herm.unique h'.herm (h.sp.symm.trans h'.sp);refine ⟨yi h.len h'.len fun i j hi hj => ?_, h1, h2⟩;by_cases hk : i < k
 . exact h3 i hk j
 . rw [h.zero i Cp, h'.zero i Cp]
theorem si {R : List Hd} {xs : List Int} {r c : Nat} (hl : R.length = r) (hx : xs.length = r * c) (h : ∀ k (hk : k < R.length), R[k].xs = rowOf xs c k) : Sh c R /\ ∀ i j, az R i j = au xs r c i j := by
 have hlen : ∀ k, k < r -> (rowOf xs c k).length = c := fun k hk => by
  have := cZ (c := c + 1) hk (Dw c);unfold rowOf;have h1 : (k + 1) * c <= r * c := Cy _ hk;have h2 : (k + 1) * c = k * c + c := Dz k c;simp [hx]; omega
 have hsh : Sh c R := fun q hq => by
  obtain ⟨k, hk, rfl⟩ := Dh hq;rw [h k hk]; exact hlen k Cp
 refine ⟨hsh, fun i j => ?_⟩;by_cases hi : i < r
 . by_cases hj : j < c
   . rw [cJ Cp, h i Cp, kz _ _ _ _ hj, bE hi hj]
   . rw [hsh.wide i Cp, gI _ Cp]
 . rw [eY Cp, jy Cp]
theorem oQ {R : List Hd} {r c : Nat} (hl : R.length = r) (hs : Sh c R) : (R.map Hd.xs).flatten.length = r * c /\ ∀ i j, au (R.map Hd.xs).flatten r c i j = az R i j := by
 have hc : ∀ x ∈ R.map Hd.xs, x.length = c := fun x hx => by
  obtain ⟨q, hq, rfl⟩ := List.mem_map.1 hx; exact hs q hq
 refine ⟨?_, fun i j => ?_⟩
 . have : ∀ (xss : List (List Int)), (∀ x ∈ xss, x.length = c) -> xss.flatten.length = xss.length * c := by
    intro xss;induction xss with
    | nil => intro _; simp
    | cons x xs ih =>
     intro h;rw [List.flatten_cons, CQ, ih (fun y hy => h y (CB _ hy)), h x (CC ..), Er, Dz]; omega
   rw [this _ hc, List.length_map, hl]
 . by_cases hi : i < r
   . by_cases hj : j < c
     . rw [bE hi hj, kP _ c hc i j (by simp; omega) hj, ED, cJ Cp]
     . rw [hs.wide i Cp, gI _ Cp]
   . rw [eY Cp, jy Cp]
theorem bc.left {n m : Nat} {E E' F : Nat -> Nat -> Int} (h : bc n E m F) (e : ∀ i j, E' i j = E i j) : bc n E' m F :=
 (bc.of_eq (fun k _ j => e k j)).trans h
theorem bc.right {n m : Nat} {E F F' : Nat -> Nat -> Int} (h : bc n E m F) (e : ∀ i j, F' i j = F i j) : bc n E m F' :=
 h.trans (bc.of_eq (fun k _ j => (e k j).symm))
theorem BL {R R' : List Hd} {xs : List Int} {r c D k : Nat} (hl : R.length = r) (he : ∀ i j, az R i j = au xs r c i j) (h : rH c D R k R') : ∃ l, kX r c xs (R'.map Hd.xs).flatten k l /\ ∀ x ∈ (R'.map Hd.xs).flatten, x.natAbs < W ^ D := by
 obtain ⟨l, hH⟩ := h.herm;have hm := oQ (h.len.trans hl) h.sh;refine ⟨l, ⟨hm.1, hl ▸ h.kl, hH.congr (fun a _ b => hm.2 a b), fun i hi b => (hm.2 i b).trans (h.zero i hi b), ?_⟩, nS hm.1 (fun i j _ _ => by rw [hm.2]; exact h.bd i j)⟩;have := h.sp;rw [hl] at this;exact (this.left (fun i j => (he i j).symm)).right hm.2
end Go.Proofs.YtjjlmfmoihooiaaGreat
