/- Part 5 of 8 of the proof that the law ModhnfRoads returns true for every input of bulk at most 1048576 and leaves its arguments as they were. -/
import Derived.Deep.RegionLaw
import Derived.Maps.AppendAt
import Derived.Deep.Onto
import Derived.Deep.AppendSrc
import Derived.Deep.Upon
import Derived.Test.YtjjlmfmoihooiaaGreatRoA
import Derived.Test.YtjjlmfmoihooiaaGreatRoB
import Derived.Test.YtjjlmfmoihooiaaGreatRoC
import Derived.Test.YtjjlmfmoihooiaaGreatRoD
set_option linter.all false
set_option maxRecDepth 100000
set_option maxHeartbeats 4000000
namespace Go.Proofs.YtjjlmfmoihooiaaGreat
open Go.RowKit
attribute [local go_sem] Oper.semAt_some
theorem tj {w : World} {l : Nat} {o o' : Obj} (hl : w.heap[l]? = some o) (hn : o.isCells = false) {p : Addr} {v : Value} (h : w.cell? p = some v) : (w.putObj l o').cell? p = some v := by
 by_cases e : p.block = l
 . exfalso;unfold World.cell? at h;rw [e, hl] at h;cases o <;> simp_all [Obj.isCells]
 . exact (World.cell?_of_block (World.putObj_heap_other e)).trans h
theorem gx {w : World} {l : Nat} {o o' : Obj} (hl : w.heap[l]? = some o) (hn : o.isCells = false) {b : Nat} {t : TypeId} {cs : List Value} (h : aa w b t cs) : aa (w.putObj l o') b t cs := by
 by_cases e : b = l
 . exfalso;unfold aa at h;rw [e, hl] at h;injection h with h
   subst h;simp [Obj.isCells] at hn
 . unfold aa at *;rw [World.putObj_heap_other e]; exact h
theorem sS (w : World) (l : Nat) (o : Obj) : (w.putObj l o).heap.size = w.heap.size := by simp
theorem tY {w : World} {l : Nat} {o o' : Obj} (hl : w.heap[l]? = some o) (hn : o.isCells = false) {ao : Option Addr} {ws : List Nat} (h : cX w ao ws) : cX (w.putObj l o') ao ws := by
 refine ⟨h.1, fun hp => ?_⟩;obtain ⟨b, q, e, hb, hc⟩ := h.2 hp;exact ⟨b, q, e, by rw [sS]; exact hb, fun i hi => tj hl hn (hc i hi)⟩
theorem tv {w : World} {l : Nat} {o o' : Obj} (hl : w.heap[l]? = some o) (hn : o.isCells = false) {L : Nat} {v : Value} {x : Int} (h : ah w L v x) : ah (w.putObj l o') L v x := by
 obtain ⟨n, ao, len, cap, ws, e, hW, r⟩ := h;exact ⟨n, ao, len, cap, ws, e, tY hl hn hW, r⟩
theorem jr {w : World} {l : Nat} {o o' : Obj} (hl : w.heap[l]? = some o) (hn : o.isCells = false) {b : Nat} {xs : List Int} (h : aO w b xs) : aO (w.putObj l o') b xs := by
 obtain ⟨ps, tl, nt, hr, hl', hN⟩ := h;exact ⟨ps, tl, nt, gx hl hn hr, hl', fun i h1 h2 => ⟨tv hl hn (hN i h1 h2).1, (hN i h1 h2).2⟩⟩
theorem rj : (Tryz.prog.info? 22).map (fun i => (i.zero, i.size, i.bytes)) = some (some (.slice none 0 0), 1, 24) := by kernel_rfl
def fL (r : Nat) (zs : List NR) : List Value := zs.map (fun z => z.2.dA) ++ List.replicate (r - zs.length) (.slice none 0 0)
structure xe (w : World) (B g o r : Nat) (zs : List NR) (W : World) : Prop where
 box : aa W g 70 [.slice (some ⟨o, 0, none⟩) zs.length r]
 row : aa W o 22 (fL r zs)
 nums : ∀ z ∈ zs, aO W z.2.blk z.2.xs /\ B <= z.2.blk
 nd : (zs.map (fun z => z.2.blk)).Nodup
 r9 : aU (fun k => k = g \/ k = o) w W
theorem qO {F : Fence} {n : Nat} {P : Program} {w : World} {ops : Array Oper} {rest : List Oper} {o : Oper} {a : Act} {Q : Exit -> Act -> World -> Prop}
 (hg : o.guard = none) (s x : Operand) (t : TypeId) (hop : o.op = Op.call { callee := Callee.builtin Builtin.append, args := #[s, x], argTypes := #[t, t] })
 (e : TypeId) (z : Value) (size bytes : Nat) (h1 : P.underlying t = some (.slice e)) (h2 : (P.info? e).map (fun i => (i.zero, i.size, i.bytes)) = some (some z, size, bytes))
 (b off sLen sCap : Nat) (ad : Addr) (m c : Nat) (news : List Value) (hs : a.eval s = .slice (some ⟨b, off, none⟩) sLen sCap) (hx : a.eval x = .slice (some ad) m c)
 (hl : news.length = m * size) (hnews : ∀ j u, news[j]? = some u -> w.cell? (ad.add j) = some u) (h1c : ∀ u ∈ news, u.oneCell' = true) (hroom : sLen + m <= sCap)
 (hc : ∀ j, j < news.length -> (w.cell? ⟨b, off + sLen * size + j, none⟩).isSome = true) (hf : ∀ j, j < news.length -> w.frozen? ⟨b, off + sLen * size + j, none⟩ = false)
 (hK : wpListIn F n P ops Q rest (a.put o.dst (.slice (some ⟨b, off, none⟩) (sLen + m) sCap)) (w.setCells b (off + sLen * size) news)) :
 wpListIn F n P ops Q (o :: rest) a w := by
 refine wpListIn_plain hg fun K hK' => ?_;obtain ⟨i, hi, hz, hsz, hb⟩ := info_parts h2;subst hsz;have hrun := run_append_room_cells (P := P) (w := w) t o.type e i h1 hi b off sLen sCap ad m c news hl hnews h1c hroom hc hf;unfold Oper.wpIn;refine ⟨?_, ?_⟩
 . simp [Oper.about, hop, resolve, Target.leads, Sem.run_pure]
 . rw [Oper.semAt_plain F _ _ (by rw [hop]; intro c hc'; cases hc')];simp [execOp, hop, resolve, invoke, builtin, hs, hx, hrun, Result.andThen];exact hK' _ _ hK
theorem wM (n : Nat) : (madeCells (Value.slice none 0 0).cells (n * 1)).toList = List.replicate n (.slice none 0 0) := by
 rw [fB _ rfl]
theorem zV {w : World} {ops : Array Oper} {rest : List Oper} {o : Oper} {a : Act} {Q : Exit -> Act -> World -> Prop}
 (hg : o.guard = none) (l c : Operand) (hop : o.op = Op.makeSlice 70 l c)
 {kl kc : IntKind} {L C : Int} (n m : Nat) (hl : a.eval l = .int kl L) (hc : a.eval c = .int kc C) (hL : L = (n : Int)) (hC : C = (m : Int)) (hnm : n <= m) (b2 : m <= 1000000)
 (hK : ∀ b w', Made w w' b 22 (List.replicate m (.slice none 0 0)) -> wpList Tryz.prog ops Q rest (a.put o.dst (.slice (some ⟨b, 0, none⟩) n m)) w') :
 wpList Tryz.prog ops Q (o :: rest) a w :=
 eB hg l c 70 hop 22 (.slice none 0 0) 1 24 Tryz.underlying70 rj n m hl hc hL hC hnm Cp (by unfold maxLen; omega)
  (fun b w' h => hK b w' (by rw [wM] at h; exact h))
theorem Ah (r c : Nat) (ao : Option Addr) (len cap : Nat) (xs : List Int) (w : World) (hr : r <= 64) (hc : c <= 64) (h : aQ w 17592186044415 ao xs) (hL : ∀ x ∈ xs, ag x.natAbs <= 17592186044415) (hl : len = xs.length) (hs : xs.length = r * c) :
 CallsIn Fence.wide 6 Tryz.prog 42 #[.agg #[.int .i64 (r : Int), .int .i64 (c : Int), .slice ao len cap]] w fun e w' => (∃ o R, e = .returned (.slice (some ⟨o, 0, none⟩) R.length r) /\ eA w' o R /\ R.length = r /\ (∀ k (h : k < R.length), R[k].xs = rowOf xs c k) /\ w.heap.size <= o /\ (∀ x ∈ R, w.heap.size <= x.blk) /\ aa w' o 22 (R.map Hd.dA) /\ ∀ k (h : k < R.length), R[k].cap = c) /\ Below w.heap.size w w' := by
 subst hl;have HX := H5 h; clear h;have HS := H5 hs; clear hs;refine callsIn_of_wp_marks Tryz.func42 rfl trivial ?_ rfl;simp only [Tryz.ntmps42, List.size_toArray, Er, List.length_nil, Nat.reduceAdd, Nat.reduceSub, Array.replicate_succ, Array.replicate_zero, List.push_toArray, List.append_toArray, Dt, Dp];refine wpIn_wide.2 ?_;have hb0 : Below w.heap.size w (w.alloc (.cells #[.int .i64 (r : Int), .int .i64 (c : Int), .slice ao xs.length cap] 24)) := (Below.refl _ _).alloc (Ct _) _;have hr0 := aa.new w #[.int .i64 (r : Int), .int .i64 (c : Int), .slice ao xs.length cap] 24;have HB0 := H5 hb0; clear hb0;have HR0 := H5 hr0; clear hr0;go_wp2_with (at_make; refine zV rfl _ _ rfl 0 r rfl rfl rfl rfl (Cx _) Cp ?_; intro o w1 hm1; have hr1 := (HR0.out.below hm1.below HR0.out.lt).alloc (.cells #[.slice (some ⟨o, 0, none⟩) 0 r] 70); have c0 := hr1.cell 0; have c1 := hr1.cell 1; have c2 := hr1.cell 2; have hm := H5 hm1; clear hm1 hr1; simp only [List.getElem?_cons_zero, List.getElem?_cons_succ] at c0 c1 c2)
 have hr2 := hm.out.row.alloc (.cells #[.slice (some ⟨o, 0, none⟩) 0 r] 70);have hr3 := aa.new w1 #[.slice (some ⟨o, 0, none⟩) 0 r] 70;have hb2 : Below w.heap.size w (w1.alloc (.cells #[.slice (some ⟨o, 0, none⟩) 0 r] 70)) := (HB0.out.trans (hm.out.below.mono HB0.out.size)).alloc (by have := HB0.out.size; have := hm.out.below.size; omega) _;have hg1 : w.heap.size < w1.heap.size := CK HR0.out.lt hm.out.below.size;have ho1 : w.heap.size < o /\ o < w1.heap.size := by
  have h1 := hm.out.at_;have h2 := HR0.out.lt;have h3 := hm.out.size;omega
 generalize hw2 : w1.alloc (.cells #[.slice (some ⟨o, 0, none⟩) 0 r] 70) = w2 at *;have hs2 : w2.heap.size = w1.heap.size + 1 := by rw [<- hw2]; simp
 have HR2 := H5 hr2; clear hr2;have HR3 := H5 hr3; clear hr3;have HB2 := H5 hb2; clear hb2;clear hm hw2 HB0 HR0 c0 c1 c2;have hsnd : ba (r : Int) (c : Int) xs.length = true := by
  unfold ba bL;rw [HS.out];simp; omega
 refine (sU (r : Int) (c : Int) ao xs.length cap xs w2 Cp Cp (HX.out.below HB2.out) rfl hsnd (by rw [HS.out]; have := Da hr hc; omega)).mono ?_;rintro e w3 ⟨⟨g, b, rfl, hg, hb, hRg, hRb⟩, hb3⟩;have hs3 := hb3.size;have HG := H5 hRg; clear hRg;have HRB := H5 hRb; clear hRb;have HR2' := H5 (HR2.out.below hb3 HR2.out.lt);have HR3' := H5 (HR3.out.below hb3 HR3.out.lt);have HB3 : Hid (Below w.heap.size w w3) := H5 (HB2.out.trans (hb3.mono HB2.out.size));clear hb3 HR2 HR3 HB2;go_wp2_with fail
 refine (wpIn_wide (n := 6)).1 ?_;have hne : w1.heap.size ≠ o := by omega
 have hI0 : xe w3 w3.heap.size w1.heap.size o r [] w3 := ⟨HR3'.out, by simpa [fL] using HR2'.out, fun z hz => by simp at hz, by simp, aU.refl _ _⟩;have HI0 := H5 hI0; clear hI0;refine tU (S := fun k => k = w1.heap.size \/ k = o) (N := r) (Sx := vD r c xs) (E := vv w3.heap.size) (I := xe w3 w3.heap.size w1.heap.size o r) (gf := 89) (lb := #[.pointer (some ⟨g, 0, none⟩)]) (encs := NR.enc) rfl (enters_of Tryz.func89 (by kernel_rfl) rfl) (fun _ => rfl) ?hE ?hIl ?hIb HI0.out
  (fun x => { tmps := #[.agg #[.int .i64 (r : Int), .int .i64 (c : Int), .slice ao xs.length cap], .pointer (some ⟨w.heap.size, 0, none⟩), .slice none 0 0, .pointer (some ⟨w1.heap.size, 0, none⟩), undef, .slice (some ⟨x.2.blk, 0, none⟩) x.2.xs.length x.2.cap, .pointer (some ⟨w.heap.size, 0, none⟩), .int .i64 (r : Int), .slice (some ⟨o, 0, none⟩) 0 r, .agg #[.int .i64 (r : Int), .int .i64 (c : Int), .slice ao xs.length cap], .func (.func 89) #[] #[.pointer (some ⟨g, 0, none⟩)], .int .i64 (x.1 : Int), .slice (some ⟨x.2.blk, 0, none⟩) x.2.xs.length x.2.cap, undef, undef, undef, undef, undef], defers := [] })
  ?hseq ?assign ?body ?done
 case hE =>
  intro s x W l o1 o2 h hl ho hn;exact ⟨jr ho hn h.1, h.2⟩
 case hIl =>
  intro s W l o1 o2 h hl ho hn;exact ⟨gx ho hn h.box, gx ho hn h.row, fun z hz => ⟨jr ho hn (h.nums z hz).1, (h.nums z hz).2⟩, h.nd, ⟨h.r9.os, h.r9.tape, h.r9.output, by have := h.r9.size; simpa using this, fun k hk hs => (World.putObj_heap_other Cp).trans (h.r9.block k hk hs)⟩⟩
 case hIb =>
  intro s A B h hb;exact ⟨h.box.below hb h.box.lt, h.row.below hb h.row.lt, fun z hz => ⟨(h.nums z hz).1.below hb, (h.nums z hz).2⟩, h.nd, h.r9.below hb⟩
 case hseq =>
  intro l J W hW hJ hY hJ0;refine (sy 5 g b r c xs w3 (fun k => k = w1.heap.size \/ k = o) ?_ HG.out Cp HRB.out Cp HS.out Cp Cp hL l J W hW hJ hY hJ0 Cp);rintro q (rfl | rfl)
  . exact ⟨_, _, HR3'.out, aN.slice aN.nil⟩
  . exact ⟨_, _, HR2'.out, fun v hv n => by simp at hv; simp [hv.2]⟩
 case assign =>
  intro l x W K hK;simp only [NR.enc]
  gi_wp2
  exact hK
 case body =>
  rintro l pre x W hI hE hlen;have hoW := hI.row.lt;have hbW := hI.box.lt;have hlenR : (fL r pre).length = r := by simp [fL]; omega
  have hA : ∀ X : Obj, aa (W.alloc X) o 22 (fL r pre) := fun X => hI.row.alloc X;have hAb : ∀ X : Obj, aa (W.alloc X) w1.heap.size 70 [.slice (some ⟨o, 0, none⟩) pre.length r] := fun X => hI.box.alloc X;have c0 : W.cell? ⟨w1.heap.size, 0, none⟩ = some (.slice (some ⟨o, 0, none⟩) pre.length r) := hI.box.cell 0;have f0 : W.frozen? ⟨w1.heap.size, 0, none⟩ = false := hI.box.free 0;have HI := H5 hI; clear hI;have HE := H5 hE; clear hE
  gi_wp2_with (gi_at_builtin; refine qO rfl _ _ 70 rfl 22 (.slice none 0 0) 1 24 Tryz.underlying70 rj o 0 pre.length r ⟨W.heap.size, 0, none⟩ 1 1 [x.2.dA] rfl rfl rfl (cell_one_new _ _ _) (by simp [Value.oneCell', Hd.dA]) Cp (fun j hj => by simp at hj; subst hj; rw [(hA _).cell]; simp [hlenR, hlen]) (fun j hj => by simp at hj; subst hj; exact (hA _).free _) ?_; simp only [Db, Ee, World.setCells]; have hrW := (hA (.cells #[x.2.dA] 22)).set pre.length x.2.dA; have hrB := (hAb (.cells #[x.2.dA] 22)).other (p := ⟨o, pre.length, none⟩) hne x.2.dA; skip)
  have hI := HI.out;have hE := HE.out;have hsw := hI.r9.size;have hrW' := hI.row.set pre.length x.2.dA;have hrB' := hI.box.other (p := ⟨o, pre.length, none⟩) hne x.2.dA;have hNo : aN (fL r pre) := fun v hv n => by
   simp only [fL, List.mem_append, List.mem_map, List.mem_replicate] at hv;rcases hv with ⟨z, _, rfl⟩ | ⟨_, rfl⟩ <;> simp [Hd.dA]
  obtain ⟨Wf, hWf⟩ := Cs ((W.setCell ⟨o, pre.length, none⟩ x.2.dA).setCell ⟨w1.heap.size, 0, none⟩ (.slice (some ⟨o, 0, none⟩) (pre.length + 1) r));rw [hWf];have hsf : Wf.heap.size = W.heap.size := by rw [<- hWf]; simp
  have hbl : Below Wf.heap.size Wf (Wf.alloc (.cells #[.slice (some ⟨x.2.blk, 0, none⟩) x.2.xs.length x.2.cap] 22)) := (Below.refl _ _).alloc (Ct _) _;have hnum : ∀ y : NR, aO W y.2.blk y.2.xs -> aO Wf y.2.blk y.2.xs := by
   intro y hy;rw [<- hWf];exact (hy.kK hI.row Cr hNo pre.length x.2.dA).kK hrB' Cr (aN.slice aN.nil) 0 _
  refine ⟨?_, ?_, ?_⟩
  . rw [<- hWf]; exact ((KeepsOthers.setCell _ _ _).trans (KeepsOthers.setCell _ _ _)).trans (KeepsOthers.alloc _ _)
  . refine ed.trans (b := Wf) ?_ (ed.bC (hbl.mono Cp));rw [<- hWf];refine ⟨rfl, rfl, rfl, by simp, fun k hk hs => ?_⟩;exact (Below.heap_setCell _ _ _ _ (fun e => hs (.inl e))).trans (Below.heap_setCell _ _ _ _ (fun e => hs (.inr e)))
  . have hbx : aa Wf w1.heap.size 70 [.slice (some ⟨o, 0, none⟩) (pre.length + 1) r] := by
     rw [<- hWf]; exact hrB'.set 0 (.slice (some ⟨o, 0, none⟩) (pre.length + 1) r)
    have hrw : aa Wf o 22 (fL r (pre ++ [x])) := by
     have h1 := hrW'.other (p := ⟨w1.heap.size, 0, none⟩) (fun e => hne e.symm) (.slice (some ⟨o, 0, none⟩) (pre.length + 1) r);have e : (fL r pre).set pre.length x.2.dA = fL r (pre ++ [x]) := by
      unfold fL;obtain ⟨q, hq⟩ : ∃ q, r - pre.length = q + 1 := ⟨r - pre.length - 1, by omega⟩;have hq2 : r - (pre ++ [x]).length = q := by simp; omega
      rw [hq, hq2, List.replicate_succ, D8 _ _ Cq];simp
     rw [<- e, <- hWf]; exact h1
    refine ⟨?_, hrw.below hbl hrw.lt, ?_, ?_, ?_⟩
    . have := hbx.below hbl hbx.lt;simpa using this
    . intro z hz;rcases List.mem_append.1 hz with hz | hz
      . exact ⟨(hnum z (hI.nums z hz).1).below hbl, (hI.nums z hz).2⟩
      . simp only [List.mem_singleton] at hz; subst hz;exact ⟨(hnum z hE.1).below hbl, hE.2.1⟩
    . rw [List.map_append, List.nodup_append];refine ⟨hI.nd, by simp, fun u hu v hv => ?_⟩;simp only [List.map_cons, List.map_nil, List.mem_singleton] at hv;obtain ⟨y, hy, rfl⟩ := List.mem_map.1 hu;subst hv;exact hE.2.2 y hy
    . refine aU.below ?_ hbl;rw [<- hWf];exact (hI.r9.set (p := ⟨o, pre.length, none⟩) (.inr rfl) _).set (p := ⟨w1.heap.size, 0, none⟩) (.inl rfl) _
 case done =>
  rintro D zs W hD hS hI hK;have hl : zs.length = r := hS.1;have c0 : W.cell? ⟨w1.heap.size, 0, none⟩ = some (.slice (some ⟨o, 0, none⟩) zs.length r) := hI.box.cell 0;have HI := H5 hI; clear hI;simp only [Exit.inBlock];go_wp2;refine ⟨by simp, .inl ⟨_, _, rfl, run_takeDeferred hK, ?_⟩⟩;refine ⟨_, results_tmp rfl _ _ _, ?_⟩;have hI := HI.out;have hS2 := hS.2;have hrow : aa W o 22 (zs.map (fun z => z.2.dA)) := by
   have := hI.row;unfold fL at this;rw [hl, Nat.sub_self] at this;simpa using this
  refine ⟨⟨o, zs.map (fun z => z.2), ?_, ⟨?_, ?_, ?_⟩, by simp [hl], ?_, by omega, ?_, by rw [List.map_map]; exact gx hK rfl hrow, fun k hk => by rw [ED, hS2 k (by simpa using hk)]⟩, ?_⟩
  . simp [hl]
  . rw [List.map_map]; exact (gx hK rfl hrow).pre
  . intro h hh;obtain ⟨z, hz, rfl⟩ := List.mem_map.1 hh;exact jr hK rfl (hI.nums z hz).1
  . rw [List.map_map]; exact hI.nd
  . intro k hk;have hk' : k < zs.length := by simpa using hk
    have := hS2 k hk';rw [ED, this]
  . intro x hx;obtain ⟨z, hz, rfl⟩ := List.mem_map.1 hx;have := (hI.nums z hz).2;have := HB3.out.size;omega
  . refine HB3.out.trans ?_;refine (hI.r9.nX (B := w.heap.size) ?_ HB3.out.size).trans ⟨rfl, rfl, rfl, by simp, fun k hk => World.putObj_heap_other (by have := HB3.out.size; omega)⟩;rintro k (rfl | rfl) <;> omega
theorem vj (r c : Nat) (ao : Option Addr) (len cap : Nat) (xs : List Int) (w : World) (hr : r <= 64) (hc : c <= 64) (h : aQ w 17592186044415 ao xs) (hL : ∀ x ∈ xs, ag x.natAbs <= 17592186044415) (hl : len = xs.length) (hs : xs.length = r * c) :
 CallsIn Fence.wide 6 Tryz.prog 42 #[.agg #[.int .i64 (r : Int), .int .i64 (c : Int), .slice ao len cap]] w fun e w' => (∃ o R, e = .returned (.slice (some ⟨o, 0, none⟩) R.length r) /\ eA w' o R /\ R.length = r /\ (∀ k (h : k < R.length), R[k].xs = rowOf xs c k) /\ w.heap.size <= o /\ (∀ x ∈ R, w.heap.size <= x.blk)) /\ Below w.heap.size w w' :=
 (Ah r c ao len cap xs w hr hc h hL hl hs).mono (fun e w' ⟨⟨o, R, h1, h2, h3, h4, h5, h6, _⟩, hb⟩ => ⟨⟨o, R, h1, h2, h3, h4, h5, h6⟩, hb⟩)
theorem wm (o cap B c k : Nat) (R R' : List Hd) (w : World) (h : eA w o R) (hB : B <= 4000000000000) (hP : mK B c 0 R.length R k R') (hR : R.length <= 100000) (hc : c <= 1000000) :
 Calls Tryz.prog 41 #[.slice (some ⟨o, 0, none⟩) R.length cap] w fun e w' => e = .returned (.tuple #[.slice (some ⟨o, 0, none⟩) R'.length cap, .int .i64 (k : Int)]) /\ eA w' o R' /\ aU (fun q => q = o \/ ∃ r ∈ R, r.blk = q) w w' := by
 have HM := H5 h; clear h;have HP := H5 hP; clear hP;go_enter Tryz.func41, Tryz.ntmps41;go_wp2_with fail
 refine (New_c o cap R _ HM.out).mono ?_;rintro e w2 ⟨⟨lb, sb, g, rfl, hL, h1, h2, h3⟩, hb2⟩;have HL := H5 hL; clear hL;have HB2 := H5 hb2; clear hb2;go_wp2_with fail
 refine (xN ⟨lb, o, sb, g, cap, R, none⟩ B c k R' _ HL.out hB HP.out hR hc (fun t h => by cases h)).mono ?_;rintro e w3 ⟨rfl, hL3, hC3⟩;have L3 := H5 hL3;have C3 : Hid (aU (fun q => q = o \/ ∃ r ∈ R, r.blk = q) w w3) := H5 ((aU.bC HB2.out).trans (hC3.mono (fun q _ e => by rcases e with e | ⟨t, ht, _⟩; exact e; cases ht)));have cb : w3.cell? ⟨lb, 0, none⟩ = some (.slice (some ⟨o, 0, none⟩) R'.length cap) := L3.out.lad.cell 0;clear hL3 hC3;go_wp2;refine bodyPost_ret (results_tmp2 (t := 2) (u := 3) (by kernel_rfl) _ _ _) rfl ?_;exact ⟨rfl, L3.out.dU, C3.out⟩
theorem rf {fn : Func} {p : Tmp} (h : fn.results = #[.cell p 24]) (tmps : Array Value) (w : World) (g : Nat) (a b c : Value) (hp : tmps.getD p undef = .pointer (some ⟨g, 0, none⟩)) (hr : aa w g 24 [a, b, c]) :
 (results fn tmps).run Tryz.prog w = .ok (.agg #[a, b, c]) w :=
 results_cell_row h tmps w g 24 #[a, b, c] (0, 0) _ hp hr Tryz.underlying24 rfl (by kernel_rfl)
structure x7 (w : World) (L o : Nat) (xss : List (List Int)) : Prop where
 lt : o < w.heap.size
 row : ∀ i (h : i < xss.length), ∃ ao cap, w.cell? ⟨o, i, none⟩ = some (.slice ao xss[i].length cap) /\ aQ w L ao xss[i]
structure oE (w : World) (b m n c N : Nat) (cu : List Int) (W : World) : Prop where
 box : aa W m 24 [.int .i64 (n : Int), .int .i64 (c : Int), .slice (some ⟨b, 0, none⟩) cu.length N]
 row : aO W b (cu ++ List.replicate (N - cu.length) 0)
 res : aa W w.heap.size 24 [.int .i64 0, .int .i64 0, .slice none 0 0]
 bel : Below w.heap.size w W
theorem oE.app {w : World} {b m n c N k : Nat} {cu : List Int} {W : World} (h : oE w b m n c N cu W) (hb : w.heap.size < b /\ b < m) (hk : cu.length = k) (hkN : k + 1 <= N) {p : P4} {x : Int} (hx : aL W (av p) x) (W2 : World)
 (e : (W.alloc (.cells #[.bool p.1, .slice p.2.1 p.2.2.1 p.2.2.2] 37)).setCells b (k * 2) [.bool p.1, .slice p.2.1 p.2.2.1 p.2.2.2] = W2) :
 aa W2 m 24 [.int .i64 (n : Int), .int .i64 (c : Int), .slice (some ⟨b, 0, none⟩) k N] /\ oE w b m n c N (cu ++ [x]) (W2.setCell ⟨m, 2, none⟩ (.slice (some ⟨b, 0, none⟩) (k + 1) N)) := by
 have hb1 : Below W.heap.size W (W.alloc (.cells #[.bool p.1, .slice p.2.1 p.2.2.1 p.2.2.2] 37)) := (Below.refl _ _).alloc (Ct _) _;generalize W.alloc (.cells #[.bool p.1, .slice p.2.1 p.2.2.1 p.2.2.2] 37) = W1 at *;subst hk;have hx1 := hx.below hb1;have hr1 := h.row.below hb1;have hm1 := h.box.below hb1 h.box.lt;have hs1 := h.res.below hb1 h.res.lt;have hB1 := h.bel.trans (hb1.mono h.bel.size);have e2 : (W1.setCell ⟨b, cu.length * 2, none⟩ (.bool p.1)).setCell ⟨b, cu.length * 2 + 1, none⟩ (.slice p.2.1 p.2.2.1 p.2.2.2) = W2 := by rw [<- e]; rfl
 have hr2 : aO W2 b ((cu ++ List.replicate (N - cu.length) 0).set cu.length x) := by rw [<- e2]; exact hr1.set cu.length hx1
 have hne : m ≠ b := by omega
 have hm2 : aa W2 m 24 [.int .i64 (n : Int), .int .i64 (c : Int), .slice (some ⟨b, 0, none⟩) cu.length N] := by
  rw [<- e2]; exact (hm1.other (p := ⟨b, cu.length * 2, none⟩) hne _).other (p := ⟨b, cu.length * 2 + 1, none⟩) hne _
 have hs2 : aa W2 w.heap.size 24 [.int .i64 0, .int .i64 0, .slice none 0 0] := by
  rw [<- e2]; exact (hs1.other (p := ⟨b, cu.length * 2, none⟩) (by show w.heap.size ≠ b; omega) _).other (p := ⟨b, cu.length * 2 + 1, none⟩) (by show w.heap.size ≠ b; omega) _
 have hB2 : Below w.heap.size w W2 := by
  rw [<- e2]; exact (hB1.setCell (p := ⟨b, cu.length * 2, none⟩) (Dg hb.1) _).setCell (p := ⟨b, cu.length * 2 + 1, none⟩) (Dg hb.1) _
 refine ⟨hm2, ?_, ?_, ?_, ?_⟩
 . have := hm2.set 2 (.slice (some ⟨b, 0, none⟩) (cu.length + 1) N);simpa using this
 . have e3 : (cu ++ List.replicate (N - cu.length) 0).set cu.length x = (cu ++ [x]) ++ List.replicate (N - (cu ++ [x]).length) 0 := by
    obtain ⟨q, hq⟩ : ∃ q, N - cu.length = q + 1 := ⟨N - cu.length - 1, by omega⟩;have hq2 : N - (cu ++ [x]).length = q := by simp; omega
    rw [hq, hq2, List.replicate_succ, D8 _ _ (Ct _)];simp
   rw [<- e3];exact hr2.kK hm2 Cr (aN.dU (n : Int) (c : Int) _ _ _) 2 _
 . exact hs2.other (p := ⟨m, 2, none⟩) (by show w.heap.size ≠ m; omega) _
 . exact hB2.setCell (p := ⟨m, 2, none⟩) (by show w.heap.size <= m; omega) _
theorem wG (w : World) (x y : Value) (t : TypeId) : ∀ j u, [x, y][j]? = some u -> (w.alloc (.cells #[x, y] t)).cell? ((⟨w.heap.size, 0, none⟩ : Addr).add j) = some u := by
 intro j u hj;have := (aa.new w #[x, y] t).cell j;have e : ((⟨w.heap.size, 0, none⟩ : Addr).add j) = ⟨w.heap.size, j, none⟩ := by unfold Addr.add; simp; omega
 rw [e, this]; exact hj
theorem oE.spare {w : World} {b m n c N k : Nat} {cu : List Int} {W : World} (h : oE w b m n c N cu W) (hk : cu.length = k) (hkN : k + 1 <= N) (X : Obj) (j : Nat) (hj : j < 2) : ((W.alloc X).cell? ⟨b, 0 + k * 2 + j, none⟩).isSome = true /\ (W.alloc X).frozen? ⟨b, 0 + k * 2 + j, none⟩ = false := by
 have hb1 : Below W.heap.size W (W.alloc X) := (Below.refl _ _).alloc (Ct _) _;have hr1 := h.row.below hb1;refine ⟨?_, hr1.free _⟩;obtain ⟨q, h0, h1, _⟩ := hr1.get (i := k) (by simp [hk]; omega);have hj2 : j = 0 \/ j = 1 := by omega
 rcases hj2 with rfl | rfl
 . rw [Db, Ea, h0]; rfl
 . rw [Db, h1]; rfl
theorem jq {xss : List (List Int)} {c : Nat} (hc : ∀ x ∈ xss, x.length = c) : xss.flatten.length = xss.length * c := by
 induction xss with
 | nil => simp
 | cons x xs ih =>
  rw [List.flatten_cons, CQ, ih (fun y hy => hc y (CB _ hy)), hc x (CC ..), Er, Dz]; omega
theorem mi {xss : List (List Int)} {c i : Nat} (hc : ∀ x ∈ xss, x.length = c) (hi : i <= xss.length) : (xss.take i).flatten.length = i * c := by
 rw [jq (fun x hx => hc x (Eu hx)), CZ, DD hi]
theorem kO {xss : List (List Int)} {i : Nat} (hi : i < xss.length) : (xss.take (i + 1)).flatten = (xss.take i).flatten ++ xss[i] := by
 rw [Ei hi, List.flatten_append]; simp
theorem xD (o cap n c : Nat) (xss : List (List Int)) (w : World) (h : x7 w 17592186044415 o xss) (hn : xss.length = n) (hc : ∀ x ∈ xss, x.length = c) (hn1 : n <= 10000) (hc1 : c <= 10000) :
 Calls Tryz.prog 43 #[.slice (some ⟨o, 0, none⟩) n cap, .int .i64 (c : Int)] w fun e w' => (∃ b, e = .returned (.agg #[.int .i64 (n : Int), .int .i64 (c : Int), .slice (some ⟨b, 0, none⟩) (n * c) (n * c)]) /\ w.heap.size <= b /\ aO w' b xss.flatten) /\ Below w.heap.size w w' := by
 have hnc : n * c <= 100000000 := Da hn1 hc1;have hw1 : wrap64 ((n : Int) * (c : Int)) = ((n * c : Nat) : Int) := by
  rw [<- Dq]; unfold wrap64; omega
 obtain ⟨N, hN⟩ := Cs (n * c);rw [hN] at hw1 hnc |-;have HN := H5 hN; clear hN;have HX := H5 h; clear h;go_enter Tryz.func43, Tryz.ntmps43;go_wp2_with (at_make; refine uK rfl _ _ rfl 0 N rfl rfl rfl Cp (Cx _) Cp ?_; intro b w1 hm1)
 have hI : oE w b w1.heap.size n c N [] (w1.alloc (.cells #[.int .i64 (n : Int), .int .i64 (c : Int), .slice (some ⟨b, 0, none⟩) 0 N] 24)) := by
  have h0 := aa.new w #[.int .i64 0, .int .i64 0, .slice none 0 0] 24;have hb0 : Below w.heap.size w (w.alloc (.cells #[.int .i64 0, .int .i64 0, .slice none 0 0] 24)) := (Below.refl _ _).alloc (Ct _) _;have hb1 : Below w1.heap.size w1 (w1.alloc (.cells #[.int .i64 (n : Int), .int .i64 (c : Int), .slice (some ⟨b, 0, none⟩) 0 N] 24)) := (Below.refl _ _).alloc (Ct _) _;refine ⟨aa.new _ _ _, ?_, ?_, ?_⟩
  . simpa using (aO.pJ hm1.row).below hb1
  . exact (h0.below hm1.below h0.lt).alloc _
  . exact (hb0.trans (hm1.below.mono hb0.size)).trans (hb1.mono (Cw hb0.size hm1.below.size))
 have hbl : w.heap.size < b /\ b < w1.heap.size := by
  have h1 := hm1.at_; have h2 := hm1.size; rw [World.size_alloc] at h1 h2; omega
 have HI := H5 hI; clear hI;clear hm1;generalize w1.alloc (.cells #[.int .i64 (n : Int), .int .i64 (c : Int), .slice (some ⟨b, 0, none⟩) 0 N] 24) = w2 at *;obtain ⟨m, hm⟩ := Cs (w1.heap.size);rw [hm] at hbl HI |-;clear hm;have HC := H5 hc; clear hc;go_loopw [21] (fun i_ wr => ∃ (i : Nat), i <= n /\ i_ = .int .i64 (i : Int) /\ Hid (oE w b m n c N (xss.take i).flatten wr)) (fun i_ _ => n - (intOf i_).toNat)
 case atStart => exact ⟨0, Cx _, rfl, H5 (by simpa using HI.out)⟩
 case round =>
  obtain ⟨i, hi, rfl, hIr⟩ := hrel;by_cases hin : i < n
  . have hix : i < xss.length := by omega
    have hin1 : (i : Int) < (n : Int) := by omega
    obtain ⟨ra, rc, hroww, hls⟩ := HX.out.row i hix;have hrow0 := (hIr.out.bel.cell (p := ⟨o, i, none⟩) HX.out.lt).trans hroww;clear hroww;have hxl : xss[i].length = c := HC.out _ (Cu hix);rw [hxl] at hrow0;have HXL := H5 hxl; clear hxl;have HLS := H5 hls; clear hls;have hmul : (i + 1) * c <= N := by rw [<- HN.out]; exact Cy _ hin
    have hmul2 : (i + 1) * c = i * c + c := Dz i c;have hfl : (xss.take i).flatten.length = i * c := mi HC.out Cp;have HFL := H5 hfl; clear hfl;have HM := H5 (Cv hmul hmul2); clear hmul hmul2;go_wp2;go_loopw [27] (fun j_ wq => ∃ (j : Nat), j <= c /\ j_ = .int .i64 (j : Int) /\ Hid (oE w b m n c N ((xss.take i).flatten ++ xss[i].take j) wq)) (fun j_ _ => c - (intOf j_).toNat)
    case atStart => exact ⟨0, Cx _, rfl, H5 (by simpa using hIr.out)⟩
    case round =>
     obtain ⟨j, hj, rfl, hIq⟩ := hrel;by_cases hjc : j < c
     . have hjc1 : (j : Int) < (c : Int) := by omega
       have hjx : j < xss[i].length := by rw [HXL.out]; exact hjc
       obtain ⟨k, hk⟩ := Cs (i * c + j);have hkN : k + 1 <= N := by have := HM.out; omega
       obtain ⟨cu, hcu⟩ := Cs ((xss.take i).flatten ++ xss[i].take j);rw [hcu] at hIq;have hcl : cu.length = k := by rw [<- hcu, CQ, HFL.out, CZ, DD Cp]; exact hk
       have hcu2 : (xss.take i).flatten ++ xss[i].take (j + 1) = cu ++ [xss[i][j]] := by
        rw [Ei hjx, <- EL, hcu]
       obtain ⟨x, hx⟩ := Cs (xss[i][j]);obtain ⟨ab, aoff, hra, hab, hcells⟩ := (HLS.out.below hIq.out.bel) Cp;subst hra;obtain ⟨px, cx0, cx1, hnx⟩ := hcells j hjx;rw [hx] at hnx hcu2;have HCU := H5 hcu2; clear hcu2 hcu hcells hx;have HK := H5 hk; clear hk;have hb1 : Below wr.heap.size wr (wr.alloc (.cells #[.bool px.1, .slice px.2.1 px.2.2.1 px.2.2.2] 37)) := (Below.refl _ _).alloc (Ct _) _;have Hnx := H5 (hnx.below hb1); clear hnx;have hIa : oE w b m n c N cu (wr.alloc (.cells #[.bool px.1, .slice px.2.1 px.2.2.1 px.2.2.2] 37)) :=
        ⟨hIq.out.box.below hb1 hIq.out.box.lt, hIq.out.row.below hb1, hIq.out.res.below hb1 hIq.out.res.lt, hIq.out.bel.trans (hb1.mono hIq.out.bel.size)⟩
       have HIa := H5 hIa; clear hIa;have hxr := aa.new wr #[.bool px.1, .slice px.2.1 px.2.2.1 px.2.2.2] 37;have HXR := H5 hxr; clear hxr;have hsm : m < wr.heap.size := hIq.out.box.lt;clear hIq hb1;go_wp2;generalize wr.alloc (.cells #[.bool px.1, .slice px.2.1 px.2.2.1 px.2.2.2] 37) = w5 at *;obtain ⟨xb, hxb⟩ := Cs (wr.heap.size);rw [hxb] at HXR hsm |-;have q0 : w5.cell? ⟨xb, 0, none⟩ = some (.bool px.1) := HXR.out.cell 0;have q1 : w5.cell? ⟨xb, 1, none⟩ = some (.slice px.2.1 px.2.2.1 px.2.2.2) := HXR.out.cell 1;have c2 : w5.cell? ⟨m, 2, none⟩ = some (.slice (some ⟨b, 0, none⟩) k N) := by have := HIa.out.box.cell 2; rw [hcl] at this; exact this
       clear cx0 cx1 hrow0;obtain ⟨i0, hi0, hz0, hsz0, hby0⟩ := info_parts kR;have hrl : (cu ++ List.replicate (N - cu.length) 0).length = N := by rw [CQ, Fa, hcl]; omega
       go_region_law (first
        | (refine step_append_room rfl (.tmp 32) (.tmp 35) 22 rfl 37 i0 2 Tryz.underlying22 hi0 hsz0 b 0 k N rfl ⟨w6.heap.size, 0, none⟩ 1 1 [.bool pz.1, .slice pz.2.1 pz.2.2.1 pz.2.2.2] rfl rfl (wG w6 _ _ _) (by simp [Value.oneCell']) Cp (fun j hj => HI6.out.spare hcl hkN _ j hj) ?_; obtain ⟨w7, hw7⟩ := Cs ((w6.alloc (.cells #[.bool pz.1, .slice pz.2.1 pz.2.2.1 pz.2.2.2] 37)).setCells b (k * 2) [.bool pz.1, .slice pz.2.1 pz.2.2.1 pz.2.2.2]); have hI7 := HI6.out.app hbl hcl hkN HZ6.out w7 hw7; simp only [Db]; rw [hw7]; have g2 := hI7.1.cell 2; have gf2 := hI7.1.free 2; simp only [List.getElem?_cons_zero, List.getElem?_cons_succ] at g2; have HI7 := H5 hI7; clear hI7 hw7)
        | (go_simp; go_at_call 58; refine (gz (av px) x _ (ah.below (w := w5) Hnx.out (Below.refl _ _).drew)).mono ?_; rintro e w6 ⟨⟨vz, rfl, hvz⟩, hb6⟩; obtain ⟨pz, rfl⟩ := aL.parts hvz.num; have HZ6 := H5 hvz.num; unfold av at *; have hI6 : oE w b m n c N cu w6 := ⟨aa.below (w := w5.drew) HIa.out.box hb6 HIa.out.box.lt, aO.below (w := w5.drew) HIa.out.row hb6, aa.below (w := w5.drew) HIa.out.res hb6 HIa.out.res.lt, HIa.out.bel.drew.trans (hb6.mono HIa.out.bel.size)⟩; have HI6 := H5 hI6; clear hI6; have k2 := HI6.out.box.cell 2; rw [hcl] at k2; have k3 := (HI6.out.box.alloc (.cells #[.bool pz.1, .slice pz.2.1 pz.2.2.1 pz.2.2.2] 37)).cell 2; rw [hcl] at k3; simp only [List.getElem?_cons_zero, List.getElem?_cons_succ] at k2 k3; clear hb6 hvz))
       all_goals go_wp2
       all_goals refine ⟨⟨j + 1, by omega, by go_num, H5 ?_⟩, ?_⟩
       all_goals first
        | (rw [HCU.out]; exact HI7.out.2)
        | (simp [intOf]; omega)
     . obtain rfl : j = c := by omega
       go_wp2;go_roundw
       case rel =>
        refine ⟨i + 1, by omega, by go_num, H5 ?_⟩;rw [kO hix];have h9 := hIq.out;rw [CJ (l := xss[i]) (by rw [HXL.out]; exact Ct _)] at h9;exact h9
       case measure => simp [intOf]; omega
  . obtain rfl : i = n := by omega
    have hce : (xss.take i).flatten = xss.flatten := by rw [CJ Cp]
    have HCE := H5 hce; clear hce;have hcl : (xss.take i).flatten.length = N := by rw [HCE.out, jq HC.out, hn]; exact HN.out
    have c0 := hIr.out.box.cell 0;have c1 := hIr.out.box.cell 1;have c2 := hIr.out.box.cell 2;have d0 := hIr.out.res.cell 0;have d1 := hIr.out.res.cell 1;have d2 := hIr.out.res.cell 2;have f0 := hIr.out.res.free 0;have f1 := hIr.out.res.free 1;have f2 := hIr.out.res.free 2;rw [hcl] at c2;simp only [List.getElem?_cons_zero, List.getElem?_cons_succ] at c0 c1 c2 d0 d1 d2;clear hcl;go_wp2;have hrm := hIr.out.row;rw [HCE.out, jq HC.out, hn, HN.out, Nat.sub_self] at hrm;simp only [List.replicate_zero, DZ] at hrm;refine bodyPost_ret (rf (p := 4) (by kernel_rfl) _ _ w.heap.size _ _ _ rfl (hIr.out.res.BY (.int .i64 (i : Int)) (.int .i64 (c : Int)) (.slice (some ⟨b, 0, none⟩) N N))) rfl ?_;exact ⟨⟨b, rfl, by omega, hrm.tE hIr.out.res (i : Int) (c : Int) _ _ _⟩, ((hIr.out.bel.setCell (p := ⟨w.heap.size, 0, none⟩) (Ct _) _).setCell (p := ⟨w.heap.size, 1, none⟩) (Ct _) _).setCell (p := ⟨w.heap.size, 2, none⟩) (Ct _) _⟩
theorem mP {fn : Func} {p q : Tmp} (h : fn.results = #[.cell p 24, .tmp q]) (tmps : Array Value) (w : World) (g : Nat) (a b c : Value) (hp : tmps.getD p undef = .pointer (some ⟨g, 0, none⟩)) (hr : aa w g 24 [a, b, c]) :
 (results fn tmps).run Tryz.prog w = .ok (.tuple #[.agg #[a, b, c], tmps.getD q undef]) w := jc h tmps w g a b c hp hr
theorem aO.iR {w : World} {b : Nat} {xs : List Int} (h : aO w b xs) {L : Nat} (hL : ∀ x ∈ xs, ag x.natAbs <= L) : aQ w L (some ⟨b, 0, none⟩) xs := by
 intro _;refine ⟨b, 0, rfl, h.lt, fun i hi => ?_⟩;obtain ⟨p, h0, h1, hn⟩ := h.get hi;exact ⟨p, by simpa using h0, by simpa using h1, hn.int (hL _ (Cu hi))⟩
theorem eA.Bf {w : World} {o : Nat} {R : List Hd} (h : eA w o R) {L : Nat} (hL : ∀ r ∈ R, ∀ x ∈ r.xs, ag x.natAbs <= L) (k : Nat) (hk : k <= R.length) : x7 w L o ((R.take k).map Hd.xs) := by
 refine ⟨h.lt, fun i hi => ?_⟩;have hi' : i < R.length := by simp at hi; omega
 have hm : R[i] ∈ R := Cu hi';refine ⟨some ⟨R[i].blk, 0, none⟩, R[i].cap, ?_, ?_⟩
 . rw [h.dA hi'];simp [Hd.dA]
 . have := (h.row _ hm).iR (hL _ hm);simpa using this
theorem vF {R : List Hd} {D : Nat} (h : ∀ i b, (az R i b).natAbs < W ^ D) : ∀ r ∈ R, ∀ x ∈ r.xs, ag x.natAbs <= D := by
 intro r hr x hx;obtain ⟨i, hi, rfl⟩ := Dh hr;obtain ⟨j, hj, rfl⟩ := Dh hx;have := h i j;rw [cJ hi, ix _ _ hj] at this;exact an this
abbrev hW (m : Nat) : Nat := gX 66 m
theorem Bz (r c m : Nat) (ao : Option Addr) (len cap : Nat) (xs : List Int) (w : World) (hr : r <= 64) (hc : c <= 64) (h : aQ w 17592186044415 ao xs) (hm : ∀ x ∈ xs, x.natAbs < W ^ m) (hm1 : m <= 140000000) (hl : len = xs.length) (hs : xs.length = r * c) :
 Calls Tryz.prog 10 #[.agg #[.int .i64 (r : Int), .int .i64 (c : Int), .slice ao len cap]] w fun e w' => (∃ b hs k l, e = .returned (.tuple #[.agg #[.int .i64 (r : Int), .int .i64 (c : Int), .slice (some ⟨b, 0, none⟩) (r * c) (r * c)], .int .i64 0]) /\ w.heap.size <= b /\ aO w' b hs /\ kX r c xs hs k l /\ ∀ x ∈ hs, x.natAbs < W ^ hW m) /\ Below w.heap.size w w' := by
 subst hl;have hlad : sf 66 m <= 4000000000000 := by unfold sf gX; omega
 have hhw : hW m <= 17592186044415 := by unfold hW gX; omega
 have hwl : ∀ x ∈ xs, ag x.natAbs <= 17592186044415 := fun x hx => Cw (an (hm x hx)) Cp;have HXS := H5 h; clear h;have HLad := H5 (Cv hlad (Cv hhw hwl)); clear hlad hhw hwl;have HMM := H5 hm; clear hm;have hsnd : ba (r : Int) (c : Int) xs.length = true := by
  unfold ba bL;rw [hs]; simp; omega
 have HS := H5 hs; clear hs;have HCK := H5 (dv hsnd); clear hsnd;go_enter Tryz.func10, Tryz.ntmps10;go_wp2_with fail
 obtain ⟨r1, r2, hb⟩ := fR w #[.int .i64 (r : Int), .int .i64 (c : Int), .slice ao xs.length cap] #[.int .i64 0, .int .i64 0, .slice none 0 0] 24 24;generalize (w.alloc (.cells #[.int .i64 (r : Int), .int .i64 (c : Int), .slice ao xs.length cap] 24)).alloc (.cells #[.int .i64 0, .int .i64 0, .slice none 0 0] 24) = w2 at *;refine (cW (r : Int) (c : Int) ao xs.length cap _ Cp Cp).mono ?_;rintro e w3 ⟨rfl, hb3⟩;rw [HCK.out];have R1 := H5 (r1.below hb3 r1.lt);have R2 := H5 (r2.below hb3 r2.lt);have L3 := H5 ((HXS.out.below hb).below hb3);have B3 := H5 (hb.trans (hb3.mono hb.size));have hs2 : w.heap.size + 1 < w3.heap.size := R2.out.lt;have e0 : w3.cell? ⟨w.heap.size, 0, none⟩ = some (.int .i64 (r : Int)) := R1.out.cell 0;have e1 : w3.cell? ⟨w.heap.size, 1, none⟩ = some (.int .i64 (c : Int)) := R1.out.cell 1;have e2 : w3.cell? ⟨w.heap.size, 2, none⟩ = some (.slice ao xs.length cap) := R1.out.cell 2;clear r1 r2 hb hb3;go_wp2_with fail
 refine (callsIn_wide.1 (vj r c ao xs.length cap xs w3 hr hc L3.out HLad.out.2.2 rfl HS.out)).mono ?_;rintro e w4 ⟨⟨o, R, rfl, hM, hRl, hRx, hob, hRb⟩, hb4⟩;obtain ⟨hSh, hE⟩ := si hRl HS.out hRx;obtain ⟨k, R', hRed, hOk⟩ := oN (N := 66) (B := 4000000000000) (m := m) hSh (fun i b => by rw [hE]; exact iS (il m) HMM.out i b) Cp Cp HLad.out.1;have hlR' : R'.length = r := hOk.len.trans hRl;obtain ⟨l, hH, hHb⟩ := BL hRl hE hOk;have hred := wm o r 4000000000000 c k R R' w4 hM (Ct _) hRed Cp Cp;rw [hRl] at hred;have HRed := H5 hred; clear hred;have HOk := H5 hOk; clear hOk;have HH := H5 (Cv hH hHb); clear hH hHb;have R14 := H5 (R1.out.below hb4 R1.out.lt);have R24 := H5 (R2.out.below hb4 R2.out.lt);have B4 := H5 (B3.out.trans (hb4.mono B3.out.size));have HRb := H5 (Cv hob hRb);clear hRed hM hb4 e0 e1 e2 hSh hE hRx hob hRb R1 R2 L3 B3;rw [hRl];go_wp2_with fail
 refine HRed.out.mono ?_;rintro e w5 ⟨rfl, hM5, hC5⟩;rw [hlR'];have hown : ∀ q, (q = o \/ ∃ x ∈ R, x.blk = q) -> w3.heap.size <= q := by
  rintro q (rfl | ⟨x, hx, rfl⟩)
  . exact HRb.out.1
  . exact HRb.out.2 x hx
 have hns : ∀ q, q < w3.heap.size -> ¬ (q = o \/ ∃ x ∈ R, x.blk = q) := fun q hq h => by have := hown q h; omega
 have R15 := H5 (hC5.row R14.out (hns _ Cp));have R25 := H5 (hC5.row R24.out (hns _ hs2));have B5 : Hid (Below w.heap.size w w5) := H5 (B4.out.trans (hC5.nX (B := w.heap.size) (fun q hq => by have := hown q hq; omega) B4.out.size));have hrows := hM5.Bf (L := 17592186044415) (fun x hx y hy => Cw (vF HOk.out.bd x hx y hy) HLad.out.2.1) r Cp;rw [CJ Cp] at hrows;have HRows := H5 hrows; clear hrows;have c1 : w5.cell? ⟨w.heap.size, 1, none⟩ = some (.int .i64 (c : Int)) := R15.out.cell 1;have hsh5 : ∀ x ∈ R'.map Hd.xs, x.length = c := fun x hx => by
  obtain ⟨q, hq, rfl⟩ := List.mem_map.1 hx; exact HOk.out.sh q hq
 clear hM5 hC5 R14 R24 B4 HRed hown hns;go_wp2_with fail
 refine (xD o r r c (R'.map Hd.xs) w5 HRows.out (by rw [List.length_map, hlR']) hsh5 Cp Cp).mono ?_;rintro e w6 ⟨⟨b, rfl, hbb, hRb6⟩, hb6⟩;have R26 := H5 (R25.out.below hb6 R25.out.lt);have B6 := H5 (B5.out.trans (hb6.mono B5.out.size));have HR6 := H5 hRb6;have hs5 : w.heap.size <= w5.heap.size := B5.out.size;clear hRb6 hb6 c1;have z0 := R26.out.cell 0;have z1 := R26.out.cell 1;have z2 := R26.out.cell 2;have y0 := R26.out.free 0;have y1 := R26.out.free 1;have y2 := R26.out.free 2;go_wp2;refine bodyPost_ret (mP (p := 2) (q := 3) (by kernel_rfl) _ _ (w.heap.size + 1) _ _ _ rfl (R26.out.BY (.int .i64 (r : Int)) (.int .i64 (c : Int)) (.slice (some ⟨b, 0, none⟩) (r * c) (r * c)))) rfl ?_;exact ⟨⟨b, _, k, l, rfl, by omega, HR6.out.tE R26.out (r : Int) (c : Int) _ _ _, HH.out.1, HH.out.2⟩, ((B6.out.setCell (p := ⟨w.heap.size + 1, 0, none⟩) (Ev _) _).setCell (p := ⟨w.heap.size + 1, 1, none⟩) (Ev _) _).setCell (p := ⟨w.heap.size + 1, 2, none⟩) (Ev _) _⟩
end Go.Proofs.YtjjlmfmoihooiaaGreat
namespace Go.Proofs.YtjjlmfmoihooiaaGreat
end Go.Proofs.YtjjlmfmoihooiaaGreat
namespace Go.Proofs.YtjjlmfmoihooiaaGreat
open Go.RowKit
end Go.Proofs.YtjjlmfmoihooiaaGreat
namespace Go.Proofs.YtjjlmfmoihooiaaGreat
def HF (r c : Nat) (E : Nat -> Nat -> Int) : Prop := ∃ k l, k <= r /\ eo k c E l /\ ∀ i, k <= i -> i < r -> ∀ b, E i b = 0
structure qK (c : Nat) (E : Nat -> Nat -> Int) (i j : Nat) : Prop where
 le : j <= c
 zero : ∀ b, b < j -> E i b = 0
 ne : j < c -> E i j ≠ 0
def FI (c : Nat) (E : Nat -> Nat -> Int) (i : Nat) (last : Int) : Prop :=
 ∃ k l, k <= i /\ eo k c E l /\ (∀ a, k <= a -> a < i -> ∀ b, b < c -> E a b = 0) /\ last = (if k < i then (c : Int) else if k = 0 then -1 else (l (k - 1) : Int))
theorem FI.start (c : Nat) (E : Nat -> Nat -> Int) : FI c E 0 (-1) :=
 ⟨0, fun _ => 0, Ct _, ⟨⟨fun i k _ h => by omega, fun i h => by omega, fun i h => by omega, fun i h => by omega⟩, fun i k _ h => by omega⟩, fun a _ h => by omega, rfl⟩
theorem FI.fin {r c : Nat} {E : Nat -> Nat -> Int} {last : Int} (hE : ∀ i b, c <= b -> E i b = 0) (h : FI c E r last) : HF r c E := by
 obtain ⟨k, l, hk, hH, hz, _⟩ := h;exact ⟨k, l, hk, hH, fun i hi hr b => by
  by_cases hb : b < c
  . exact hz i hi hr b hb
  . exact hE i b Cp⟩
theorem FI.skip {c i : Nat} {E : Nat -> Nat -> Int} {last : Int} (h : FI c E i last) (hl : qK c E i c) : FI c E (i + 1) (c : Int) := by
 obtain ⟨k, l, hk, hH, hz, _⟩ := h;refine ⟨k, l, by omega, hH, fun a h1 h2 b hb => ?_, by rw [if_pos Cp]⟩;by_cases e : a = i
 . subst e; exact hl.zero b hb
 . exact hz a h1 Cp b hb
theorem FI.next {c i j : Nat} {E : Nat -> Nat -> Int} {last : Int} (h : FI c E i last) (hl : qK c E i j) (hj : j < c) (hlast : last < (j : Int)) (hp : 0 < E i j) (hr : ∀ a, a < i -> 0 <= E a j /\ E a j < E i j) : FI c E (i + 1) (j : Int) := by
 obtain ⟨k, l, hk, hH, hz, hla⟩ := h;have hki : k = i := by
  by_cases e : k < i
  . rw [if_pos e] at hla; omega
  . omega
 subst hki;rw [if_neg Cp] at hla;have hlo : ∀ a, a < k -> l a < j := fun a ha => by
  rw [if_neg Cp] at hla;rcases EE (show a <= k - 1 by omega) with e | e
  . have := hH.inc a (k - 1) e Cp; omega
  . subst e; omega
 have h2 : ∀ a, a < k -> (if a < k then l a else j) = l a := fun a ha => if_pos ha;have h3 : (if k < k then l k else j) = j := if_neg Cp;refine ⟨k + 1, fun a => if a < k then l a else j, Ct _, ⟨⟨fun a b hab hb => ?_, fun a ha => ?_, fun a ha b hb => ?_, fun a ha => ?_⟩, fun a b hab hb => ?_⟩, fun a h1 h2 => by omega, ?_⟩
 . show (if a < k then l a else j) < (if b < k then l b else j);rw [h2 a Cp];by_cases e : b < k
   . rw [h2 b e]; exact hH.inc a b hab e
   . obtain rfl : b = k := by omega
     rw [h3]; exact hlo a Cp
 . show (if a < k then l a else j) < c;by_cases e : a < k
   . rw [h2 a e]; exact hH.lt a e
   . obtain rfl : a = k := by omega
     rw [h3]; exact hj
 . have hb : b < (if a < k then l a else j) := hb;by_cases e : a < k
   . rw [h2 a e] at hb; exact hH.zero a e b hb
   . obtain rfl : a = k := by omega
     rw [h3] at hb; exact hl.zero b hb
 . show 0 < E a (if a < k then l a else j);by_cases e : a < k
   . rw [h2 a e]; exact hH.pos a e
   . obtain rfl : a = k := by omega
     rw [h3]; exact hp
 . show 0 <= E a (if b < k then l b else j) /\ E a (if b < k then l b else j) < E b (if b < k then l b else j);by_cases e : b < k
   . rw [h2 b e]; exact hH.red a b hab e
   . obtain rfl : b = k := by omega
     rw [h3]; exact hr a hab
 . rw [if_neg Cp, if_neg Cp];show (j : Int) = ((if k + 1 - 1 < k then l (k + 1 - 1) else j : Nat) : Int);rw [if_neg Cp]
theorem HF.row {r c i j : Nat} {E : Nat -> Nat -> Int} {last : Int} (h : HF r c E) (hi : i < r) (hl : qK c E i j) (hj : j < c) (hF : FI c E i last) : last < (j : Int) /\ 0 < E i j /\ ∀ a, a < i -> 0 <= E a j /\ E a j < E i j := by
 obtain ⟨K, L, hK, hH, hz⟩ := h;obtain ⟨k, l, hk, hHk, hzk, hla⟩ := hF;have hiK : i < K := by
  by_cases e : i < K
  . exact e
  . exact absurd (hz i Cp hi j) (hl.ne hj)
 have hLj : ∀ {a q : Nat}, a < K -> (∀ b, b < q -> E a b = 0) -> E a q ≠ 0 -> L a = q := fun {a q} ha h0 hn => by
  rcases Dl (L a) q with e | e | e
  . have := hH.pos a ha; have := h0 _ e; omega
  . exact e
  . exact absurd (hH.zero a ha q e) hn
 have hLi : L i = j := hLj hiK hl.zero (hl.ne hj);have hki : k = i := by
  by_cases e : k < i
  . exfalso;have h1 := hH.pos k Cp;rw [hzk k (Ct _) e (L k) (hH.lt k Cp)] at h1;omega
  . omega
 subst hki;rw [if_neg Cp] at hla;refine ⟨?_, by rw [<- hLi]; exact hH.pos k hiK, fun a ha => by rw [<- hLi]; exact hH.red a k ha hiK⟩;by_cases e : k = 0
 . rw [if_pos e] at hla; omega
 . rw [if_neg e] at hla;have h1 : L (k - 1) = l (k - 1) := hLj Cp (hHk.zero (k - 1) Cp) (by have := hHk.pos (k - 1) Cp; omega);have h2 := hH.inc (k - 1) k Cp hiK;omega
theorem HF.congr {r c : Nat} {E F : Nat -> Nat -> Int} (h : HF r c E) (e : ∀ i, i < r -> ∀ b, F i b = E i b) : HF r c F := by
 obtain ⟨k, l, hk, hH, hz⟩ := h;exact ⟨k, l, hk, hH.congr (fun a ha b => e a Cp b), fun i hi hr b => (e i hr b).trans (hz i hi hr b)⟩
theorem kX.hf {r c k : Nat} {xs hs : List Int} {l : Nat -> Nat} (h : kX r c xs hs k l) : HF r c (au hs r c) := ⟨k, l, h.kr, h.herm, fun i hi _ b => h.zero i hi b⟩
end Go.Proofs.YtjjlmfmoihooiaaGreat
namespace Go.Proofs.YtjjlmfmoihooiaaGreat
open Go.RowKit
theorem wN {R : List Hd} {c i : Nat} (hi : i < R.length) (hs : Sh c R) : qK c (az R) i (aR R i) := by
 have h := nZ hi hs;exact ⟨h.1, h.2.1, h.2.2⟩
theorem xr (r c m : Nat) (ao : Option Addr) (len cap : Nat) (xs : List Int) (w : World) (hr : r <= 64) (hc : c <= 64) (h : aQ w 17592186044415 ao xs) (hm : ∀ x ∈ xs, ag x.natAbs <= m) (hm1 : m <= 8796093022208) (hl : len = xs.length) (hs : xs.length = r * c) :
 Calls Tryz.prog 11 #[.agg #[.int .i64 (r : Int), .int .i64 (c : Int), .slice ao len cap]] w fun e w' => (∃ t, e = .returned (.tuple #[.bool t, .int .i64 0]) /\ (t = true ↔ HF r c (au xs r c))) /\ Below w.heap.size w w' := by
 subst hl;have hwl : ∀ x ∈ xs, ag x.natAbs <= 17592186044415 := fun x hx => Cw (hm x hx) Cp;have HXS := H5 h; clear h;have HWL := H5 hwl; clear hwl;have hsnd : ba (r : Int) (c : Int) xs.length = true := by
  unfold ba bL;rw [hs]; simp; omega
 have HS := H5 hs; clear hs;have HM := H5 hm; clear hm;have HCK := H5 (dv hsnd); clear hsnd;have r1 := aa.new w #[.int .i64 (r : Int), .int .i64 (c : Int), .slice ao xs.length cap] 24;have hb : Below w.heap.size w (w.alloc (.cells #[.int .i64 (r : Int), .int .i64 (c : Int), .slice ao xs.length cap] 24)) := (Below.refl _ _).alloc (Ct _) _;go_enter Tryz.func11, Tryz.ntmps11;go_wp2_with fail
 generalize w.alloc (.cells #[.int .i64 (r : Int), .int .i64 (c : Int), .slice ao xs.length cap] 24) = w2 at *;refine (cW (r : Int) (c : Int) ao xs.length cap _ Cp Cp).mono ?_;rintro e w3 ⟨rfl, hb3⟩;rw [HCK.out];have R1 := H5 (r1.below hb3 r1.lt);have L3 := H5 ((HXS.out.below hb).below hb3);have B3 := H5 (hb.trans (hb3.mono hb.size));have e0 := R1.out.cell 0;have e1 := R1.out.cell 1;have e2 := R1.out.cell 2;have hs3 : w.heap.size < w3.heap.size := R1.out.lt;clear r1 hb hb3;go_wp2_with fail
 refine (callsIn_wide.1 (vj r c ao xs.length cap xs w3 hr hc L3.out HWL.out rfl HS.out)).mono ?_;rintro e w4 ⟨⟨o, R, rfl, hM, hRl, hRx, hob, hRb⟩, hb4⟩;obtain ⟨hSh, hE⟩ := si hRl HS.out hRx;have hbd : ∀ q ∈ R, ∀ x ∈ q.xs, ag x.natAbs <= m := fun q hq x hx => by
  obtain ⟨k, hk, rfl⟩ := Dh hq;rw [hRx k hk] at hx;exact HM.out x (EJ (Eu hx))
 have HH := H5 (Cv hSh (Cv hE hbd));have HMN := H5 hM; clear hM;have R14 := H5 (R1.out.below hb4 R1.out.lt);have B4 := H5 (B3.out.trans (hb4.mono B3.out.size));have HRl := H5 hRl;clear hb4 e0 e1 e2 hSh hE hRx hbd R1 L3 B3 hob hRb;rw [hRl];clear hRl;go_wp2;go_loopw [5, 21] (fun l_ i_ wr => ∃ (i : Nat) (last : Int), i <= r /\ i_ = .int .i64 (i : Int) /\ l_ = .int .i64 last /\ -1 <= last /\ last <= 64 /\ Hid (FI c (az R) i last) /\ Hid (Below w4.heap.size w4 wr)) (fun _ i_ _ => r - (intOf i_).toNat)
 case atStart => exact ⟨0, -1, Cx _, rfl, rfl, by omega, by omega, H5 (FI.start c _), H5 (Below.refl _ _)⟩
 case round =>
  obtain ⟨i, last, hi, rfl, rfl, hla1, hla2, hF, hBl⟩ := hrel;by_cases hin : i < r
  . have hin1 : (i : Int) < (r : Int) := by omega
    have hiR : i < R.length := by rw [HRl.out]; exact hin
    have hM' := HMN.out.below hBl.out;have c0 := hM'.dA hiR;have hxl : R[i].xs.length = c := HH.out.1.get hiR;unfold Hd.dA at c0;have hlead := kI R[i].blk R[i].cap R[i].xs wr (hM'.row _ (Cu hiR)) (fun x hx => Cw (HH.out.2.2 _ (Cu hiR) x hx) Cp) Cp;have hle := gg hiR;rw [<- hle] at hlead;rw [hxl] at c0 hlead;have hIL := wN hiR HH.out.1;obtain ⟨j, hj⟩ := Cs (aR R i);rw [hj] at hlead hIL;have HLead := H5 hlead; clear hlead;have HIL := H5 hIL;have hjc : j <= c := hIL.le;have g1 := (R14.out.below hBl.out R14.out.lt).cell 1;simp only [List.getElem?_cons_zero, List.getElem?_cons_succ] at g1;clear hIL hle hj;go_wp2_with fail
    refine HLead.out.mono ?_;rintro e w5 ⟨rfl, hb5⟩;have B5 := H5 (hBl.out.trans (hb5.mono hBl.out.size));have g1' := (R14.out.below B5.out R14.out.lt).cell 1;simp only [List.getElem?_cons_zero, List.getElem?_cons_succ] at g1';clear hb5 g1 c0 hBl;by_cases hjl : j = c
    . subst hjl;have hs2 := H5 (hF.out.skip HIL.out);have hjj : ((j : Int) == (j : Int)) = true := by simp
      go_wp2;go_roundw
      case rel => exact ⟨i + 1, (j : Int), by omega, by go_num, rfl, by omega, by omega, hs2, B5⟩
      case measure => simp [intOf]; omega
    . have hjn : ((j : Int) == (c : Int)) = false := by simp; omega
      have hjc2 : j < c := by omega
      obtain ⟨p, q0, q1, hn⟩ := ((HMN.out.below B5.out).row _ (Cu hiR)).get (i := j) (by rw [hxl]; exact hjc2);have hjx : (j : Int) < (c : Int) := by omega
      have hent : az R i j = R[i].xs[j]'(by rw [hxl]; exact hjc2) := gE hiR (by rw [hxl]; exact hjc2);rw [<- hent] at hn;have hwx : ag (az R i j).natAbs <= m := by rw [hent]; exact HH.out.2.2 _ (Cu hiR) _ (Cu _)
      have HN := H5 (hn.int (L := 17592186044415) Cp);have HENT := H5 hent;clear hn hent hwx;have hnot : ∀ t : Bool, t = false -> (∀ h : HF r c (az R), False) -> (t = true ↔ HF r c (au xs r c)) := fun t ht hno => by
       subst ht;exact Iff.intro (fun h => by cases h) (fun h => (hno (HF.congr h (fun a _ b => HH.out.2.1 a b))).elim)
      have HNo := H5 hnot; clear hnot;have hBf : Below w.heap.size w w5 := B4.out.trans (B5.out.mono B4.out.size);have HBf := H5 hBf; clear hBf;by_cases hjla : (j : Int) <= last
      . have hno := H5 (fun h : HF r c (az R) => by have := (h.row hin HIL.out hjc2 hF.out).1; omega : HF r c (az R) -> False);have t1 : decide ((j : Int) <= last) = true := by simpa using hjla
        go_wp2;go_ret2;exact ⟨⟨false, rfl, HNo.out _ rfl hno.out⟩, HBf.out⟩
      . have t1 : decide ((j : Int) <= last) = false := by simpa using hjla
        have hF' := H5 (Cv hF.out (show last < (j : Int) by omega));have hs1 := cO (av p) (az R i j) w5 HN.out;obtain ⟨x, hx⟩ := Cs (az R i j);rw [hx] at hs1;obtain ⟨zs, hzs⟩ := Cs (aV x);rw [hzs] at hs1;have HS1 := H5 hs1; clear hs1;unfold av at *;clear hjla hF;by_cases hxn : x < 0
        . have t2 : decide (zs < 0) = true := by rw [<- hzs]; unfold aV; rw [if_pos hxn]; rfl
          have hno := H5 (fun h : HF r c (az R) => by have := (h.row hin HIL.out hjc2 hF'.out.1).2.1; omega : HF r c (az R) -> False);clear hx hzs hxn;go_wp2_with fail
          refine HS1.out.mono ?_;rintro e w6 ⟨rfl, hb6⟩;have HB6 := H5 (HBf.out.trans (hb6.mono HBf.out.size)); clear hb6;go_wp2;go_ret2;exact ⟨⟨false, rfl, HNo.out _ rfl hno.out⟩, HB6.out⟩
        . have t2 : decide (zs < 0) = false := by rw [<- hzs]; unfold aV; rw [if_neg hxn]; split <;> rfl
          have hxp : 0 < x := by have := HIL.out.ne hjc2; rw [hx] at this; omega
          have HX := H5 (Cv hx hxp); clear hx hzs hxn hxp;go_wp2_with fail
          refine HS1.out.mono ?_;rintro e w6 ⟨rfl, hb6⟩;have B6 := H5 (B5.out.trans (hb6.mono B5.out.size)); clear hb6 q0 q1 g1' HS1;clear B5 HBf HN;go_wp2;go_loopw [49] (fun a_ wq => ∃ (a : Nat), a <= i /\ a_ = .int .i64 (a : Int) /\ Hid (∀ a', a' < a -> 0 <= az R a' j /\ az R a' j < x) /\ Hid (Below w4.heap.size w4 wq)) (fun a_ _ => i - (intOf a_).toNat)
          case atStart => exact ⟨0, Cx _, rfl, H5 (fun a' h => by omega), B6⟩
          case round =>
           obtain ⟨a, ha, rfl, hag, hBl⟩ := hrel;by_cases hai : a < i
           . have hai1 : (a : Int) < (i : Int) := by omega
             have haR : a < R.length := by omega
             have hM' := HMN.out.below hBl.out;have c0 := hM'.dA haR;unfold Hd.dA at c0;have hal : R[a].xs.length = c := HH.out.1.get haR;rw [hal] at c0;obtain ⟨pa, qa0, qa1, hna⟩ := (hM'.row _ (Cu haR)).get (i := j) (by rw [hal]; exact hjc2);obtain ⟨pi, qi0, qi1, hni⟩ := (hM'.row _ (Cu hiR)).get (i := j) (by rw [hxl]; exact hjc2);have hea : az R a j = R[a].xs[j]'(by rw [hal]; exact hjc2) := gE haR (by rw [hal]; exact hjc2);rw [<- hea] at hna;rw [<- HENT.out, HX.out.1] at hni;have hwa : ag (az R a j).natAbs <= m := by rw [hea]; exact HH.out.2.2 _ (Cu haR) _ (Cu _)
             have hwi : ag x.natAbs <= m := by rw [<- HX.out.1, HENT.out]; exact HH.out.2.2 _ (Cu hiR) _ (Cu _)
             have hba : R[a].blk < wr.heap.size := (hM'.row _ (Cu haR)).lt;have hbi : R[i].blk < wr.heap.size := (hM'.row _ (Cu hiR)).lt;obtain ⟨y, hy⟩ := Cs (az R a j);rw [hy] at hna hwa;have HY := H5 hy; clear hy hea;have HNa := H5 (hna.int (L := 17592186044415) Cp);have HNi := H5 (hni.int (L := 17592186044415) Cp);clear hna hni hwa hwi hM';obtain ⟨za, hza⟩ := Cs (aV y);obtain ⟨zc, hzc⟩ := Cs (oK y x);have hS : Hid (Calls Tryz.prog 16 #[.agg #[.bool pa.1, .slice pa.2.1 pa.2.2.1 pa.2.2.2]] wr.drew fun e w' => e = .returned (.int .i64 za) /\ Below wr.drew.heap.size wr.drew w') := H5 (by
              have := cO (av pa) y wr.drew (ah.below (w := wr) HNa.out (Below.refl _ _).drew); rw [hza] at this; exact this)
             have hC : Hid (∀ W : World, Below wr.heap.size wr W -> Calls Tryz.prog 17 #[.agg #[.bool pa.1, .slice pa.2.1 pa.2.2.1 pa.2.2.2], .agg #[.bool pi.1, .slice pi.2.1 pi.2.2.1 pi.2.2.2]] W fun e w' => e = .returned (.int .i64 zc) /\ Below W.heap.size W w') := H5 (fun W hW => by
              have := Bi (av pa) (av pi) y x W (ah.below HNa.out hW) (ah.below HNi.out hW); rw [hzc] at this; exact this)
             unfold av at *;by_cases hyn : y < 0
             . have t3 : decide (za < 0) = true := by rw [<- hza]; unfold aV; rw [if_pos hyn]; rfl
               have hno := H5 (fun h : HF r c (az R) => by have := (h.row hin HIL.out hjc2 hF'.out.1).2.2 a hai; rw [HY.out] at this; omega : HF r c (az R) -> False);have T3 := H5 t3;clear hza hzc hyn hC qi0 qi1 t3;go_wp2;have t3 : decide (za < 0) = true := T3.out;refine wp_region_any (by kernel_rfl) ?_;try (change wpAny _ _ _ _ _ _ _ (World.drew _))
               refine wpAny_take (i := 0) (v := ?_) rfl (by kernel_rfl) (by kernel_rfl) (by kernel_rfl) (fun _ _ _ h => h) (Or.inl ⟨by kernel_rfl, ?_⟩) ?_;rotate_left
               . intro w; go_simp; try (with_reducible rfl)
               refine wpAny_take (i := 1) (v := ?_) rfl (by kernel_rfl) (by kernel_rfl) (by kernel_rfl) (fun _ _ _ h => h) (Or.inl ⟨by kernel_rfl, ?_⟩) ?_;rotate_left
               . intro w; go_simp; try (with_reducible rfl)
               refine wpAny_take (i := 2) (v := ?_) rfl (by kernel_rfl) (by kernel_rfl) (by kernel_rfl) (fun _ _ _ h => h) (Or.inl ⟨by kernel_rfl, ?_⟩) ?_;rotate_left
               . intro w; go_simp; try (with_reducible rfl)
               refine wpAny_ready (rs := [3]) (by kernel_rfl) Cq ?_;refine AllReady.cons rfl (fun K hK => ?_) AllReady.nil;go_simp;refine hK _ _ ?_;clear hK K;refine wpAny_ready (rs := [4]) (by kernel_rfl) Cq ?_;refine AllReady.cons rfl (fun K hK => ?_) AllReady.nil;go_simp;go_wp2_with (first | (go_at_call 16; refine hS.out.mono ?_; rintro e w7 ⟨rfl, hb7⟩))
               refine wpAny_take (i := 5) (v := ?_) rfl (by kernel_rfl) (by kernel_rfl) (by kernel_rfl) (fun _ _ _ h => h) (Or.inl ⟨by kernel_rfl, ?_⟩) ?_;rotate_left
               . intro w; go_simp; try (with_reducible rfl)
               refine wpAny_take (i := 6) (v := ?_) rfl (by kernel_rfl) (by kernel_rfl) (by kernel_rfl) (fun _ _ _ h => h) (Or.inl ⟨by kernel_rfl, ?_⟩) ?_;rotate_left
               . intro w; go_simp; try (with_reducible rfl)
               refine wpAny_take (i := 7) (v := undef) rfl (by kernel_rfl) (by kernel_rfl) (by kernel_rfl) (fun _ _ _ h => h) (Or.inr ⟨by kernel_rfl, rfl⟩) ?_;refine wpAny_take (i := 8) (v := undef) rfl (by kernel_rfl) (by kernel_rfl) (by kernel_rfl) (fun _ _ _ h => h) (Or.inr ⟨by kernel_rfl, rfl⟩) ?_;refine wpAny_take (i := 9) (v := undef) rfl (by kernel_rfl) (by kernel_rfl) (by kernel_rfl) (fun _ _ _ h => h) (Or.inr ⟨by kernel_rfl, rfl⟩) ?_;refine wpAny_take (i := 10) (v := undef) rfl (by kernel_rfl) (by kernel_rfl) (by kernel_rfl) (fun _ _ _ h => h) (Or.inr ⟨by kernel_rfl, rfl⟩) ?_;refine wpAny_take (i := 11) (v := undef) rfl (by kernel_rfl) (by kernel_rfl) (by kernel_rfl) (fun _ _ _ h => h) (Or.inr ⟨by kernel_rfl, rfl⟩) ?_;refine wpAny_take (i := 12) (v := undef) rfl (by kernel_rfl) (by kernel_rfl) (by kernel_rfl) (fun _ _ _ h => h) (Or.inr ⟨by kernel_rfl, rfl⟩) ?_;refine wpAny_take (i := 13) (v := undef) rfl (by kernel_rfl) (by kernel_rfl) (by kernel_rfl) (fun _ _ _ h => h) (Or.inr ⟨by kernel_rfl, rfl⟩) ?_;refine wpAny_take (i := 14) (v := undef) rfl (by kernel_rfl) (by kernel_rfl) (by kernel_rfl) (fun _ _ _ h => h) (Or.inr ⟨by kernel_rfl, rfl⟩) ?_;refine wpAny_take (i := 15) (v := undef) rfl (by kernel_rfl) (by kernel_rfl) (by kernel_rfl) (fun _ _ _ h => h) (Or.inr ⟨by kernel_rfl, rfl⟩) ?_;refine wpAny_take (i := 16) (v := undef) rfl (by kernel_rfl) (by kernel_rfl) (by kernel_rfl) (fun _ _ _ h => h) (Or.inr ⟨by kernel_rfl, rfl⟩) ?_;refine wpAny_take (i := 17) (v := ?_) rfl (by kernel_rfl) (by kernel_rfl) (by kernel_rfl) (fun _ _ _ h => h) (Or.inl ⟨by kernel_rfl, ?_⟩) ?_;rotate_left
               . intro w; go_simp; try (with_reducible rfl)
               refine wpAny_done (by kernel_rfl) ?_ _;have HB7 : Hid (Below w.heap.size w w7) := H5 (B4.out.trans ((hBl.out.drew.trans (hb7.mono hBl.out.size)).mono B4.out.size));clear hb7 hS hBl;go_simp;go_wp2;go_ret2;exact ⟨⟨false, rfl, HNo.out _ rfl hno.out⟩, HB7.out⟩
             . have t3 : decide (za < 0) = false := by rw [<- hza]; unfold aV; rw [if_neg hyn]; split <;> rfl
               obtain ⟨t, ht⟩ := Cs (decide (0 <= zc));have hty : t = false -> y < x := fun e => by
                subst e;rw [decide_eq_false_iff_not, <- hzc] at ht;unfold oK at ht;by_cases h : y < x
                . exact h
                . rw [if_neg h] at ht; split at ht <;> omega
               have hty2 : t = true -> ¬ y < x := fun e h => by
                subst e;rw [decide_eq_true_iff, <- hzc] at ht;unfold oK at ht;rw [if_pos h] at ht;omega
               have HTY := H5 (Cv hty (Cv hty2 hyn));have T3 := H5 t3;clear hza hzc hyn hty hty2 t3;go_wp2;have t3 : decide (za < 0) = false := T3.out;refine wp_region_any (by kernel_rfl) ?_;try (change wpAny _ _ _ _ _ _ _ (World.drew _))
               refine wpAny_take (i := 0) (v := ?_) rfl (by kernel_rfl) (by kernel_rfl) (by kernel_rfl) (fun _ _ _ h => h) (Or.inl ⟨by kernel_rfl, ?_⟩) ?_;rotate_left
               . intro w; go_simp; try (with_reducible rfl)
               refine wpAny_take (i := 1) (v := ?_) rfl (by kernel_rfl) (by kernel_rfl) (by kernel_rfl) (fun _ _ _ h => h) (Or.inl ⟨by kernel_rfl, ?_⟩) ?_;rotate_left
               . intro w; go_simp; try (with_reducible rfl)
               refine wpAny_take (i := 2) (v := ?_) rfl (by kernel_rfl) (by kernel_rfl) (by kernel_rfl) (fun _ _ _ h => h) (Or.inl ⟨by kernel_rfl, ?_⟩) ?_;rotate_left
               . intro w; go_simp; try (with_reducible rfl)
               refine wpAny_ready (rs := [3]) (by kernel_rfl) Cq ?_;refine AllReady.cons rfl (fun K hK => ?_) AllReady.nil;go_simp;refine hK _ _ ?_;clear hK K;refine wpAny_ready (rs := [4]) (by kernel_rfl) Cq ?_;refine AllReady.cons rfl (fun K hK => ?_) AllReady.nil;go_simp;go_wp2_with (first | (go_at_call 16; refine hS.out.mono ?_; rintro e w7 ⟨rfl, hb7⟩; have k0 := (hb7.cell (p := ⟨R[a].blk, j * 2, none⟩) hba).trans qa0; have k1 := (hb7.cell (p := ⟨R[a].blk, j * 2 + 1, none⟩) hba).trans qa1; have k2 := (hb7.cell (p := ⟨R[i].blk, j * 2, none⟩) hbi).trans qi0; have k3 := (hb7.cell (p := ⟨R[i].blk, j * 2 + 1, none⟩) hbi).trans qi1))
               refine wpAny_take (i := 5) (v := ?_) rfl (by kernel_rfl) (by kernel_rfl) (by kernel_rfl) (fun _ _ _ h => h) (Or.inl ⟨by kernel_rfl, ?_⟩) ?_;rotate_left
               . intro w; go_simp; try (with_reducible rfl)
               refine wpAny_take (i := 6) (v := ?_) rfl (by kernel_rfl) (by kernel_rfl) (by kernel_rfl) (fun _ _ _ h => h) (Or.inl ⟨by kernel_rfl, ?_⟩) ?_;rotate_left
               . intro w; go_simp; try (with_reducible rfl)
               refine wpAny_take (i := 7) (v := ?_) rfl (by kernel_rfl) (by kernel_rfl) (by kernel_rfl) (fun _ _ _ h => h) (Or.inl ⟨by kernel_rfl, ?_⟩) ?_;rotate_left
               . intro w; go_simp; try (with_reducible rfl)
               refine wpAny_take (i := 8) (v := ?_) rfl (by kernel_rfl) (by kernel_rfl) (by kernel_rfl) (fun _ _ _ h => h) (Or.inl ⟨by kernel_rfl, ?_⟩) ?_;rotate_left
               . intro w; go_simp; try (with_reducible rfl)
               refine wpAny_take (i := 9) (v := ?_) rfl (by kernel_rfl) (by kernel_rfl) (by kernel_rfl) (fun _ _ _ h => h) (Or.inl ⟨by kernel_rfl, ?_⟩) ?_;rotate_left
               . intro w; go_simp; try (with_reducible rfl)
               refine wpAny_take (i := 11) (v := ?_) rfl (by kernel_rfl) (by kernel_rfl) (by kernel_rfl) (fun _ _ _ h => h) (Or.inl ⟨by kernel_rfl, ?_⟩) ?_;rotate_left
               . intro w; go_simp; try (with_reducible rfl)
               refine wpAny_take (i := 12) (v := ?_) rfl (by kernel_rfl) (by kernel_rfl) (by kernel_rfl) (fun _ _ _ h => h) (Or.inl ⟨by kernel_rfl, ?_⟩) ?_;rotate_left
               . intro w; go_simp; try (with_reducible rfl)
               refine wpAny_take (i := 13) (v := ?_) rfl (by kernel_rfl) (by kernel_rfl) (by kernel_rfl) (fun _ _ _ h => h) (Or.inl ⟨by kernel_rfl, ?_⟩) ?_;rotate_left
               . intro w; go_simp; try (with_reducible rfl)
               refine wpAny_ready (rs := [10, 14]) (by kernel_rfl) Cq ?_;refine AllReady.cons rfl (fun K hK => ?_) (AllReady.cons rfl (fun K hK => ?_) AllReady.nil)
               . go_simp;refine hK _ _ ?_;clear hK K;refine wpAny_ready (rs := [14]) (by kernel_rfl) Cq ?_;refine AllReady.cons rfl (fun K hK => ?_) AllReady.nil;go_simp;refine hK _ _ ?_;clear hK K;refine wpAny_ready (rs := [15]) (by kernel_rfl) Cq ?_;refine AllReady.cons rfl (fun K hK => ?_) AllReady.nil;go_simp;go_wp2_with (first | (go_at_call 17; refine (hC.out _ ((Below.refl _ wr).drew.trans hb7)).mono ?_; rintro e w8 ⟨rfl, hb8⟩))
                 refine wpAny_take (i := 16) (v := ?_) rfl (by kernel_rfl) (by kernel_rfl) (by kernel_rfl) (fun _ _ _ h => h) (Or.inl ⟨by kernel_rfl, ?_⟩) ?_;rotate_left
                 . intro w; go_simp; try (with_reducible rfl)
                 refine wpAny_take (i := 17) (v := ?_) rfl (by kernel_rfl) (by kernel_rfl) (by kernel_rfl) (fun _ _ _ h => h) (Or.inl ⟨by kernel_rfl, ?_⟩) ?_;rotate_left
                 . intro w; go_simp; try (with_reducible rfl)
                 refine wpAny_done (by kernel_rfl) ?_ _;have HB8 : Hid (Below w4.heap.size w4 w8) := H5 ((hBl.out.drew.trans (hb7.mono hBl.out.size)).trans (hb8.mono (Cw hBl.out.size hb7.size)));clear hb7 hb8 hS hC hBl k0 k1 k2 k3 qa0 qa1 qi0 qi1 c0;clear ht;go_simp;cases t
                 . go_wp2;go_roundw
                   case rel => exact ⟨a + 1, by omega, by go_num, H5 (fun a' h => by
                    by_cases e : a' = a
                    . subst e; rw [HY.out]; exact ⟨by have := HTY.out.2.2; omega, HTY.out.1 rfl⟩
                    . exact hag.out a' Cp), HB8⟩
                   case measure => simp [intOf]; omega
                 . have hno := H5 (fun h : HF r c (az R) => by have := (h.row hin HIL.out hjc2 hF'.out.1).2.2 a hai; rw [HY.out, HX.out.1] at this; have h8 := HTY.out.2.1 rfl; omega : HF r c (az R) -> False);have HB9 : Hid (Below w.heap.size w w8) := H5 (B4.out.trans (HB8.out.mono B4.out.size));go_wp2;go_ret2;first | exact ⟨⟨false, rfl, HNo.out _ rfl hno.out⟩, HB9.out⟩ | exact ⟨.inl ⟨rfl, fun h => by have h8 := (HNo.out _ rfl hno.out).2 h; cases h8⟩, HB9.out⟩
               . go_simp;refine hK _ _ ?_;clear hK K;refine wpAny_ready (rs := [10]) (by kernel_rfl) Cq ?_;refine AllReady.cons rfl (fun K hK => ?_) AllReady.nil;go_simp;refine hK _ _ ?_;clear hK K;refine wpAny_ready (rs := [15]) (by kernel_rfl) Cq ?_;refine AllReady.cons rfl (fun K hK => ?_) AllReady.nil;go_simp;go_wp2_with (first | (go_at_call 17; refine (hC.out _ ((Below.refl _ wr).drew.trans hb7)).mono ?_; rintro e w8 ⟨rfl, hb8⟩))
                 refine wpAny_take (i := 16) (v := ?_) rfl (by kernel_rfl) (by kernel_rfl) (by kernel_rfl) (fun _ _ _ h => h) (Or.inl ⟨by kernel_rfl, ?_⟩) ?_;rotate_left
                 . intro w; go_simp; try (with_reducible rfl)
                 refine wpAny_take (i := 17) (v := ?_) rfl (by kernel_rfl) (by kernel_rfl) (by kernel_rfl) (fun _ _ _ h => h) (Or.inl ⟨by kernel_rfl, ?_⟩) ?_;rotate_left
                 . intro w; go_simp; try (with_reducible rfl)
                 refine wpAny_done (by kernel_rfl) ?_ _;have HB8 : Hid (Below w4.heap.size w4 w8) := H5 ((hBl.out.drew.trans (hb7.mono hBl.out.size)).trans (hb8.mono (Cw hBl.out.size hb7.size)));clear hb7 hb8 hS hC hBl k0 k1 k2 k3 qa0 qa1 qi0 qi1 c0;clear ht;go_simp;cases t
                 . go_wp2;go_roundw
                   case rel => exact ⟨a + 1, by omega, by go_num, H5 (fun a' h => by
                    by_cases e : a' = a
                    . subst e; rw [HY.out]; exact ⟨by have := HTY.out.2.2; omega, HTY.out.1 rfl⟩
                    . exact hag.out a' Cp), HB8⟩
                   case measure => simp [intOf]; omega
                 . have hno := H5 (fun h : HF r c (az R) => by have := (h.row hin HIL.out hjc2 hF'.out.1).2.2 a hai; rw [HY.out, HX.out.1] at this; have h8 := HTY.out.2.1 rfl; omega : HF r c (az R) -> False);have HB9 : Hid (Below w.heap.size w w8) := H5 (B4.out.trans (HB8.out.mono B4.out.size));go_wp2;go_ret2;first | exact ⟨⟨false, rfl, HNo.out _ rfl hno.out⟩, HB9.out⟩ | exact ⟨.inl ⟨rfl, fun h => by have h8 := (HNo.out _ rfl hno.out).2 h; cases h8⟩, HB9.out⟩
           . obtain rfl : a = i := by omega
             have hnx := H5 (hF'.out.1.next HIL.out hjc2 hF'.out.2 (by rw [HX.out.1]; exact HX.out.2) (fun a' h => by rw [HX.out.1]; exact hag.out a' h));go_wp2;go_roundw
             case rel => exact ⟨a + 1, (j : Int), by omega, by go_num, rfl, by omega, by omega, hnx, hBl⟩
             case measure => simp [intOf]; omega
  . obtain rfl : i = r := by omega
    have hfin : HF i c (az R) := hF.out.fin (fun a b hb => HH.out.1.wide a hb);have HFN := H5 hfin; clear hfin;go_wp2;go_ret2;refine ⟨⟨true, rfl, fun _ => HFN.out.congr (fun a _ b => (HH.out.2.1 a b).symm), fun _ => rfl⟩, B4.out.trans (hBl.out.mono B4.out.size)⟩
theorem aQ.up {w : World} {L L' : Nat} {ao : Option Addr} {xs : List Int} (h : aQ w L ao xs) (hL : L <= L') : aQ w L' ao xs := fun hl => by
 obtain ⟨b, o, e, hlt, hc⟩ := h hl;exact ⟨b, o, e, hlt, fun i hi => by obtain ⟨p, h0, h1, hn⟩ := hc i hi; exact ⟨p, h0, h1, hn.mono hL⟩⟩
end Go.Proofs.YtjjlmfmoihooiaaGreat
namespace Go.Proofs.YtjjlmfmoihooiaaGreat
end Go.Proofs.YtjjlmfmoihooiaaGreat
namespace Go.Proofs.YtjjlmfmoihooiaaGreat
open Go.RowKit
end Go.Proofs.YtjjlmfmoihooiaaGreat
namespace Go.Proofs.YtjjlmfmoihooiaaGreat
structure rQ (c n : Nat) (E : Nat -> Nat -> Int) (hs : List Int) (k : Nat) : Prop where
 len : hs.length = k * c
 herm : ∃ l, eo k c (au hs k c) l
 sp : bc n E k (au hs k c)
theorem rQ.to {c n m k : Nat} {E F : Nat -> Nat -> Int} {hs : List Int} (h : rQ c n E hs k) (e : bc m F n E) : rQ c m F hs k := ⟨h.len, h.herm, e.trans h.sp⟩
theorem yd {R : List Hd} {k i : Nat} (hi : i < k) (j : Nat) : az (R.take k) i j = az R i j := by
 by_cases h : i < R.length
 . rw [cJ (R := R) h, cJ (R := R.take k) (by simp; omega)]; simp
 . rw [eY (R := R) Cp, eY (R := R.take k) (by simp; omega)]
theorem Co {R R' : List Hd} {c D k : Nat} (h : rH c D R k R') : rQ c R.length (az R) ((R'.take k).map Hd.xs).flatten k /\ ∀ x ∈ ((R'.take k).map Hd.xs).flatten, x.natAbs < W ^ D := by
 obtain ⟨l, hH⟩ := h.herm;have hl : (R'.take k).length = k := by rw [CZ, h.len]; exact DD h.kl
 have hm := oQ (r := k) hl (fun q hq => h.sh q (Eu hq));have he : ∀ i, i < k -> ∀ j, au ((R'.take k).map Hd.xs).flatten k c i j = az R' i j := fun i hi j => (hm.2 i j).trans (yd hi j);exact ⟨⟨hm.1, ⟨l, hH.congr (fun a ha b => he a ha b)⟩, h.sp.trans (bc.of_eq (fun i hi j => (he i hi j).symm))⟩, nS hm.1 (fun i j hi _ => by rw [he i hi]; exact h.bd i j)⟩
theorem tP {c m n : Nat} {E : Nat -> Nat -> Int} (hn : n <= 66) (hE : ∀ i b, i < n -> (E i b).natAbs < W ^ m) (hz : ∀ i b, c <= b -> E i b = 0) : ∃ hs k, rQ c n E hs k /\ ∀ x ∈ hs, x.natAbs < W ^ hW m := by
 obtain ⟨R, hR⟩ : ∃ R, R = (List.range n).map (fun i => Hd.mk 0 0 ((List.range c).map (E i))) := ⟨_, rfl⟩;have hl : R.length = n := by rw [hR]; simp
 have hx : ∀ i (hi : i < R.length), R[i].xs = (List.range c).map (E i) := fun i hi => by subst hR; simp
 have hsh : Sh c R := fun q hq => by
  obtain ⟨i, hi, rfl⟩ := Dh hq;rw [hx i hi]; simp
 have he : ∀ i, i < n -> ∀ b, az R i b = E i b := fun i hi b => by
  by_cases hb : b < c
  . rw [cJ Cp, hx i Cp]; simp [hb]
  . rw [hsh.wide i Cp, hz i b Cp]
 have hb : ∀ i b, (az R i b).natAbs < W ^ m := fun i b => by
  by_cases hi : i < n
  . rw [he i hi]; exact hE i b hi
  . rw [eY Cp]; exact DF Cr
 obtain ⟨k, R', _, hOk⟩ := oN (N := 66) (B := sf 66 m) hsh hb Cp Cp (Ct _);have hB := Co hOk;refine ⟨_, k, hB.1.to ?_, hB.2⟩;rw [hl];exact bc.of_eq (fun i hi j => (he i hi j).symm)
end Go.Proofs.YtjjlmfmoihooiaaGreat
namespace Go.Proofs.YtjjlmfmoihooiaaGreat
open Go.RowKit
section
variable {P : Program} {Q : Exit -> Act -> World -> Prop} {ds : List Deferred} {S0 : Nat -> Prop} {w0 : World} {n : Nat} {ls : List (Nat × Value)} {es : List En} {c : Code}
theorem er {es' : List En} (k : fg ds P n S0 w0 c Q ls es') (h : Pk es es' := by repeat (first | exact Pk.n | refine Pk.c (by repeat (first | exact Rm.z | apply Rm.s)) ?_)) : fg ds P n S0 w0 c Q ls es := fun a w ha hw => k a w ha (hw.pick h)
end
section
variable {P : Program} {ops : Array Oper} {Q : Exit -> Act -> World -> Prop} {ds : List Deferred} {S0 : Nat -> Prop} {w0 : World} {E0 : List En} {hd : List (List Nat)} {n j s : Nat} {l : List Nat} {G E : List En} {ls : List (Nat × Value)} {op : Op} {ty : TypeId} {pos : String} {af : Array Edge} {v v' : Value}
theorem dE (hv : v' = v) (k : dY ds ⟨P, ops, Q, S0, w0, E0, []⟩ n l G E ((s, v) :: ls))
 (ho : ops[j]? = some ⟨some s, op, ty, pos, af, none⟩ := by rfl) (hk : (bY op && ew ls op && Nat.blt s n) = true := by kernel_rfl)
 (hr : ∀ w, (qM op = true -> Fr S0 w0 w E0) -> (execOp (dy ls) ⟨some s, op, ty, pos, af, none⟩).run P w = .ok (.value v') w := by intro w H; (first | (have c := (H rfl).c; try simp only [tT, cl, Dp, Dt] at c) | skip); clear H; go_simp <;> with_reducible rfl) : dY ds ⟨P, ops, Q, S0, w0, E0, []⟩ n (j :: l) G E ls :=
 dW (v := v) k ho hk (by rw [<- hv]; exact hr)
theorem dB (b : Bool) (k : dY ds ⟨P, ops, Q, S0, w0, E0, []⟩ n l G E ((s, .bool b) :: ls))
 (ho : ops[j]? = some ⟨some s, op, ty, pos, af, none⟩ := by rfl) (hk : (bY op && ew ls op && Nat.blt s n) = true := by kernel_rfl)
 (hr : ∀ w, (qM op = true -> Fr S0 w0 w E0) -> (execOp (dy ls) ⟨some s, op, ty, pos, af, none⟩).run P w = .ok (.value v') w := by intro w H; (first | (have c := (H rfl).c; try simp only [tT, cl, Dp, Dt] at c) | skip); clear H; go_simp <;> with_reducible rfl)
 (hv : v' = .bool b := by first | rfl | (simp [*]; done) | (simp; omega)) : dY ds ⟨P, ops, Q, S0, w0, E0, []⟩ n (j :: l) G E ls :=
 dE hv k ho hk hr
theorem mQ (b : Bool) {sg g : Nat} {want : Bool} (k : dY ds ⟨P, ops, Q, S0, w0, E0, []⟩ n l G E ((s, .bool b) :: ls))
 (ho : ops[j]? = some ⟨some s, op, ty, pos, af, some (g, want)⟩ := by rfl) (hk : (bY op && ew ls op && Nat.blt s n) = true := by kernel_rfl)
 (hg : (ops[g]?).bind (·.dst) = some sg := by rfl) (hi : fe ls (.tmp sg) = true := by kernel_rfl) (hb : dy ls (.tmp sg) = .bool want := by (simp only [cQ, Nat.reduceEqDiff, ↓reduceIte]) <;> first | rfl | simp [*])
 (hr : ∀ w, (qM op = true -> Fr S0 w0 w E0) -> (execOp (dy ls) ⟨some s, op, ty, pos, af, some (g, want)⟩).run P w = .ok (.value v') w := by intro w H; (first | (have c := (H rfl).c; try simp only [tT, cl, Dp, Dt] at c) | skip); clear H; go_simp <;> with_reducible rfl)
 (hv : v' = .bool b := by first | rfl | (simp [*]; done) | (simp; omega)) : dY ds ⟨P, ops, Q, S0, w0, E0, []⟩ n (j :: l) G E ls :=
 dG k ho hk hg hi hb (by rw [<- hv]; exact hr)
end
theorem Fr.apart {S0 : Nat -> Prop} {w0 w : World} {es : List En} (h : Fr S0 w0 w es) {e e1 : En} (he : e ∈ es) (he1 : e1 ∈ es) (hw : e.wr = true) (hw1 : e1.wr = false) {b : Nat} (hb : e.S b) : ¬ e1.S b := fun hb1 => by
 obtain ⟨l1, l2, rfl⟩ := List.append_of_mem he1;have hp := List.pairwise_append.1 h.sep;rcases List.mem_append.1 he with h | h
 . exact (hp.2.2 e h _ (CC ..)).1 hw b hb hb1
 . rcases List.mem_cons.1 h with rfl | h
   . rw [hw] at hw1; cases hw1
   . exact ((List.pairwise_cons.1 hp.2.1).1 e h).2 hw b hb hb1
section
variable {P : Program} {ops : Array Oper} {Q : Exit -> Act -> World -> Prop} {ds : List Deferred} {S0 : Nat -> Prop} {w0 : World} {E0 : List En} {hd : List (List Nat)} {n j s sg g : Nat} {l : List Nat} {G E : List En} {ls : List (Nat × Value)} {op : Op} {ty : TypeId} {pos : String} {af : Array Edge} {f : FuncId} {args : Array Value} {want : Bool}
end
theorem cU {xs : List Int} {i : Nat} (h : i < xs.length) : gi xs i = xs[i] := by simp [gi, h]
theorem iB {ps : List P4} {i : Nat} (h : i < ps.length) : gp ps i = ps[i] := by simp [gp, h]
theorem dP {xs : List Int} {i : Nat} (h : i < xs.length) : gi xs i ∈ xs := by rw [cU h]; exact Cu h
theorem gO {xs : List Int} {i j : Nat} (h : i < xs.length) (x : Int) : gi (xs.set i x) j = if j = i then x else gi xs j := by
 unfold gi;rw [List.getD_eq_getElem?_getD, List.getElem?_set, List.getD_eq_getElem?_getD];by_cases e : i = j
 . subst e; simp [h]
 . have e2 : ¬ j = i := fun q => e q.symm;simp [e, e2]
theorem tu {ps : List P4} {i : Nat} (tl : List Value) (h : i < ps.length) : (rn ps tl)[i * 2]? = some (.bool (gp ps i).1) := by
 have := bG ps;rw [iB h, rn, List.getElem?_append_left Cp]; exact jU ps i h
theorem tt {ps : List P4} {i : Nat} (tl : List Value) (h : i < ps.length) : (rn ps tl)[i * 2 + 1]? = some (.slice (gp ps i).2.1 (gp ps i).2.2.1 (gp ps i).2.2.2) := by
 have := bG ps;rw [iB h, rn, List.getElem?_append_left Cp]; exact jQ ps i h
theorem BR {ps : List P4} {i : Nat} (tl : List Value) (h : i < ps.length) (p : P4) : j0 (rn ps tl) (i * 2) [.bool p.1, .slice p.2.1 p.2.2.1 p.2.2.2] = rn (ps.set i p) tl := by
 have hl := bG ps;simp only [j0, rn];rw [DX _ _ Cp, DX _ _ (by rw [CL]; omega), nH]
theorem aN.rn {ps : List P4} {tl : List Value} (h : aN tl) : aN (rn ps tl) := gK h
theorem bX.set {w : World} {ps : List P4} {xs : List Int} (h : bX w ps xs) (i : Nat) {p : P4} {x : Int} (hp : aL w (av p) x) : bX w (ps.set i p) (xs.set i x) := by
 refine ⟨by simp [h.1], fun j hj => ?_⟩;rw [CL] at hj;have h1 := h.1;by_cases e : i = j
 . subst e;rw [iB (by simpa using hj), cU (by simp; omega)];simpa using hp
 . have := h.2 j hj;rw [iB hj, cU Cp] at this;rw [iB (by simpa using hj), cU (by simp; omega)];simpa [e] using this
theorem bX.snoc {w : World} {ps : List P4} {xs : List Int} (h : bX w ps xs) {p : P4} {x : Int} (hp : aL w (av p) x) : bX w (ps ++ [p]) (xs ++ [x]) := by
 refine ⟨by simp [h.1], fun j hj => ?_⟩;have h1 := h.1;rw [iB hj, cU (by simp at hj |-; omega)];by_cases e : j < ps.length
 . have := h.2 j e;rw [iB e, cU Cp] at this;rw [D9 e, D9 Cp]; exact this
 . have e1 : j = ps.length := by simp at hj; omega
   subst e1;simpa [h1] using hp
theorem bX.nil (w : World) : bX w [] [] := ⟨rfl, fun i h => absurd h Cq⟩
theorem bX.pJ (w : World) (n : Nat) : bX w (List.replicate n p0) (List.replicate n 0) := ⟨by simp, fun i h => by
 have h : i < n := by simpa using h
 rw [iB (by simpa using h), cU (by simpa using h)]; simp; exact aL.zero w⟩
theorem aO.mk' {w : World} {b : Nat} {ps : List P4} {tl : List Value} {xs : List Int} (h : aa w b 37 (rn ps tl)) (ht : aN tl) (hn : bX w ps xs) : aO w b xs :=
 ⟨ps, tl, ht, h, hn.1, fun i h1 h2 => by have := hn.2 i h1; rw [iB h1, cU h2] at this; exact this⟩
theorem Fr.l {S0 : Nat -> Prop} {w0 w : World} {es : List En} (h : Fr S0 w0 w es) {L : Nat} {ao : Option Addr} {xs : List Int} (hx : aQ w L ao xs) (hS : ∀ e ∈ es, e.wr = false) : Fr S0 w0 w (.ls L ao xs :: es) :=
 h.cons hx (fun e he => ⟨(fun q => nomatch q), fun q => by rw [hS e he] at q; cases q⟩) (fun q => nomatch q)
section
variable {P : Program} {Q : Exit -> Act -> World -> Prop} {ds : List Deferred} {S0 : Nat -> Prop} {w0 : World} {n : Nat} {ls : List (Nat × Value)} {es : List En} {c : Code}
theorem Fr.cellOf {w : World} {e : En} {a : Addr} {v : Value} (h : Fr S0 w0 w es) (hm : e ∈ es) (hwr : e.wr = false) (hS : e.S a.block) (hc : w.cell? a = some v) : Fr S0 w0 w (.cell a v :: es) :=
 h.cons (e := .cell a v) hc (fun e' he' => ⟨(fun q => nomatch q), fun q g hg hg' => by
  obtain rfl : g = a.block := hg';exact h.apart he' hm q hwr hg hS⟩) (fun q => nomatch q)
theorem lE {L : Nat} {xs : List Int} {b o : Nat} (i : Nat) (hm : En.ls L (some ⟨b, o, none⟩) xs ∈ es) (hi : i < xs.length) (k : ∀ p : P4, fg ds P n S0 w0 c Q ls (.cell ⟨b, o + i * 2, none⟩ (.bool p.1) :: .cell ⟨b, o + i * 2 + 1, none⟩ (.slice p.2.1 p.2.2.1 p.2.2.2) :: .at L (av p) (gi xs i) :: es)) : fg ds P n S0 w0 c Q ls es := fun a w ha hw => by
 have hA : aQ w L (some ⟨b, o, none⟩) xs := hw.all _ hm;obtain ⟨b', o', e, hb, hc⟩ := hA Cp;cases e;obtain ⟨p, h0, h1, hx⟩ := hc i hi;rw [<- cU hi] at hx;have hS : (En.ls L (some ⟨b, o, none⟩) xs).S b := ⟨by omega, o, rfl⟩;exact k p a w ha (((hw.pure (e := .at L (av p) (gi xs i)) hx (fun _ h => h)).cellOf (CB _ hm) rfl hS h1).cellOf (CB _ (CB _ hm)) rfl hS h0)
theorem lP {e : En} (he : ∀ w, Fr S0 w0 w es -> e.F w) (k : fg ds P n S0 w0 c Q ls (e :: es)) (hS : ∀ b, ¬ e.S b := by intro b h; exact h) : fg ds P n S0 w0 c Q ls es := fun a w ha hw => k a w ha (hw.pure (he w hw) hS)
end
section
variable {ops : Array Oper} {Q : Exit -> Act -> World -> Prop} {ds : List Deferred} {S0 : Nat -> Prop} {w0 : World} {E0 : List En} {hd : List (List Nat)} {n j s : Nat} {l : List Nat} {G E : List En} {ls : List (Nat × Value)} {op : Op} {ty : TypeId} {pos : String} {af : Array Edge}
theorem mN {sl sc : Operand} {a b : Int} {kl kc : IntKind} (x y : Nat) (hx : a = x) (hy : b = y) (hxy : x <= y) (hb : y <= 8796093022208) (k : ∀ g, dY ds ⟨Tryz.prog, ops, Q, S0, w0, E0, hd⟩ n l (.row g 37 (rn (List.replicate y p0) []) :: G) E ((s, .slice (some ⟨g, 0, none⟩) x y) :: ls))
 (ho : ops[j]? = some ⟨some s, .makeSlice 22 sl sc, ty, pos, af, none⟩ := by rfl) (hk : (ew ls (.makeSlice 22 sl sc) && Nat.blt s n) = true := by kernel_rfl)
 (h1 : dy ls sl = .int kl a := by (simp only [cQ, Nat.reduceEqDiff, ↓reduceIte]) <;> rfl) (h2 : dy ls sc = .int kc b := by (simp only [cQ, Nat.reduceEqDiff, ↓reduceIte]) <;> rfl) : dY ds ⟨Tryz.prog, ops, Q, S0, w0, E0, hd⟩ n (j :: l) G E ls := fun A hA => by
 simp only [CO] at hk;refine ⟨_, ho, .inr (.inl ⟨rfl, rfl, fun g => .slice (some ⟨g, 0, none⟩) x y, 37, rn (List.replicate y p0) [], ⟨rfl, fun w => ?_⟩, fun g => k g _ (hA.put (CR hk.2) _)⟩)⟩;rw [hA.exec (o := ⟨some s, .makeSlice 22 sl sc, ty, pos, af, none⟩) hk.1];obtain ⟨i, hi, hz, hs, hbt⟩ := info_parts kR;subst hx hy;have hr := run_make (P := Tryz.prog) w 22 37 i (.agg #[.bool false, .slice none 0 0]) Tryz.underlying22 hi hz kl kc x y Cp Cp (by rw [hbt]; omega) Cp;simp only [Ex] at hr;have e : madeCells (Value.agg #[.bool false, .slice none 0 0]).cells (y * i.size) = (rn (List.replicate y p0) []).toArray := by
  have := pb y;rw [hs, rn, DZ, <- this]
 simp [execOp, h1, h2, hr, Result.andThen, e]
theorem sN {b i : Nat} {ps ps' : List P4} {tl : List Value} {ad x : Operand} {sty : TypeId} {E' : List En} (q : Nat) (p : P4) (hq : q < ps.length) (ht : aN tl) (hs : ps.set q p = ps')
 (k' : dY ds ⟨Tryz.prog, ops, Q, S0, w0, E0, hd⟩ n l G E' ls)
 (ho : ops[j]? = some ⟨none, .store sty ad x, ty, pos, af, none⟩ := by rfl) (hk : ew ls (.store sty ad x) = true := by kernel_rfl)
 (ha : dy ls ad = .pointer (some ⟨b, q * 2, none⟩) := by (simp only [cQ, Nat.reduceEqDiff, ↓reduceIte]) <;> rfl)
 (hv : dy ls x = .agg #[.bool p.1, .slice p.2.1 p.2.2.1 p.2.2.2] := by (simp only [cQ, Nat.reduceEqDiff, ↓reduceIte, av]) <;> rfl)
 (hE : Up (.row b 37 (rn ps tl)) (.row b 37 (rn ps' tl)) i E E' := by repeat first | exact .z | apply Up.s)
 (hr : ∀ w u v, w.cell? ⟨b, q * 2, none⟩ = some u -> w.cell? ⟨b, q * 2 + 1, none⟩ = some v -> w.frozen? ⟨b, q * 2, none⟩ = false -> w.frozen? ⟨b, q * 2 + 1, none⟩ = false -> (execOp (dy ls) ⟨none, .store sty ad x, ty, pos, af, none⟩).run Tryz.prog w = .ok .skip (qy w b (q * 2) [.bool p.1, .slice p.2.1 p.2.2.1 p.2.2.2]) := by intro w u v c0 c1 f0 f1; (try simp only [av]); go_simp <;> rfl)
 (hst : fU ops hd j [i] = true := by kernel_rfl) : dY ds ⟨Tryz.prog, ops, Q, S0, w0, E0, hd⟩ n (j :: l) G E ls := fun a hA => by
 subst hs;refine ⟨_, ho, .inr (.inr ⟨rfl, rfl, Unit, fun _ => undef, fun _ => G, fun _ => E', [i], ⟨()⟩, fun X w hX hw => ?_, hst, fun _ r hr => hE.other (by simpa using hr), fun _ => k' _ (hA.Cj _)⟩)⟩;obtain ⟨m, h1, h2⟩ := hE.right' X G;have hrow : aa w b 37 (rn ps tl) := (hw.perm h1).all _ (CC ..);refine zm rfl ?_;show om _ _ ((execOp a.eval _).run _ w);rw [hA.exec (o := ⟨none, .store sty ad x, ty, pos, af, none⟩) hk, hr w _ _ ((hrow.cell _).trans (tu tl hq)) ((hrow.cell _).trans (tt tl hq)) (hrow.free _) (hrow.free _)];exact ⟨(), rfl, hw.st (t := 37) _ _ (.inl ⟨aN.rn ht, by decide⟩) h1 (by rw [BR tl hq]; exact h2)⟩
end
theorem Fr.conv {S0 : Nat -> Prop} {w0 w : World} {es : List En} {e e' : En} (h : Fr S0 w0 w (e :: es)) (h1 : e.F w -> e'.F w) (h2 : ∀ b, e'.S b -> e.S b) (h3 : e'.wr = true -> e.wr = true) : Fr S0 w0 w (e' :: es) := by
 have hp := List.pairwise_cons.1 h.sep;exact h.tl.cons (h1 h.m0) (fun x hx => ⟨fun q b hb => (hp.1 x hx).1 (h3 q) b (h2 b hb), fun q b hb hb' => (hp.1 x hx).2 q b hb (h2 b hb')⟩) (fun q b hb => h.own e (CC ..) (h3 q) b (h2 b hb))
theorem Fr.lst0 {S0 : Nat -> Prop} {w0 w : World} {es : List En} (h : Fr S0 w0 w es) : Fr S0 w0 w (.jf none 0 0 [] :: es) := h.pure (e := .jf none 0 0 []) ⟨rfl, Ct _, .inl ⟨rfl, rfl⟩⟩ (fun b ⟨o, e⟩ => nomatch e)
section
variable {P : Program} {Q : Exit -> Act -> World -> Prop} {ds : List Deferred} {S0 : Nat -> Prop} {w0 : World} {n : Nat} {ls : List (Nat × Value)} {es : List En} {c : Code}
theorem lst0W (k : fg ds P n S0 w0 c Q ls (.jf none 0 0 [] :: es)) : fg ds P n S0 w0 c Q ls es := fun a w ha hw => k a w ha hw.lst0
end
theorem zt {ps : List P4} {tl : List Value} {cap : Nat} (hl : (rn ps tl).length = cap * 2) (h : ps.length < cap) (p : P4) : j0 (rn ps tl) (ps.length * 2) [.bool p.1, .slice p.2.1 p.2.2.1 p.2.2.2] = rn (ps ++ [p]) (tl.drop 2) := by
 have hf := bG ps;obtain ⟨a, b, t, rfl⟩ : ∃ a b t, tl = a :: b :: t := by
  rw [rn, CQ] at hl;match tl, hl with
  | [], h => simp at h; omega
  | [_], h => simp at h; omega
  | a :: b :: t, _ => exact ⟨a, b, t, rfl⟩
 simp only [j0, rn];rw [D8 _ _ Cp, D8 _ _ Cp, jF, show ps.length * 2 - (flat ps).length = 0 by omega, show ps.length * 2 + 1 - (flat ps).length = 1 by omega];simp [flat]
theorem aU.xc (T : Nat -> Prop) (w : World) (o : Obj) : aU T w (w.drew.alloc o) := aU.bC ⟨rfl, rfl, rfl, by simp, fun q hq => u3 w _ hq⟩
theorem zJ {w : World} {ty : TypeId} {ao : Option Addr} {k cap : Nat} {ps : List P4} (h : qD ao k cap ps w) (hb : k <= 100000000) {ad : Addr} {c : Nat} {p : P4} (h0 : w.cell? ad = some (.bool p.1)) (h1 : w.cell? (ad.add 1) = some (.slice p.2.1 p.2.2.1 p.2.2.2)) :
 ∃ ao' cap' w', (Builtin.append_ #[22, 22] ty #[.slice ao k cap, .slice (some ad) 1 c]).run Tryz.prog w = .ok (.slice ao' (k + 1) cap') w' /\ qD ao' (k + 1) cap' (ps ++ [p]) w' /\ aU (fun g => ∃ o, ao = some ⟨g, o, none⟩) w w' /\ ∀ g, (∃ o, ao' = some ⟨g, o, none⟩) -> (∃ o, ao = some ⟨g, o, none⟩) \/ w.heap.size <= g := by
 obtain ⟨i, hi, hz, hsz, hby⟩ := info_parts kR;have hn : ∀ j u, [Value.bool p.1, .slice p.2.1 p.2.2.1 p.2.2.2][j]? = some u -> w.cell? (ad.add j) = some u := fun j u hj => by
  match j, hj with
  | 0, hj => cases hj; simpa [Addr.add] using h0
  | 1, hj => cases hj; exact h1
 have hsrc : Src Tryz.prog i.size 22 (.slice (some ad) 1 c) 1 [Value.bool p.1, .slice p.2.1 p.2.2.1 p.2.2.2] w := Src.ofSlice w Tryz.underlying22 ad 1 c _ (by rw [hsz]; rfl) hn (by simp [Value.oneCell']);obtain ⟨hk, hkc, hrow⟩ := h;by_cases hroom : k < cap
 . obtain ⟨_, h⟩ | ⟨b, tl, rfl, ht, hr, hl⟩ := hrow
   . omega
   subst hk;have hex : ∀ j, j < cap * 2 -> (w.cell? ⟨b, j, none⟩).isSome = true := fun j hj => by rw [hr.cell, List.getElem?_eq_getElem Cp]; rfl
   refine ⟨_, _, _, run_append_room_src w 22 22 ty 37 i Tryz.underlying22 hi b 0 ps.length cap _ 1 _ hsrc Cp (fun j hj => hex _ ?_) (fun j _ => hr.free _), ?_, ?_, fun g hg => .inl hg⟩
   . rw [hsz]; simp at hj; omega
   . rw [hsz, Db];have h2 := hr.qy [.bool p.1, .slice p.2.1 p.2.2.1 p.2.2.2] (ps.length * 2);rw [zt hl hroom] at h2;refine ⟨by simp, by omega, .inr ⟨b, tl.drop 2, rfl, fun v hv => ht v (EJ hv), h2, ?_⟩⟩;have hf := bG ps;rw [rn, CQ] at hl;rw [rn, CQ, bG]; simp; omega
   . rw [hsz, Db];exact (aU.qy [.bool p.1, .slice p.2.1 p.2.2.1 p.2.2.2] (ps.length * 2) (aU.refl (· = b) w)).mono (fun g _ e => by obtain rfl : g = b := e; exact ⟨0, rfl⟩)
 . obtain rfl : k = cap := by omega
   have hf := bG ps;have hold : (Builtin.firstCells i.size k (.slice ao k k)).run Tryz.prog w.drew = .ok (flat ps).toArray w.drew := by
    obtain ⟨rfl, h⟩ | ⟨b, tl, rfl, ht, hr, hl⟩ := hrow
    . obtain rfl : ps = [] := D5 Cp;exact run_firstCells_none w.drew i.size k k k
    . refine run_firstCells_some w.drew i.size k _ k k (flat ps) (by rw [hsz]; omega) fun j v hj => ?_;have e : w.drew.cell? ((⟨b, 0, none⟩ : Addr).add j) = w.cell? ⟨b, j, none⟩ := by simp only [Addr.add]; by_cases hj0 : j = 0 <;> simp [hj0]
      rw [e, hr.cell, rn, List.getElem?_append_left (List.getElem?_eq_some_iff.1 hj).1]; exact hj
   refine ⟨_, _, _, run_append_grow_src w 22 22 ty 37 i (.agg #[.bool false, .slice none 0 0]) Tryz.underlying22 hi hz ao k k (flat ps) hold _ 1 _ hsrc Cp Cp (growslice_fits Cp (by rw [hby]; omega)), ⟨by simp [hk], grownCap_ge .., .inr ⟨_, (Builtin.zeroCells (Value.agg #[.bool false, .slice none 0 0]).cells (grownCap w (k + 1) k 37 - (k + 1))).toList, rfl, wD _, ?_, ?_⟩⟩, aU.xc _ w _, fun g ⟨o, e⟩ => by cases e; exact .inr (Ct _)⟩
   . have hnew := aa.new w.drew ((flat ps ++ [Value.bool p.1, .slice p.2.1 p.2.2.1 p.2.2.2]).toArray ++ Builtin.zeroCells (Value.agg #[.bool false, .slice none 0 0]).cells (grownCap w (k + 1) k 37 - (k + 1))) 37;rw [rn, jF];simpa [flat] using hnew
   . have hge := grownCap_ge w (k + 1) k 37;have hz2 : (Builtin.zeroCells (Value.agg #[.bool false, .slice none 0 0]).cells (grownCap w (k + 1) k 37 - (k + 1))).toList.length = (grownCap w (k + 1) k 37 - (k + 1)) * 2 := by rw [Array.length_toList, size_zeroCells]; rfl
     rw [rn, CQ, bG, CQ, hz2]; simp; omega
section
variable {ops : Array Oper} {Q : Exit -> Act -> World -> Prop} {ds : List Deferred} {S0 : Nat -> Prop} {w0 : World} {E0 : List En} {hd : List (List Nat)} {n j s : Nat} {l : List Nat} {G E : List En} {ls : List (Nat × Value)} {op : Op} {ty : TypeId} {pos : String} {af : Array Edge}
theorem Cb {i k cap g : Nat} {ao : Option Addr} {ps : List P4} {t : TypeId} {c : Nat} (p : P4) {sa xa : Operand} {E' : Option Addr × Nat -> List En} (hb : k <= 100000000)
 (hm : En.row g t [.bool p.1, .slice p.2.1 p.2.2.1 p.2.2.2] ∈ G ++ E)
 (k' : ∀ q, dY ds ⟨Tryz.prog, ops, Q, S0, w0, E0, hd⟩ n l G (E' q) ((s, .slice q.1 (k + 1) q.2) :: ls))
 (ho : ops[j]? = some ⟨some s, .call { callee := Callee.builtin Builtin.append, args := #[sa, xa], argTypes := #[22, 22] }, ty, pos, af, none⟩ := by rfl) (hk : (ew ls (.call { callee := Callee.builtin Builtin.append, args := #[sa, xa], argTypes := #[22, 22] }) && Nat.blt s n) = true := by kernel_rfl)
 (ha : dy ls sa = .slice ao k cap := by (simp only [cQ, Nat.reduceEqDiff, ↓reduceIte]) <;> rfl)
 (hv : dy ls xa = .slice (some ⟨g, 0, none⟩) 1 c := by (simp only [cQ, Nat.reduceEqDiff, ↓reduceIte, av]) <;> rfl)
 (hE : ∀ q, Up (.jf ao k cap ps) (.jf q.1 (k + 1) q.2 (ps ++ [p])) i E (E' q) := by intro q; repeat first | exact .z | apply Up.s)
 (hst : fU ops hd j [i] = true := by kernel_rfl) : dY ds ⟨Tryz.prog, ops, Q, S0, w0, E0, hd⟩ n (j :: l) G E ls := fun a hA => by
 simp only [CO] at hk;refine ⟨_, ho, .inr (.inr ⟨rfl, rfl, Option Addr × Nat, fun q => .slice q.1 (k + 1) q.2, fun _ => G, E', [i], ⟨(none, 0)⟩, fun X w hX hw => ?_, hst, fun q r hr => (hE q).other (by simpa using hr), fun q => k' q _ (hA.put (CR hk.2) _)⟩)⟩;have hrow : aa w g t [.bool p.1, .slice p.2.1 p.2.2.1 p.2.2.2] := hw.all _ (DS _ hm);have hl : qD ao k cap ps w := by
  obtain ⟨m, h1, h2⟩ := (hE (none, 0)).right' X G;exact (hw.perm h1).all _ (CC ..)
 obtain ⟨ao', cap', w', hrun, h1', hc, hS⟩ := zJ (ty := ty) hl hb (ad := ⟨g, 0, none⟩) (c := c) (hrow.cell 0) (hrow.cell 1);obtain ⟨m, h1, h2⟩ := (hE (ao', cap')).right' X G;refine zm rfl ?_;show om _ _ ((execOp a.eval _).run _ w);rw [hA.exec (o := ⟨some s, .call { callee := Callee.builtin Builtin.append, args := #[sa, xa], argTypes := #[22, 22] }, ty, pos, af, none⟩) hk.1];have e : (execOp (dy ls) ⟨some s, .call { callee := Callee.builtin Builtin.append, args := #[sa, xa], argTypes := #[22, 22] }, ty, pos, af, none⟩).run Tryz.prog w = .ok (.value (.slice ao' (k + 1) cap')) w' := by
  simp [execOp, resolve, invoke, builtin, ha, hv, hrun, Result.andThen]
 rw [e];refine ⟨(ao', cap'), rfl, Fr.perm ((hw.perm h1).bU (e := .jf ao k cap ps) (e' := .jf ao' (k + 1) cap' (ps ++ [p])) rfl hc (fun x hx _ => ?_) (fun _ h => h) h1' hS) h2.symm⟩;rintro b ⟨o, rfl⟩;obtain ⟨_, _, ⟨h, _⟩ | ⟨b', tl, h, ht, hr, _⟩⟩ := hl
 . cases h
 . cases h; exact ⟨_, _, hr, aN.rn ht, by decide⟩
end
section
variable {P : Program} {ops : Array Oper} {Q : Exit -> Act -> World -> Prop} {ds : List Deferred} {S0 : Nat -> Prop} {w0 : World} {E0 : List En} {hd : List (List Nat)} {n j s : Nat} {l : List Nat} {G E : List En} {ls : List (Nat × Value)} {op : Op} {ty : TypeId} {pos : String} {af : Array Edge} {f : FuncId} {args : Array Value}
end
section
variable {P : Program} {Q : Exit -> Act -> World -> Prop} {ds : List Deferred} {S0 : Nat -> Prop} {w0 : World} {n : Nat} {ls : List (Nat × Value)} {es : List En} {c : Code}
end
section
variable {P : Program} {ops : Array Oper} {Q : Exit -> Act -> World -> Prop} {ds : List Deferred} {S0 : Nat -> Prop} {w0 : World} {E0 : List En} {hd : List (List Nat)} {n j s : Nat} {l : List Nat} {G E : List En} {ls : List (Nat × Value)} {op : Op} {ty : TypeId} {pos : String} {af : Array Edge} {f : FuncId} {args : Array Value}
theorem bW {t : TypeId} {cs : List Value} {m : Nat} (k : ∀ g, dY ds ⟨P, ops, Q, S0, w0, E0, hd⟩ n l (.row g t cs :: G) E ((s, .slice (some ⟨g, 0, none⟩) m m) :: ls))
 (ho : ops[j]? = some ⟨some s, op, ty, pos, af, none⟩ := by rfl) (hk : (!bY op && dD op && ew ls op && Nat.blt s n) = true := by kernel_rfl)
 (hr : ∀ w, (execOp (dy ls) ⟨some s, op, ty, pos, af, none⟩).run P w = .ok (.value (.slice (some ⟨w.heap.size, 0, none⟩) m m)) (w.alloc (.cells cs.toArray t (0, 0))) := by intro w; (try simp only [av]); go_simp <;> with_reducible rfl) : dY ds ⟨P, ops, Q, S0, w0, E0, hd⟩ n (j :: l) G E ls := fun a ha => by
 simp only [CO, DE] at hk;refine ⟨_, ho, .inr (.inl ⟨hk.1.1.1, hk.1.1.2, fun g => .slice (some ⟨g, 0, none⟩) m m, t, cs, ⟨rfl, fun w => ?_⟩, fun g => k g _ (ha.put (CR hk.2) _)⟩)⟩;rw [ha.exec hk.1.2];exact hr w
end
theorem aQ.pos {w : World} {L : Nat} {ao : Option Addr} {xs : List Int} (h : aQ w L ao xs) {i : Nat} (hi : i < xs.length) : ∃ b o, ao = some ⟨b, o, none⟩ := by
 obtain ⟨b, o, e, _⟩ := h Cp;exact ⟨b, o, e⟩
theorem mT {w : World} {ao : Option Addr} {k cap : Nat} {ps : List P4} {xs : List Int} (h : qD ao k cap ps w) (hn : bX w ps xs) : fq w ao xs := fun hl => by
 obtain ⟨h1, _, ⟨_, h2⟩ | ⟨b, tl, rfl, ht, hr, _⟩⟩ := h
 . have := hn.1; omega
 . exact (aO.mk' hr ht hn).lsN hl
theorem o0 {ls : List (Nat × Value)} {w : World} {t b : Nat} {x y z : Value} (h : aa w b 24 [x, y, z]) (h1 : fe ls (.tmp t) = true := by kernel_rfl) (h2 : dy ls (.tmp t) = .pointer (some ⟨b, 0, none⟩) := by (simp only [cQ, Nat.reduceEqDiff, ↓reduceIte]) <;> rfl) : fm Tryz.prog ls w (.cell t 24) (.agg #[x, y, z]) :=
 ⟨h1, _, h2, run_loadVar_row w b 24 24 #[x, y, z] (0, 0) _ h Tryz.underlying24 rfl (by kernel_rfl)⟩
section
variable {P : Program} {ops : Array Oper} {Q : Exit -> Act -> World -> Prop} {ds : List Deferred} {S0 : Nat -> Prop} {w0 : World} {E0 : List En} {hd : List (List Nat)} {n j s sg g : Nat} {l : List Nat} {G E : List En} {ls : List (Nat × Value)} {op : Op} {ty : TypeId} {pos : String} {af : Array Edge} {f : FuncId} {args : Array Value} {v : Value} {want : Bool}
theorem cGg {α : Type} {mk : α -> Value} {ens : α -> List En} (c : ∀ w, Fr S0 w0 w (G ++ E) -> Calls P f args w fun e w' => ∃ p, e = .returned (mk p) /\ Nw w w' (ens p))
 (k : ∀ p, dY ds ⟨P, ops, Q, S0, w0, E0, hd⟩ n l (ens p ++ G) E ((s, mk p) :: ls))
 (ho : ops[j]? = some ⟨some s, op, ty, pos, af, some (g, want)⟩ := by rfl) (hk : (!bY op && !dD op && ew ls op && Nat.blt s n) = true := by kernel_rfl)
 (hg : (ops[g]?).bind (·.dst) = some sg := by rfl) (hi : fe ls (.tmp sg) = true := by kernel_rfl) (hb : dy ls (.tmp sg) = .bool want := by (simp only [cQ, Nat.reduceEqDiff, ↓reduceIte]) <;> first | rfl | simp [*])
 (hr : ∀ w, (execOp (dy ls) ⟨some s, op, ty, pos, af, some (g, want)⟩).run P w = .ok (.enter f args) w := by intro w; (try simp only [av]); go_simp <;> with_reducible rfl) (hne : Nonempty α := by infer_instance)
 (hst : fU ops hd j [] = true := by kernel_rfl) : dY ds ⟨P, ops, Q, S0, w0, E0, hd⟩ n (j :: l) G E ls := fun a ha => by
 simp only [CO, DE] at hk;refine ⟨_, ho, .inr (.inr ⟨hk.1.1.1, hk.1.1.2, α, mk, fun p => ens p ++ G, fun _ => E, [], hne, fun X w hX hw => ?_, hst, fun _ _ _ => rfl, fun p => k p _ (ha.put (CR hk.2) _)⟩)⟩;rw [if_pos (by rw [jR ha hg hi hb]; simp)];show om P _ ((execOp a.eval _).run P w);rw [ha.exec hk.1.2, hr w];refine (c w (hw.sub (DN ..))).mono ?_;rintro e w' ⟨p, rfl, hn⟩;refine ⟨_, rfl, p, rfl, (hn.fr hw).perm ?_⟩;rw [EL];exact (EB (ens p) X (G ++ E))
theorem B8 (c : ∀ w, Fr S0 w0 w (G ++ E) -> Calls P f args w fun e w' => e = .returned v /\ Below w.heap.size w w')
 (k : dY ds ⟨P, ops, Q, S0, w0, E0, hd⟩ n l G E ((s, v) :: ls))
 (ho : ops[j]? = some ⟨some s, op, ty, pos, af, some (g, want)⟩ := by rfl) (hk : (!bY op && !dD op && ew ls op && Nat.blt s n) = true := by kernel_rfl)
 (hg : (ops[g]?).bind (·.dst) = some sg := by rfl) (hi : fe ls (.tmp sg) = true := by kernel_rfl) (hb : dy ls (.tmp sg) = .bool want := by (simp only [cQ, Nat.reduceEqDiff, ↓reduceIte]) <;> first | rfl | simp [*])
 (hr : ∀ w, (execOp (dy ls) ⟨some s, op, ty, pos, af, some (g, want)⟩).run P w = .ok (.enter f args) w := by intro w; (try simp only [av]); go_simp <;> with_reducible rfl)
 (hst : fU ops hd j [] = true := by kernel_rfl) : dY ds ⟨P, ops, Q, S0, w0, E0, hd⟩ n (j :: l) G E ls := by
 refine cGg (α := Unit) (mk := fun _ => v) (ens := fun _ => []) (fun w hw => (c w hw).mono ?_) (fun _ => k) ho hk hg hi hb hr ⟨()⟩ hst;rintro e w' ⟨rfl, hb⟩;exact ⟨(), rfl, hb, fun e he => (DQ he).elim, .nil⟩
theorem uC (k : dY ds ⟨P, ops, Q, S0, w0, E0, hd⟩ n l G E ((s, undef) :: ls))
 (ho : ops[j]? = some ⟨some s, op, ty, pos, af, some (g, want)⟩ := by rfl) (hk : (!bY op && !dD op && Nat.blt s n) = true := by kernel_rfl)
 (hg : (ops[g]?).bind (·.dst) = some sg := by rfl) (hi : fe ls (.tmp sg) = true := by kernel_rfl) (hb : dy ls (.tmp sg) = .bool (!want) := by (simp only [cQ, Nat.reduceEqDiff, ↓reduceIte]) <;> first | rfl | simp [*])
 (hst : fU ops hd j [] = true := by kernel_rfl) : dY ds ⟨P, ops, Q, S0, w0, E0, hd⟩ n (j :: l) G E ls := fun a ha => by
 simp only [CO, DE] at hk;refine ⟨_, ho, .inr (.inr ⟨hk.1.1, hk.1.2, Unit, fun _ => undef, fun _ => G, fun _ => E, [], ⟨()⟩, fun X w hX hw => ?_, hst, fun _ _ _ => rfl, fun _ => k _ (ha.put (CR hk.2) _)⟩)⟩;rw [if_neg (by rw [jR ha hg hi hb]; simp)];exact ⟨(), rfl, hw⟩
end
theorem cNo' {P : Program} {f : FuncId} {args : Array Value} {w : World} {B : Nat} {x : Int} (h : Calls P f args w fun e w' => (∃ v, e = .returned v /\ ai w' w.heap.size v x) /\ Below w.heap.size w w') (hB : B <= w.heap.size) : Calls P f args w fun e w' => ∃ p : P4, e = .returned (av p) /\ Nw w w' [.own B (av p) x] := h.mono fun e w' ⟨⟨v, he, hv⟩, hb⟩ => by
 subst he;obtain ⟨b, ao, l', k', rfl⟩ := ai.parts hv;exact ⟨(b, ao, l', k'), rfl, hb, fun e he => by
  rcases List.mem_singleton.1 he with rfl;exact ⟨ai.mono hv hB, fun _ h => h.elim⟩, CM ..⟩
section
variable {ops : Array Oper} {Q : Exit -> Act -> World -> Prop} {ds : List Deferred} {S0 : Nat -> Prop} {w0 : World} {E0 : List En} {hd : List (List Nat)} {n j s : Nat} {l : List Nat} {G E : List En} {ls : List (Nat × Value)} {ty : TypeId} {pos : String} {af : Array Edge}
end
theorem dL {a : Nat} (h : a < 9223372036854775807) : Value.int .i64 (IntKind.i64.wrap ((a : Int) + 1)) = .int .i64 ((a + 1 : Nat) : Int) := by
 rw [wrap_small] <;> first | rfl | omega
theorem sO {a b : Nat} (h : a + b < 9223372036854775807) : Value.int .i64 (IntKind.i64.wrap ((a : Int) + b)) = .int .i64 ((a + b : Nat) : Int) := by
 rw [wrap_small] <;> first | rfl | omega
theorem oI {a b : Nat} (h : a * b < 9223372036854775808) : Value.int .i64 (IntKind.i64.wrap ((a : Int) * b)) = .int .i64 ((a * b : Nat) : Int) := by
 rw [<- Dq, wrap_small] <;> first | rfl | omega
theorem minI (a b : Nat) : Value.int .i64 (min (a : Int) b) = .int .i64 ((min a b : Nat) : Int) := by congr 1; omega
theorem Fr.ln {S0 : Nat -> Prop} {w0 w : World} {es : List En} (h : Fr S0 w0 w es) {ao : Option Addr} {xs : List Int} (hx : fq w ao xs) (hS : ∀ e ∈ es, e.wr = false) : Fr S0 w0 w (.jn ao xs :: es) :=
 h.cons hx (fun e he => ⟨(fun q => nomatch q), fun q => by rw [hS e he] at q; cases q⟩) (fun q => nomatch q)
theorem fq.pos {w : World} {ao : Option Addr} {xs : List Int} (h : fq w ao xs) {i : Nat} (hi : i < xs.length) : ∃ b o, ao = some ⟨b, o, none⟩ := by
 obtain ⟨b, o, e, _⟩ := h Cp;exact ⟨b, o, e⟩
section
variable {P : Program} {Q : Exit -> Act -> World -> Prop} {ds : List Deferred} {S0 : Nat -> Prop} {w0 : World} {n : Nat} {ls : List (Nat × Value)} {es : List En} {c : Code}
theorem Ba {xs : List Int} {b o : Nat} (i : Nat) (hm : En.jn (some ⟨b, o, none⟩) xs ∈ es) (hi : i < xs.length) (k : ∀ p : P4, fg ds P n S0 w0 c Q ls (.cell ⟨b, o + i * 2, none⟩ (.bool p.1) :: .cell ⟨b, o + i * 2 + 1, none⟩ (.slice p.2.1 p.2.2.1 p.2.2.2) :: .num (av p) (gi xs i) :: es)) : fg ds P n S0 w0 c Q ls es := fun a w ha hw => by
 have hA : fq w (some ⟨b, o, none⟩) xs := hw.all _ hm;obtain ⟨b', o', e, hb, hc⟩ := hA Cp;cases e;obtain ⟨p, h0, h1, hx⟩ := hc i hi;rw [<- cU hi] at hx;have hS : (En.jn (some ⟨b, o, none⟩) xs).S b := ⟨by omega, o, rfl⟩;exact k p a w ha (((hw.pure (e := .num (av p) (gi xs i)) hx (fun _ h => h)).cellOf (CB _ hm) rfl hS h1).cellOf (CB _ (CB _ hm)) rfl hS h0)
end
theorem yM {n : Nat} (h0 : 0 < n) (h : n < W) : fM n = [n] := by
 have e := iz (Ok.one h);have hv : ae [n] = n := by simp [ae]
 have hw : ag n = 1 := by
  have e1 : ag n ≠ 0 := fun e => by have := dx.1 e; omega
  have e2 : ag n <= 1 := an (by simpa using h);omega
 have ht := bS (Ok.one h);rw [hv, hw] at ht;rw [hv, <- ht] at e;simpa using e
theorem iZ {n : Nat} (h0 : 0 < n) (h : n < W) : ag n = 1 := by
 have e1 : ag n ≠ 0 := fun e => by have := dx.1 e; omega
 have e2 : ag n <= 1 := an (by simpa using h);omega
theorem zu {r c i j : Nat} (hi : i < r) (hj : j < c) : i * c + j < r * c := by
 have h1 : (i + 1) * c <= r * c := Cy _ hi;have h2 : (i + 1) * c = i * c + c := Dz i c;omega
section
variable {P : Program} {ops : Array Oper} {Q : Exit -> Act -> World -> Prop} {ds : List Deferred} {S0 : Nat -> Prop} {w0 : World} {E0 : List En} {n j s sg g : Nat} {l : List Nat} {G E : List En} {ls : List (Nat × Value)} {op : Op} {ty : TypeId} {pos : String} {af : Array Edge} {v v' : Value} {want : Bool}
theorem dGE (hv : v' = v) (k : dY ds ⟨P, ops, Q, S0, w0, E0, []⟩ n l G E ((s, v) :: ls))
 (ho : ops[j]? = some ⟨some s, op, ty, pos, af, some (g, want)⟩ := by rfl) (hk : (bY op && ew ls op && Nat.blt s n) = true := by kernel_rfl)
 (hg : (ops[g]?).bind (·.dst) = some sg := by rfl) (hi : fe ls (.tmp sg) = true := by kernel_rfl) (hb : dy ls (.tmp sg) = .bool want := by (simp only [cQ, Nat.reduceEqDiff, ↓reduceIte]) <;> first | rfl | simp [*])
 (hr : ∀ w, (qM op = true -> Fr S0 w0 w E0) -> (execOp (dy ls) ⟨some s, op, ty, pos, af, some (g, want)⟩).run P w = .ok (.value v') w := by intro w H; (first | (have c := (H rfl).c; try simp only [tT, cl, Dp, Dt] at c) | skip); clear H; go_simp <;> with_reducible rfl) : dY ds ⟨P, ops, Q, S0, w0, E0, []⟩ n (j :: l) G E ls :=
 dG k ho hk hg hi hb (by rw [<- hv]; exact hr)
end
theorem Fr.cl {S0 : Nat -> Prop} {w0 w : World} {es : List En} (h : Fr S0 w0 w es) {a : Addr} {v : Value} (hc : w.cell? a = some v) (hS : ∀ e ∈ es, e.wr = false) : Fr S0 w0 w (.cell a v :: es) :=
 h.cons (e := .cell a v) hc (fun e he => ⟨(fun q => nomatch q), fun q => by rw [hS e he] at q; cases q⟩) (fun q => nomatch q)
end Go.Proofs.YtjjlmfmoihooiaaGreat
namespace Go.Proofs.YtjjlmfmoihooiaaGreat
def aF (c : Nat) (f : Nat -> Nat -> Int) (k : Nat) : List Int := (List.range k).map fun q => f (q / c) (q % c)
theorem aD (c : Nat) (f : Nat -> Nat -> Int) (k : Nat) : (aF c f k).length = k := by simp [aF]
theorem pB {c i j : Nat} (f : Nat -> Nat -> Int) (hj : j < c) : aF c f (i * c + j + 1) = aF c f (i * c + j) ++ [f i j] := by
 have h1 : (i * c + j) / c = i := by rw [CE, Nat.mul_add_div Cp, D0 hj]; rfl
 have h2 : (i * c + j) % c = j := by rw [CE, Nat.mul_add_mod, Dk hj]
 unfold aF;rw [Ey, List.map_append];simp [h1, h2]
theorem gm {r c i j : Nat} (f : Nat -> Nat -> Int) (hi : i < r) (hj : j < c) : (aF c f (r * c)).getD (i * c + j) 0 = f i j := by
 have h1 : (i * c + j) / c = i := by rw [CE, Nat.mul_add_div Cp, D0 hj]; rfl
 have h2 : (i * c + j) % c = j := by rw [CE, Nat.mul_add_mod, Dk hj]
 have h3 : (i + 1) * c <= r * c := Cy _ hi;have h4 : (i + 1) * c = i * c + c := Dz i c;unfold aF;rw [List.getD_eq_getElem?_getD, List.getElem?_map, List.getElem?_range Cp];simp [h1, h2]
end Go.Proofs.YtjjlmfmoihooiaaGreat
namespace Go.Proofs.YtjjlmfmoihooiaaGreat
open Go.RowKit
def eO (xs : List Int) (i j : Nat) : Int := if i = j /\ i < xs.length then gi xs i else 0
theorem zS (i j g : Nat) (la : Option Addr) (cap L : Nat) (xs : List Int) (w : World) (hg : w.cell? ⟨g, 0, none⟩ = some (.slice la xs.length cap)) (hA : aQ w L la xs) (hL : L <= 17592186044415) :
 Calls Tryz.prog 97 #[.int .i64 (i : Int), .int .i64 (j : Int), .pointer (some ⟨g, 0, none⟩)] w fun e w' => (∃ v, e = .returned v /\ ai w' w.heap.size v (eO xs i j)) /\ Below w.heap.size w w' := by
 refine bN (S0 := fun _ => False) Tryz.func97 (((Fr.nil _ w).l hA Cq).cl hg (by simp [En.wr])) ?_;refine aA ?_;refine aW fun g5 => ?_;refine eW ?_;by_cases h : i = j /\ i < xs.length
 . obtain ⟨rfl, h2⟩ := h;have e0 : eO xs i i = gi xs i := by rw [eO, if_pos ⟨rfl, h2⟩]
   rw [e0];obtain ⟨bx, ox, rfl⟩ := hA.pos h2;refine aA ?_;refine aT ?_;refine dB true ?_;refine dW ?_;refine oz ?_;refine mQ true ?_;refine aC ?_;refine nM ?_;refine lE (L := L) (xs := xs) (b := bx) (o := ox) i Cq h2 fun p => ?_;refine aA ?_;refine bh ?_;refine cN (fun w' H => gz (av p) _ w' (H.m2.mono hL)) fun q => ?_;refine sW ?_;refine eQ ?_;refine dZ fun w' H => ?_;exact ⟨_, jh H.m4, ⟨_, rfl, H.m0⟩, H.below⟩
 . have e0 : eO xs i j = 0 := by rw [eO, if_neg h]
   rw [e0];refine aA ?_;refine aT ?_;rcases Decidable.em (i = j) with e | e
   case' inl =>
    have hlt : ¬ i < xs.length := fun q => h ⟨e, q⟩;subst e;clear h;refine dB true ?_;refine dW ?_;refine oz ?_;refine mQ false ?_
   case' inr =>
    clear h;refine dB false ?_;refine dW ?_;refine AP ?_
   all_goals
    refine aC ?_;refine kf ?_;refine aA ?_;refine dW ?_;refine sW ?_;refine eQ ?_;refine dZ fun w' H => ?_;exact ⟨_, jh H.m0, ⟨_, rfl, ai.zero _ _⟩, H.below⟩
theorem AZ {P : Program} {Q : Exit -> Act -> World -> Prop} {ds : List Deferred} {S0 : Nat -> Prop} {w0 : World} {n b N : Nat} {ls : List (Nat × Value)} {es : List En} {c : Code} (k : fg ds P n S0 w0 c Q ls (.jf (some ⟨b, 0, none⟩) 0 N [] :: es)) : fg ds P n S0 w0 c Q ls (.row b 37 (rn (List.replicate N p0) []) :: es) := fun a w ha hw =>
 k a w ha (hw.conv (fun hr => ⟨rfl, Cx _, .inr ⟨b, rn (List.replicate N p0) [], rfl, aN.rn aN.nil, hr, by show (rn (List.replicate N p0) []).length = _; rw [rn, DZ, bG]; simp; omega⟩⟩) (fun g ⟨o, e⟩ => by cases e; rfl) (fun _ => rfl))
structure B1X where
 i : Nat
 K : Nat
 ao : Option Addr
 cap : Nat
 ps : List P4
structure B1I (r c : Nat) (z : B1X) : Prop where
 hi : z.i <= r
 hK : z.i * c = z.K
structure B2X where
 j : Nat
 K : Nat
 ao : Option Addr
 cap : Nat
 ps : List P4
structure B2I (c i : Nat) (z : B2X) : Prop where
 hj : z.j <= c
 hK : i * c + z.j = z.K
theorem ym (F : FuncId) (hF : ∀ (args : Array Value) (w : World), (callFunc F args).run Tryz.prog w = .ok (.enter F args) w) (r c g : Nat) (f : Nat -> Nat -> Int) (w : World) (hr : r <= 64) (hc : c <= 64)
 (hf : ∀ (i j : Nat) (w' : World), i < r -> j < c -> Below w.heap.size w w' -> Calls Tryz.prog F #[.int .i64 (i : Int), .int .i64 (j : Int), .pointer (some ⟨g, 0, none⟩)] w' fun e w'' => (∃ v, e = .returned v /\ ai w'' w'.heap.size v (f i j)) /\ Below w'.heap.size w' w'') :
 Calls Tryz.prog 56 #[.int .i64 (r : Int), .int .i64 (c : Int), .func (.func F) #[] #[.pointer (some ⟨g, 0, none⟩)]] w fun e w' => (∃ ao cap, e = .returned (.agg #[.int .i64 (r : Int), .int .i64 (c : Int), .slice ao (r * c) cap]) /\ fq w' ao (aF c f (r * c)) /\ r * c <= cap /\ ∀ b o, ao = some ⟨b, o, none⟩ -> w.heap.size <= b) /\ Below w.heap.size w w' := by
 have hnc : r * c <= 4096 := Da hr hc;have hms : r * c < 9223372036854775808 := by omega
 refine bN (S0 := fun _ => False) Tryz.func56 (Fr.nil _ w) ?_;refine aA ?_;refine aW fun g6 => ?_;refine eW ?_;refine aA ?_;refine bh ?_;refine dE (oI (a := r) (b := c) hms) ?_;obtain ⟨N, hN⟩ := Cs (r * c);rw [hN] at hnc |-;have HN : Hid (r * c = N) := H5 hN;clear hms hN;refine mN 0 N rfl rfl (Cx _) Cp fun b => ?_;refine dW ?_;refine aW fun g7 => ?_;refine sG ?_;refine eW ?_;refine er (es' := [.row b 37 (rn (List.replicate N p0) []), .row g7 24 [.int .i64 (r : Int), .int .i64 (c : Int), .slice (some ⟨b, 0, none⟩) 0 N], .row g6 24 [.int .i64 0, .int .i64 0, .slice none 0 0]]) ?_;refine AZ ?_;refine lP (e := .ns [] (aF c f 0)) (fun w' _ => bX.nil w') ?_;refine er (es' := [.row g7 24 [.int .i64 (r : Int), .int .i64 (c : Int), .slice (some ⟨b, 0, none⟩) 0 N], .row g6 24 [.int .i64 0, .int .i64 0, .slice none 0 0], .jf (some ⟨b, 0, none⟩) 0 N [], .ns [] (aF c f 0)]) ?_;refine aA ?_;refine dW ?_;refine aC ?_;refine cF (X := B1X) (B1I r c) (fun z => r - z.i) (fun z => [(18, .int .i64 (z.i : Int)), (17, .int .i64 (r : Int)), (1, .int .i64 (c : Int)), (2, .func (.func F) #[] #[.pointer (some ⟨g, 0, none⟩)]), (7, .pointer (some ⟨g7, 0, none⟩)), (6, .pointer (some ⟨g6, 0, none⟩))])
  (fun z => [.row g7 24 [.int .i64 (r : Int), .int .i64 (c : Int), .slice z.ao z.K z.cap], .row g6 24 [.int .i64 0, .int .i64 0, .slice none 0 0], .jf z.ao z.K z.cap z.ps, .ns z.ps (aF c f z.K)]) ⟨0, 0, some ⟨b, 0, none⟩, N, []⟩ ⟨Cx _, Fg _⟩ fun z hz => ?_
 obtain ⟨i, K, ao, cap, ps⟩ := z;obtain ⟨hi, hK⟩ := hz
 replace hi : i <= r := hi
 replace hK : i * c = K := hK
 by_cases h : i < r
 . have h01 : (i : Int) < (r : Int) := by omega
   have HK : Hid (i * c + 0 = K) := H5 hK;clear hK;refine aA ?_;refine kq ?_;refine aA ?_;refine dW ?_;refine aC ?_;refine dO ?_;refine aC ?_;refine cF (X := B2X) (B2I c i) (fun z => c - z.j) (fun z => [(22, .int .i64 (z.j : Int)), (21, .int .i64 (c : Int)), (8, .int .i64 (i : Int)), (18, .int .i64 (i : Int)), (17, .int .i64 (r : Int)), (1, .int .i64 (c : Int)), (2, .func (.func F) #[] #[.pointer (some ⟨g, 0, none⟩)]), (7, .pointer (some ⟨g7, 0, none⟩)), (6, .pointer (some ⟨g6, 0, none⟩))])
    (fun z => [.row g7 24 [.int .i64 (r : Int), .int .i64 (c : Int), .slice z.ao z.K z.cap], .row g6 24 [.int .i64 0, .int .i64 0, .slice none 0 0], .jf z.ao z.K z.cap z.ps, .ns z.ps (aF c f z.K)]) ⟨0, K, ao, cap, ps⟩ ⟨Cx _, HK.out⟩ fun z hz => ?_
   clear HK;obtain ⟨j, K, ao, cap, ps⟩ := z;obtain ⟨hj, hK⟩ := hz
   replace hj : j <= c := hj
   replace hK : i * c + j = K := hK
   by_cases h' : j < c
   . have h02 : (j : Int) < (c : Int) := by omega
     have hlt := zu h h';have ht := pB (i := i) f h';have hKN : K <= 100000000 := by have := HN.out; omega
     rw [hK] at ht;have HT : Hid (aF c f (K + 1) = aF c f K ++ [f i j] /\ i * c + j = K) := H5 ⟨ht, hK⟩;clear ht hK hlt;refine aA ?_;refine kq ?_;refine aA ?_;refine dW ?_;refine aC ?_;refine rW [] ?_;refine bh ?_;refine dW ?_;refine cN (fun w' H => hf i j w' h h' H.below) fun q => ?_;refine bW (m := 1) fun g31 => ?_;refine je (e := .ns (ps ++ [q]) (aF c f (K + 1))) (fun w' H => by rw [HT.out.1]; exact bX.snoc H.m5 H.m1.num) ?_;refine Cb (g := g31) (t := 37) (c := 1) (ao := ao) (k := K) (cap := cap) (ps := ps) q hKN Cq fun z => ?_;refine dW ?_;refine sW ?_;refine eW ?_;refine aA ?_;refine dE (dL (a := j) Cp) ?_;refine aC ?_;exact cD (⟨j + 1, K + 1, z.1, z.2, ps ++ [q]⟩ : B2X) ⟨⟨h', by show i * c + (j + 1) = K + 1; have := HT.out.2; omega⟩, by show c - (j + 1) < c - j; omega⟩
   . obtain rfl : j = c := by omega
     have HK : Hid ((i + 1) * j = K) := H5 (by rw [Dz]; exact hK);clear hK;refine aA ?_;refine fC ?_;refine aA ?_;refine dE (dL (a := i) Cp) ?_;refine aC ?_;exact cD (⟨i + 1, K, ao, cap, ps⟩ : B1X) ⟨⟨h, HK.out⟩, by show r - (i + 1) < r - i; omega⟩
 . obtain rfl : i = r := by omega
   obtain rfl : K = N := by rw [<- hK]; exact HN.out
   clear hK;refine aA ?_;refine fC ?_;refine aA ?_;refine dW ?_;refine sW ?_;refine eQ ?_;refine dZ fun w' H => ?_;exact ⟨_, o0 H.m1, ⟨ao, cap, rfl, mT H.m2 H.m3, (show qD ao K cap ps w' from H.m2).2.1, fun b o e => (H.own (.jf ao K cap ps) Cq rfl b ⟨o, e⟩).elim (fun h => h.elim) id⟩, H.below⟩
theorem r6 {A : Prop} {P : Program} {Q : Exit -> Act -> World -> Prop} {ds : List Deferred} {S0 : Nat -> Prop} {w0 : World} {n : Nat} {ls : List (Nat × Value)} {es : List En} {c : Code} (hm : En.pr A ∈ es) (k : A -> fg ds P n S0 w0 c Q ls es) : fg ds P n S0 w0 c Q ls es := fun a w ha hw => k (hw.all _ hm) a w ha hw
section
variable {P : Program} {ops : Array Oper} {Q : Exit -> Act -> World -> Prop} {ds : List Deferred} {S0 : Nat -> Prop} {w0 : World} {E0 : List En} {hd : List (List Nat)} {n j s : Nat} {l : List Nat} {G E : List En} {ls : List (Nat × Value)} {op : Op} {ty : TypeId} {pos : String} {af : Array Edge} {v : Value} {f : FuncId} {args : Array Value}
theorem fW (k : dY ds ⟨P, ops, Q, S0, w0, E0, hd⟩ n l G E ((s, v) :: ls))
 (ho : ops[j]? = some ⟨some s, op, ty, pos, af, none⟩ := by rfl) (hk : (!bY op && !dD op && ew ls op && Nat.blt s n) = true := by kernel_rfl)
 (hr : ∀ w, (execOp (dy ls) ⟨some s, op, ty, pos, af, none⟩).run P w = .ok (.value v) w := by intro w; (try simp only [av]); go_simp <;> with_reducible rfl)
 (hst : fU ops hd j [] = true := by kernel_rfl) : dY ds ⟨P, ops, Q, S0, w0, E0, hd⟩ n (j :: l) G E ls := fun a ha => by
 simp only [CO, DE] at hk;refine ⟨_, ho, .inr (.inr ⟨hk.1.1.1, hk.1.1.2, Unit, fun _ => v, fun _ => G, fun _ => E, [], ⟨()⟩, fun X w hX hw => ?_, hst, fun _ _ _ => rfl, fun _ => k _ (ha.put (CR hk.2) _)⟩)⟩;refine zm rfl ?_;show om P _ ((execOp a.eval _).run P w);rw [ha.exec hk.1.2, hr w];exact ⟨(), rfl, hw⟩
theorem mU {α : Type} {mk : α -> Value} {ao : α -> Option Addr} {xs : α -> List Int} {A : α -> Prop} (c : ∀ w, Fr S0 w0 w (G ++ E) -> Calls P f args w fun e w' => (∃ p, e = .returned (mk p) /\ fq w' (ao p) (xs p) /\ A p /\ ∀ b o, ao p = some ⟨b, o, none⟩ -> w.heap.size <= b) /\ Below w.heap.size w w')
 (k : ∀ p, dY ds ⟨P, ops, Q, S0, w0, E0, hd⟩ n l (.jn (ao p) (xs p) :: .pr (A p /\ ∀ b o, ao p = some ⟨b, o, none⟩ -> w0.heap.size <= b) :: G) E ((s, mk p) :: ls))
 (ho : ops[j]? = some ⟨some s, op, ty, pos, af, none⟩ := by rfl) (hk : (!bY op && !dD op && ew ls op && Nat.blt s n) = true := by kernel_rfl)
 (hr : ∀ w, (execOp (dy ls) ⟨some s, op, ty, pos, af, none⟩).run P w = .ok (.enter f args) w := by intro w; (try simp only [av]); go_simp <;> with_reducible rfl) (hne : Nonempty α := by infer_instance)
 (hst : fU ops hd j [] = true := by kernel_rfl) : dY ds ⟨P, ops, Q, S0, w0, E0, hd⟩ n (j :: l) G E ls := by
 refine cG (mk := mk) (ens := fun p => [.jn (ao p) (xs p), .pr (A p /\ ∀ b o, ao p = some ⟨b, o, none⟩ -> w0.heap.size <= b)]) (fun w hw => (c w hw).mono ?_) k ho hk hr hne hst;rintro e w' ⟨⟨p, rfl, hl, hA, hS⟩, hb⟩;exact ⟨p, rfl, hb, fun e he => by
  rcases List.mem_cons.1 he with rfl | he
  . exact ⟨hl, fun b ⟨_, o, e⟩ => hS b o e⟩
  . rcases List.mem_singleton.1 he with rfl;exact ⟨⟨hA, fun b o e => Cw hw.size (hS b o e)⟩, fun _ h => h.elim⟩, List.pairwise_pair.2 ⟨(fun h => nomatch h), (fun h => nomatch h)⟩⟩
end
theorem lj (b : Nat) : ∀ (us : List Value) (k : Nat) (w : World), w.setCells b k us = qy w b k us
 | [], _, _ => rfl
 | _ :: us, k, _ => lj b us (k + 1) _
theorem mu : ∀ (us : List Value) (k : Nat) (cs : List Value), (j0 cs k us).length = cs.length
 | [], _, _ => rfl
 | u :: us, k, cs => by rw [j0, mu us, CL]
section
variable {ops : Array Oper} {Q : Exit -> Act -> World -> Prop} {ds : List Deferred} {S0 : Nat -> Prop} {w0 : World} {E0 : List En} {hd : List (List Nat)} {n j s : Nat} {l : List Nat} {G E : List En} {ls : List (Nat × Value)} {ty : TypeId} {pos : String} {af : Array Edge}
end
section
variable {ops : Array Oper} {Q : Exit -> Act -> World -> Prop} {ds : List Deferred} {S0 : Nat -> Prop} {w0 : World} {E0 : List En} {hd : List (List Nat)} {n j s : Nat} {l : List Nat} {G E : List En} {ls : List (Nat × Value)} {ty : TypeId} {pos : String} {af : Array Edge}
end
theorem rP (F : FuncId) (hF : ∀ (args : Array Value) (w : World), (callFunc F args).run Tryz.prog w = .ok (.enter F args) w) (lb : Array Value) (r c : Nat) (f : Nat -> Nat -> Int) (w : World) (hr : r <= 64) (hc : c <= 64)
 (hf : ∀ (i j : Nat) (w' : World), i < r -> j < c -> Below w.heap.size w w' -> Calls Tryz.prog F (#[.int .i64 (i : Int), .int .i64 (j : Int)] ++ lb) w' fun e w'' => (∃ v, e = .returned v /\ ai w'' w'.heap.size v (f i j)) /\ Below w'.heap.size w' w'') :
 Calls Tryz.prog 56 #[.int .i64 (r : Int), .int .i64 (c : Int), .func (.func F) #[] lb] w fun e w' => (∃ ao cap ps, e = .returned (.agg #[.int .i64 (r : Int), .int .i64 (c : Int), .slice ao (r * c) cap]) /\ qD ao (r * c) cap ps w' /\ bX w' ps (aF c f (r * c)) /\ ∀ b o, ao = some ⟨b, o, none⟩ -> w.heap.size <= b) /\ Below w.heap.size w w' := by
 have hnc : r * c <= 4096 := Da hr hc;have hms : r * c < 9223372036854775808 := by omega
 refine bN (S0 := fun _ => False) Tryz.func56 (Fr.nil _ w) ?_;refine aA ?_;refine aW fun g6 => ?_;refine eW ?_;refine aA ?_;refine bh ?_;refine dE (oI (a := r) (b := c) hms) ?_;obtain ⟨N, hN⟩ := Cs (r * c);rw [hN] at hnc |-;have HN : Hid (r * c = N) := H5 hN;clear hms hN;refine mN 0 N rfl rfl (Cx _) Cp fun b => ?_;refine dW ?_;refine aW fun g7 => ?_;refine sG ?_;refine eW ?_;refine er (es' := [.row b 37 (rn (List.replicate N p0) []), .row g7 24 [.int .i64 (r : Int), .int .i64 (c : Int), .slice (some ⟨b, 0, none⟩) 0 N], .row g6 24 [.int .i64 0, .int .i64 0, .slice none 0 0]]) ?_;refine AZ ?_;refine lP (e := .ns [] (aF c f 0)) (fun w' _ => bX.nil w') ?_;refine er (es' := [.row g7 24 [.int .i64 (r : Int), .int .i64 (c : Int), .slice (some ⟨b, 0, none⟩) 0 N], .row g6 24 [.int .i64 0, .int .i64 0, .slice none 0 0], .jf (some ⟨b, 0, none⟩) 0 N [], .ns [] (aF c f 0)]) ?_;refine aA ?_;refine dW ?_;refine aC ?_;refine cF (X := B1X) (B1I r c) (fun z => r - z.i) (fun z => [(18, .int .i64 (z.i : Int)), (17, .int .i64 (r : Int)), (1, .int .i64 (c : Int)), (2, .func (.func F) #[] lb), (7, .pointer (some ⟨g7, 0, none⟩)), (6, .pointer (some ⟨g6, 0, none⟩))])
  (fun z => [.row g7 24 [.int .i64 (r : Int), .int .i64 (c : Int), .slice z.ao z.K z.cap], .row g6 24 [.int .i64 0, .int .i64 0, .slice none 0 0], .jf z.ao z.K z.cap z.ps, .ns z.ps (aF c f z.K)]) ⟨0, 0, some ⟨b, 0, none⟩, N, []⟩ ⟨Cx _, Fg _⟩ fun z hz => ?_
 obtain ⟨i, K, ao, cap, ps⟩ := z;obtain ⟨hi, hK⟩ := hz
 replace hi : i <= r := hi
 replace hK : i * c = K := hK
 by_cases h : i < r
 . have h01 : (i : Int) < (r : Int) := by omega
   have HK : Hid (i * c + 0 = K) := H5 hK;clear hK;refine aA ?_;refine kq ?_;refine aA ?_;refine dW ?_;refine aC ?_;refine dO ?_;refine aC ?_;refine cF (X := B2X) (B2I c i) (fun z => c - z.j) (fun z => [(22, .int .i64 (z.j : Int)), (21, .int .i64 (c : Int)), (8, .int .i64 (i : Int)), (18, .int .i64 (i : Int)), (17, .int .i64 (r : Int)), (1, .int .i64 (c : Int)), (2, .func (.func F) #[] lb), (7, .pointer (some ⟨g7, 0, none⟩)), (6, .pointer (some ⟨g6, 0, none⟩))])
    (fun z => [.row g7 24 [.int .i64 (r : Int), .int .i64 (c : Int), .slice z.ao z.K z.cap], .row g6 24 [.int .i64 0, .int .i64 0, .slice none 0 0], .jf z.ao z.K z.cap z.ps, .ns z.ps (aF c f z.K)]) ⟨0, K, ao, cap, ps⟩ ⟨Cx _, HK.out⟩ fun z hz => ?_
   clear HK;obtain ⟨j, K, ao, cap, ps⟩ := z;obtain ⟨hj, hK⟩ := hz
   replace hj : j <= c := hj
   replace hK : i * c + j = K := hK
   by_cases h' : j < c
   . have h02 : (j : Int) < (c : Int) := by omega
     have hlt := zu h h';have ht := pB (i := i) f h';have hKN : K <= 100000000 := by have := HN.out; omega
     rw [hK] at ht;have HT : Hid (aF c f (K + 1) = aF c f K ++ [f i j] /\ i * c + j = K) := H5 ⟨ht, hK⟩;clear ht hK hlt;refine aA ?_;refine kq ?_;refine aA ?_;refine dW ?_;refine aC ?_;refine rW [] ?_;refine bh ?_;refine dW ?_;refine cN (fun w' H => hf i j w' h h' H.below) fun q => ?_;refine bW (m := 1) fun g31 => ?_;refine je (e := .ns (ps ++ [q]) (aF c f (K + 1))) (fun w' H => by rw [HT.out.1]; exact bX.snoc H.m5 H.m1.num) ?_;refine Cb (g := g31) (t := 37) (c := 1) (ao := ao) (k := K) (cap := cap) (ps := ps) q hKN Cq fun z => ?_;refine dW ?_;refine sW ?_;refine eW ?_;refine aA ?_;refine dE (dL (a := j) Cp) ?_;refine aC ?_;exact cD (⟨j + 1, K + 1, z.1, z.2, ps ++ [q]⟩ : B2X) ⟨⟨h', by show i * c + (j + 1) = K + 1; have := HT.out.2; omega⟩, by show c - (j + 1) < c - j; omega⟩
   . obtain rfl : j = c := by omega
     have HK : Hid ((i + 1) * j = K) := H5 (by rw [Dz]; exact hK);clear hK;refine aA ?_;refine fC ?_;refine aA ?_;refine dE (dL (a := i) Cp) ?_;refine aC ?_;exact cD (⟨i + 1, K, ao, cap, ps⟩ : B1X) ⟨⟨h, HK.out⟩, by show r - (i + 1) < r - i; omega⟩
 . obtain rfl : i = r := by omega
   obtain rfl : K = N := by rw [<- hK]; exact HN.out
   clear hK;refine aA ?_;refine fC ?_;refine aA ?_;refine dW ?_;refine sW ?_;refine eQ ?_;refine dZ fun w' H => ?_;exact ⟨_, o0 H.m1, ⟨ao, cap, ps, rfl, H.m2, H.m3, fun b o e => (H.own (.jf ao K cap ps) Cq rfl b ⟨o, e⟩).elim (fun h => h.elim) id⟩, H.below⟩
theorem lf (F : FuncId) (hF : ∀ (args : Array Value) (w : World), (callFunc F args).run Tryz.prog w = .ok (.enter F args) w) (lb : Array Value) (r c : Nat) (f : Nat -> Nat -> Int) (w : World) (hr : r <= 64) (hc : c <= 64)
 (hf : ∀ (i j : Nat) (w' : World), i < r -> j < c -> Below w.heap.size w w' -> Calls Tryz.prog F (#[.int .i64 (i : Int), .int .i64 (j : Int)] ++ lb) w' fun e w'' => (∃ v, e = .returned v /\ ai w'' w'.heap.size v (f i j)) /\ Below w'.heap.size w' w'') :
 Calls Tryz.prog 56 #[.int .i64 (r : Int), .int .i64 (c : Int), .func (.func F) #[] lb] w fun e w' => (∃ ao cap, e = .returned (.agg #[.int .i64 (r : Int), .int .i64 (c : Int), .slice ao (r * c) cap]) /\ fq w' ao (aF c f (r * c)) /\ r * c <= cap /\ ∀ b o, ao = some ⟨b, o, none⟩ -> w.heap.size <= b) /\ Below w.heap.size w w' :=
 (rP F hF lb r c f w hr hc hf).mono fun e w' ⟨⟨ao, cap, ps, he, hl, hn, hb⟩, hB⟩ => ⟨⟨ao, cap, he, mT hl hn, hl.2.1, hb⟩, hB⟩
abbrev wT (l : Nat) : Fence := Fence.wide.inRound l
theorem wy {P : Program} {f : FuncId} {args : Array Value} {w : World} {R : Ending -> World -> Prop} (l n : Nat) (h : Calls P f args w R) : CallsIn (wT l) n P f args w R := ((callsIn_wide (n := n)).2 h).inRound l
theorem xX {P : Program} {row : String} {args : Array Value} {w : World} {R : Value -> World -> Prop} (l n : Nat) (h : Rows P row args w R) : RowsIn (wT l) n P row args w R := fun c cs _ => by
 obtain ⟨v, w', r, s⟩ := h c cs;exact ⟨v, w', r, stepsIn_wide.2 s⟩
def AT (q : Act -> World -> Prop) : Exit -> Act -> World -> Prop
 | .normal, a, w => q a w
 | _, _, _ => False
theorem ux {q : Act -> World -> Prop} : ¬ LetsOut (AT q) := fun ⟨_, _, h⟩ => h
def vH (ops : Array Oper) : Bool := ops.all fun o => match o.op with | .defer _ => false | _ => true
theorem zD {ops : Array Oper} (h : vH ops = true) {i : Nat} {o : Oper} (ho : ops[i]? = some o) : ∀ c, o.op ≠ .defer c := fun c e => by
 unfold vH at h;rw [EK] at h;obtain ⟨hi, rfl⟩ := Array.getElem?_eq_some_iff.1 ho;have := h i hi;rw [e] at this;cases this
section
variable {P : Program} {ops : Array Oper} {q : Act -> World -> Prop} {Q' : Exit -> Act -> World -> Prop} {l n : Nat}
theorem vm (hd : vH ops = true) {i : Nat} {K K' : Act -> World -> Prop} {a : Act} {w : World} (hK : ∀ a w, K a w -> K' a w) (h : wpOp P ops (AT q) i K a w) : wpOpIn (wT l) n P ops Q' i K' a w := by
 unfold wpOp at h;unfold wpOpIn;cases ho : ops[i]? with
 | none => rw [ho] at h; exact hK _ _ h
 | some o =>
  rw [ho] at h;simp only at h |-;by_cases hw : Region.wanted o (yielded ops a.tmps) = true
  . rw [if_pos hw] at h |-;have h := h.resolve_right fun q => ux q.2;unfold Oper.wp at h;refine ⟨fun _ _ => trivial, ?_⟩;rw [Oper.semAt_eq _ _ _ (zD hd ho)];generalize (execOp a.eval o).run P w = r at *;cases r with
    | halt x w' => cases x <;> exact h.elim
    | ok nx w' =>
     cases nx with
     | value v => exact hK _ _ h
     | skip => exact hK _ _ h
     | defer d => exact hK _ _ h
     | enter f args =>
      refine ⟨fun h => by simp [wT, Fence.inRound, Fence.wide] at h, wy l (n - 1) (Calls.mono h fun e w'' he => ?_)⟩;cases e with
      | returned v => exact hK _ _ he
      | panicked c => exact he.elim
      | outgrown => exact (ux he).elim
     | row row args => exact ⟨fun h => by simp [wT, Fence.inRound, Fence.wide] at h, xX l (n - 1) (Rows.mono h fun v w'' he => hK _ _ he)⟩
     | _ => exact h.elim
  . rw [if_neg hw] at h |-;exact ⟨fun _ _ => trivial, hK _ _ h⟩
theorem rG (hd : vH ops = true) (hq : ∀ a w, q a w -> Q' .normal a w) {md : Region.Mode} : ∀ (fuel : Nat) (ls : Array Bool) (a : Act) (w : World), wpAny P md ops (AT q) fuel ls a w -> wpAnyIn (wT l) n P md ops Q' fuel ls a w
 | 0, _, _, _, h => ⟨h.1, hq _ _ h.2⟩
 | fuel + 1, ls, a, w, h => ⟨fun hr => hq _ _ (h.1 hr), fun i hi => vm hd (fun a w k => rG hd hq fuel _ a w k) (h.2 i hi)⟩
theorem sI (hd : vH ops = true) (hq : ∀ a w, q a w -> Q' .normal a w) : ∀ (l' : List Nat) (a : Act) (w : World), wpOps P ops (AT q) l' a w -> wpOpsIn (wT l) n P ops Q' l' a w
 | [], _, _, h => hq _ _ h
 | i :: l', a, w, h => by
  rw [wpOps_cons] at h;rw [wpOpsIn_cons];exact vm hd (fun a w k => sI hd hq l' a w k) h
end
def CI (l N : Nat) (P : Program) (n : Nat) (S0 : Nat -> Prop) (w0 : World) (c : Code) (Q : Exit -> Act -> World -> Prop) (ls : List (Nat × Value)) (es : List En) : Prop := ∀ a w, Sl n ls a -> Fr S0 w0 w es -> c.wpIn (wT l) N P Q a w
section
variable {P : Program} {ops : Array Oper} {Q Qx : Exit -> Act -> World -> Prop} {S0 : Nat -> Prop} {w0 : World} {n l N : Nat} {ls : List (Nat × Value)} {es : List En}
theorem rI {id m : Nat} {d : Bool} (hd : List (List Nat)) (k : RWs ⟨P, ops, AT (Q .normal), S0, w0, es, hd⟩ n (uc m 0) [] es ls) (hm : P.follows .mixedOrders = true := by kernel_rfl) (hn : ops.size = m := by rfl) (hok : (l4 ops m && vH ops) = true := by kernel_rfl) : CI l N P n S0 w0 (.region id ops d) Q ls es := fun a w ha hw => by
 simp only [CO] at hok;cases d with
 | true => exact wpIn_region_any hm (rG hok.2 (fun _ _ h => h) _ _ _ _ (rgA1 ⟨P, ops, AT (Q .normal), S0, w0, es, hd⟩ hn hok.1 hw (k a ha)))
 | false => exact wpIn_region (sI hok.2 (fun _ _ h => h) _ _ _ (rgB1 ⟨P, ops, AT (Q .normal), S0, w0, es, hd⟩ hn hok.1 hw (k a ha)))
theorem nrmI {D : List En} (k : QW n S0 w0 Q .normal ls D) : QW n S0 w0 (AT (Q .normal)) .normal ls D := k
theorem seqI {x y : Code} (k : CI l N P n S0 w0 x (Exit.then (y.wpIn (wT l) N P Q) Q) ls es) : CI l N P n S0 w0 (.seq x y) Q ls es := fun a w ha hw => wpIn_seq (k a w ha hw)
theorem Bg {id : Nat} {c : Code} (k : CI l N P n S0 w0 c (Exit.inBlock id Q) ls es) : CI l N P n S0 w0 (.block id c) Q ls es := fun a w ha hw => wpIn_block (k a w ha hw)
theorem nextI {y : Code} (k : CI l N P n S0 w0 y Q ls es) : QW n S0 w0 (Exit.then (y.wpIn (wT l) N P Q) Qx) .normal ls es := k
theorem yO {Z R : Prop} (k : R) (h : R -> Z := by
 intro k;repeat (first | refine nrmI ?_ | refine seqI ?_ | refine skipI ?_ | refine nextI ?_ | refine Bg ?_ | refine exitI ?_ | refine AX ?_ | refine inbN ?_ | refine inbE ?_ | refine inbX Cr ?_)
 exact k) : Z := h k
end
theorem wL {w : World} {l : Nat} {o o' : Obj} (hl : w.heap[l]? = some o) (hn : o.isCells = false) {p : Addr} {v : Value} (h : w.cell? p = some v) : (w.putObj l o').cell? p = some v := by
 by_cases e : p.block = l
 . exfalso;unfold World.cell? at h;rw [e, hl] at h;cases o <;> simp_all [Obj.isCells]
 . exact (World.cell?_of_block (World.putObj_heap_other e)).trans h
theorem so {w : World} {l : Nat} {o o' x : Obj} (hl : w.heap[l]? = some o) (hn : o.isCells = false) {b : Nat} (h : w.heap[b]? = some x) (hx : x.isCells = true) : (w.putObj l o').heap[b]? = some x := by
 by_cases e : b = l
 . subst e; rw [hl] at h; cases h; rw [hn] at hx; cases hx
 . rw [World.putObj_heap_other e]; exact h
theorem iA {w : World} {l : Nat} {o o' : Obj} (hl : w.heap[l]? = some o) (hn : o.isCells = false) {b : Nat} {t : TypeId} {cs : List Value} (h : aa w b t cs) : aa (w.putObj l o') b t cs := so hl hn h rfl
theorem yf {w : World} {l : Nat} {o o' : Obj} (hl : w.heap[l]? = some o) (hn : o.isCells = false) {ao : Option Addr} {ws : List Nat} (h : cX w ao ws) : cX (w.putObj l o') ao ws := by
 refine ⟨h.1, fun hp => ?_⟩;obtain ⟨b, q, e, hb, hc⟩ := h.2 hp;exact ⟨b, q, e, by rw [show (w.putObj l o').heap.size = w.heap.size by simp]; exact hb, fun i hi => wL hl hn (hc i hi)⟩
theorem xj {w : World} {l : Nat} {o o' : Obj} (hl : w.heap[l]? = some o) (hn : o.isCells = false) {L : Nat} {v : Value} {x : Int} (h : ah w L v x) : ah (w.putObj l o') L v x := by
 obtain ⟨n, ao, len, cap, ws, e, hW, r⟩ := h;exact ⟨n, ao, len, cap, ws, e, yf hl hn hW, r⟩
theorem kM {w : World} {l : Nat} {o o' : Obj} (hl : w.heap[l]? = some o) (hn : o.isCells = false) {v : Value} {x : Int} (h : aL w v x) : aL (w.putObj l o') v x := ⟨xj hl hn h.1, h.2⟩
theorem vR {w : World} {l : Nat} {o o' : Obj} (hl : w.heap[l]? = some o) (hn : o.isCells = false) {b : Nat} {xs : List Int} (h : aO w b xs) : aO (w.putObj l o') b xs := by
 obtain ⟨ps, tl, nt, hr, hl', hN⟩ := h;exact ⟨ps, tl, nt, iA hl hn hr, hl', fun i h1 h2 => kM hl hn (hN i h1 h2)⟩
def Pz (e : En) : Prop := ∀ (w : World) (l : Nat) (o o' : Obj), w.heap[l]? = some o -> o.isCells = false -> e.F w -> e.F (w.putObj l o')
theorem Pz.row {b : Nat} {t : TypeId} {cs : List Value} : Pz (.row b t cs) := fun _ _ _ _ hl hn h => iA hl hn h
theorem Pz.own {B : Nat} {v : Value} {x : Int} : Pz (.own B v x) := fun w l o o' hl hn h => by
 obtain ⟨ao, cap, rfl, h1, h2, h3, h4⟩ := (h : ai w B v x);refine ⟨ao, cap, rfl, h1, h2, h3, h4.imp id ?_⟩;rintro ⟨g, c, cur, hv, hbb, hg, r⟩;exact ⟨g, c, cur, hv, hbb, so hl hn hg rfl, r⟩
theorem Pz.ns {ps : List P4} {xs : List Int} : Pz (.ns ps xs) := fun _ _ _ _ hl hn h => ⟨h.1, fun i a => kM hl hn (h.2 i a)⟩
theorem Pz.jf {ao : Option Addr} {k cap : Nat} {ps : List P4} : Pz (.jf ao k cap ps) := fun w l o o' hl hn ⟨h1, h2, h⟩ => ⟨h1, h2, h.imp id fun ⟨b, tl, e, hn', hr, hl'⟩ => ⟨b, tl, e, hn', iA hl hn hr, hl'⟩⟩
theorem Pz.lg {te : TypeId} {sz : Nat} {ao : Option Addr} {k cap : Nat} {cs : List Value} : Pz (.lg te sz ao k cap cs) := fun w l o o' hl hn ⟨h1, h2, h⟩ => ⟨h1, h2, h.imp id fun ⟨b, tl, e, hn', hr, hl'⟩ => ⟨b, tl, e, hn', iA hl hn hr, hl'⟩⟩
theorem Pz.jm {x : Nat} {gs : List Nat} {E : List (List Int)} : Pz (.jm x gs E) := fun w l o o' hl hn h t ht hx => by
 obtain ⟨ps, tl, hn', hr, h1, h2⟩ := (h : Aj x gs E w) t ht hx;exact ⟨ps, tl, hn', iA hl hn hr, h1, fun i a => kM hl hn (h2 i a)⟩
def Cz (e : En) : Prop := ∀ w : World, e.F w -> e.wr = true -> ∀ b, e.S b -> ∃ t cs, aa w b t cs /\ aN cs
theorem Cz.row {b : Nat} {t : TypeId} {cs : List Value} (hn : aN cs := by repeat (first | exact aN.nil | exact gH _ | apply aN.bool | apply aN.slice | apply aN.i64 | apply aN.ptr | apply aN.append | unfold cl)) : Cz (.row b t cs) := fun w h _ g e => by cases (e : g = b); exact ⟨_, _, h, hn⟩
theorem Cz.no {e : En} (h : e.wr = false) : Cz e := fun _ _ h' => by rw [h] at h'; cases h'
theorem Cz.jf {ao : Option Addr} {k cap : Nat} {ps : List P4} : Cz (.jf ao k cap ps) := fun w ⟨_, _, h⟩ _ g ⟨o, e⟩ => by
 rcases h with ⟨h, _⟩ | ⟨b, tl, h, hn, hr, _⟩
 . rw [e] at h; cases h
 . rw [e] at h; cases h; exact ⟨_, _, hr, aN.rn hn⟩
theorem Cz.lg {te : TypeId} {sz : Nat} {ao : Option Addr} {k cap : Nat} {cs : List Value} (hc : aN cs) : Cz (.lg te sz ao k cap cs) := fun w ⟨_, _, h⟩ _ g ⟨o, e⟩ => by
 rcases h with ⟨h, _⟩ | ⟨b, tl, h, hn, hr, _⟩
 . rw [e] at h; cases h
 . rw [e] at h; cases h; exact ⟨_, _, hr, hc.append hn⟩
theorem Cz.jm {x : Nat} {gs : List Nat} {E : List (List Int)} : Cz (.jm x gs E) := fun w h _ g ⟨t, ht, hx, e⟩ => by
 obtain ⟨ps, tl, hn, hr, _⟩ := (h : Aj x gs E w) t ht hx;rw [e]; exact ⟨_, _, hr, aN.rn hn⟩
def Rz (es : List En) : Prop := ∀ e ∈ es, Pz e /\ Cz e
theorem Rz.nil : Rz [] := fun _ h => (DQ h).elim
theorem Rz.cons {e : En} {es : List En} (h1 : Pz e) (h2 : Cz e) (h : Rz es) : Rz (e :: es) := fun x hx => (List.mem_cons.1 hx).elim (fun q => q ▸ ⟨h1, h2⟩) (h x)
theorem Fr.wu {S0 : Nat -> Prop} {w0 w : World} {es : List En} (h : Fr S0 w0 w es) (hz : Rz es) {l : Nat} {o : Obj} (o' : Obj) (hl : w.heap[l]? = some o) (hn : o.isCells = false) (h0 : w0.heap.size <= l) : Fr S0 w0 (w.putObj l o') es :=
 ⟨⟨h.bs.os, h.bs.tape, h.bs.output, by have := h.bs.size; simpa using this, fun k hk hs => (World.putObj_heap_other Cp).trans (h.bs.block k hk hs)⟩, fun e he => (hz e he).1 w l o o' hl hn (h.all e he), h.sep, h.own⟩
theorem Fr.comp {S0 S : Nat -> Prop} {w0 w W : World} {es es' : List En} (h : Fr S0 w0 w es) (h' : Fr S w W es') (hs : ∀ b, S b -> S0 b \/ w0.heap.size <= b) : Fr S0 w0 W es' :=
 ⟨⟨h'.bs.os.trans h.bs.os, h'.bs.tape.trans h.bs.tape, h'.bs.output.trans h.bs.output, Cw h.size h'.size, fun k hk hn => (h'.bs.block k (CK hk h.size) (fun q => (hs k q).elim hn Cp)).trans (h.bs.block k hk hn)⟩, h'.all, h'.sep, fun e he hw b hb => (h'.own e he hw b hb).elim (hs b) (fun q => .inr (Cw h.size q))⟩
def tL (es : List En) (b : Nat) : Prop := ∃ e ∈ es, e.wr = true /\ e.S b
theorem Fr.self {S0 : Nat -> Prop} {w0 w : World} {es : List En} (h : Fr S0 w0 w es) : Fr (tL es) w w es := ⟨aU.refl _ _, h.all, h.sep, fun e he hw b hb => .inl ⟨e, he, hw, hb⟩⟩
theorem Fr.tL {S0 : Nat -> Prop} {w0 w : World} {es : List En} (h : Fr S0 w0 w es) : ∀ b, Go.Proofs.YtjjlmfmoihooiaaGreat.tL es b -> S0 b \/ w0.heap.size <= b := fun b ⟨e, he, hw, hb⟩ => h.own e he hw b hb
theorem Bw {S : Nat -> Prop} {w w' : World} (h : aU S w w') (hS : ∀ b, S b -> ∃ o, w.heap[b]? = some o /\ o.isCells = true) : KeepsOthers w w' := ⟨h.size, fun k o hk hn => by
 have hlt := (Array.getElem?_eq_some_iff.1 hk).1;rw [h.block k hlt (fun q => by
  obtain ⟨x, hx, hc⟩ := hS k q;rw [hk] at hx; cases hx; rw [hn] at hc; cases hc)]
 exact hk⟩
theorem x4 {S S' : Nat -> Prop} {w w' : World} {B : Nat} (h : aU S' w w') (hB : B <= w.heap.size) (hS : ∀ b, S' b -> b < B -> S b) : ed B S w w' := ⟨h.os, h.tape, h.output, h.size, fun k hk hn => h.block k Cp fun q => hn (hS k q hk)⟩
abbrev mkD (D : Nat) : Deferred := { target := .collected D, args := #[] }
abbrev En.we (B D : Nat) : En := .fact false false (· = D) (fun w => w.heap[D]? = some (.deferred (some [])) /\ B <= D) (fun h b e => by cases e; exact (Array.getElem?_eq_some_iff.1 h.1).1)
 (fun {w w' T} h hc _ hs => ⟨(hc.block D (Array.getElem?_eq_some_iff.1 h.1).1 (hs D rfl)).trans h.1, h.2⟩)
theorem rq {α : Type} {P : Program} {n : Nat} {g : Operand} {ps : Array Tmp} {assign body : Code} {Q : Exit -> Act -> World -> Prop} {a : Act} {w : World}
 {gf : Nat} {lb : Array Value} (hg : a.eval g = .func (.func gf) #[] lb) (eg : ∀ args w, (callFunc gf args).run P w = .ok (.enter gf args) w)
 {encs : α -> Array Value} (hps : ∀ x, (encs x).size = ps.size) (S : Nat -> Prop) (N : Nat) (Sx : List α -> Prop)
 (E : List α -> α -> World -> Prop) (I : List α -> World -> Prop)
 (hE : ∀ s x W l o o', E s x W -> w.heap.size <= l -> W.heap[l]? = some o -> o.isCells = false -> E s x (W.putObj l o'))
 (hIl : ∀ s W l o o', I s W -> w.heap.size <= l -> W.heap[l]? = some o -> o.isCells = false -> I s (W.putObj l o'))
 (hIb : ∀ s A B, I s A -> Below A.heap.size A B -> I s B) (h0 : I [] w) (A1 : α -> Act -> Prop) (hEb : ∀ s x A B, E s x A -> Below A.heap.size A B -> E s x B)
 (hseq : ∀ (l : Nat) (J : List α -> World -> Prop) (W : World), Below w.heap.size w W -> (∀ s A B, J s A -> Below A.heap.size A B -> J s B) -> (∀ s A, J s A -> I s A) ->
  (∀ pre x W1, J pre W1 -> E pre x W1 -> pre.length < N -> YieldAt Fence.wide (n - 1 - 1) P l (encs x) W1 fun e W' => e = .returned (.bool true) /\ J (pre ++ [x]) W' /\ ed w.heap.size S W1 W') ->
  J [] W -> CallsIn Fence.wide (n - 1) P gf (#[.func (.yield l) #[] #[]] ++ lb) W fun e W' => (∃ v, e = .returned v) /\ ∃ xs, Sx xs /\ J xs W')
 (hassign : ∀ (l : Nat) (pre : List α) (x : α) (W : World) (K : Act -> World -> Prop), E pre x W -> (∀ a1 W1, A1 x a1 -> Below W.heap.size W W1 -> K a1 W1) ->
  assign.wpIn (Fence.wide.inRound l) (n - 1 - 1) P (Exit.then K (fun _ _ _ => False)) { tmps := (ps.zip (encs x)).foldl (fun t (p, v) => t.setIfInBounds p v) a.tmps, defers := [] } W)
 (hbody : ∀ (l : Nat) (pre : List α) (x : α) (W : World) (a1 : Act), A1 x a1 -> I pre W -> E pre x W -> pre.length < N -> body.wpIn (Fence.wide.inRound l) (n - 1 - 1) P (ry w.heap.size S I (pre ++ [x]) W) a1 W)
 (hdone : ∀ (D : Nat) (xs : List α) (W : World), w.heap.size <= D -> Sx xs -> I xs W -> W.heap[D]? = some (.deferred (some [])) -> Q .normal { a with defers := { target := .collected D, args := #[] } :: a.defers } W) :
 (Code.rangeFunc g ps assign body).wpIn Fence.wide n P Q a w := by
 refine wpIn_rangeFunc ?_;intro fn hfn;obtain ⟨R, hR⟩ : ∃ R : LoopState -> Option Code -> Loop, R = fun st pe => { state := st, pending := pe, fn, tmps := a.tmps, params := ps, assign, body, defers := w.heap.size } := ⟨_, rfl⟩;have hz0 : (w.alloc (.deferred (some []))).heap.size = w.heap.size + 1 := by simp
 have hbA : Below w.heap.size w (w.alloc (.deferred (some []))) := (Below.refl _ _).alloc (Ct _) _;have hbB : Below (w.heap.size + 1) (w.alloc (.deferred (some []))) ((w.alloc (.deferred (some []))).alloc (.loop (R .ready none))) := (Below.refl _ _).alloc Cq _;have hl0 : ((w.alloc (.deferred (some []))).alloc (.loop (R .ready none))).heap[w.heap.size + 1]? = some (.loop (R .ready none)) := by
  have := World.alloc_heap_new (w.alloc (.deferred (some []))) (.loop (R .ready none)); rwa [World.size_alloc] at this
 have hd0 : ((w.alloc (.deferred (some []))).alloc (.loop (R .ready none))).heap[w.heap.size]? = some (.deferred (some [])) :=
  (hbB.block _ Cp).trans (World.alloc_heap_new w _)
 have hen := run_enterLoop_outer (P := P) (w := w) fn a.tmps ps assign body;have hI1 : I [] ((w.alloc (.deferred (some []))).alloc (.loop (R .ready none))) := hIb _ _ _ (hIb _ _ _ h0 hbA) (by rw [hz0]; exact hbB);have hbw : Below w.heap.size w ((w.alloc (.deferred (some []))).alloc (.loop (R .ready none))) := hbA.trans (hbB.mono Cp);rw [show ({ state := .ready, pending := none, fn, tmps := a.tmps, params := ps, assign, body, defers := w.heap.size } : Loop) = R .ready none by rw [hR]] at hen;generalize (w.alloc (.deferred (some []))).alloc (.loop (R .ready none)) = W0 at *;refine ⟨w.heap.size + 1, [{ target := .collected w.heap.size, args := #[] }], W0, { target := .fn (.func gf) lb, args := #[.func (.yield (w.heap.size + 1)) #[] #[]] }, W0, gf,
  #[.func (.yield (w.heap.size + 1)) #[] #[]] ++ lb, W0, hen, ?_, fun _ _ => trivial, by simp [invoke, go_sem, eg], fun h => absurd h Cr, ?_⟩
 . simp only [resolve, hg];simp [go_sem]
 have hlp : ∀ st pe, (Obj.loop (R st pe)).isCells = false := fun _ _ => rfl;refine (hseq (w.heap.size + 1) (fun pre W => I pre W /\ W.heap[w.heap.size + 1]? = some (.loop (R .ready none)) /\ W.heap[w.heap.size]? = some (.deferred (some []))) W0 hbw ?_ (fun _ _ h => h.1) ?_ ⟨hI1, hl0, hd0⟩).mono ?_
 . rintro s A B ⟨h1, h2, h3⟩ hb;exact ⟨hIb _ _ _ h1 hb, (hb.block _ (Array.getElem?_eq_some_iff.1 h2).1).trans h2, (hb.block _ (Array.getElem?_eq_some_iff.1 h3).1).trans h3⟩
 . rintro pre x W ⟨hi, hl, hd⟩ hx hlen;have hlt : w.heap.size + 1 < W.heap.size := (Array.getElem?_eq_some_iff.1 hl).1;have hy := run_yield (P := P) (args := encs x) hl (by rw [hR]; exact hps x);have hle : w.heap.size <= w.heap.size + 1 := by omega
   rw [hR] at hy;refine ⟨fn, _, assign, body, hy, roundIn_of_wpIn hfn (hassign _ pre x W _ hx fun a1 W1 hA1 hB1 => ?_)⟩;have hl := (hB1.block _ (Array.getElem?_eq_some_iff.1 hl).1).trans hl;have hd := (hB1.block _ (Array.getElem?_eq_some_iff.1 hd).1).trans hd;have hi := hIb _ _ _ hi hB1;have hx := hEb _ _ _ _ hx hB1;have hlt : w.heap.size + 1 < W1.heap.size := (Array.getElem?_eq_some_iff.1 hl).1;have hbg := run_beginRound (P := P) hl (by rw [hR]);rw [hR] at hbg;refine ⟨_, hbg, ?_⟩;have hl2 : (W1.putObj (w.heap.size + 1) (.loop (R .busy none))).heap[w.heap.size + 1]? = some (.loop (R .busy none)) := World.putObj_heap_same hlt;have hd2 : (W1.putObj (w.heap.size + 1) (.loop (R .busy none))).heap[w.heap.size]? = some (.deferred (some [])) := (World.putObj_heap_other Cp).trans hd;have hk2 : ed w.heap.size S W (W1.putObj (w.heap.size + 1) (.loop (R .busy none))) := (ed.bC (hB1.mono Cp)).trans (ed.putObj W1 _ hle);have hi2 := hIl pre W1 (w.heap.size + 1) _ (.loop (R .busy none)) hi hle hl rfl;have hx2 := hE pre x W1 (w.heap.size + 1) _ (.loop (R .busy none)) hx hle hl rfl;rw [show ({ state := .busy, pending := none, fn, tmps := a.tmps, params := ps, assign, body, defers := w.heap.size } : Loop) = R .busy none by rw [hR]];generalize W1.putObj (w.heap.size + 1) (.loop (R .busy none)) = W2 at *;refine wpIn_mono (hbody (w.heap.size + 1) pre x W2 a1 hA1 hi2 hx2 hlen) ?_;intro e a3 W3 hp;cases e with
   | normal =>
    obtain ⟨hk3, hkp3, hi3⟩ := hp;have hl3 := hk3.same _ _ hl2 rfl;have hd3 := hk3.same _ _ hd2 rfl;have hend := run_endRound (P := P) none hl3;rw [hR] at hend;refine ⟨_, _, hend, rfl, ⟨hIl _ _ _ _ _ hi3 hle hl3 rfl, ?_, ?_⟩, ?_⟩
    . rw [World.putObj_heap_same (Array.getElem?_eq_some_iff.1 hl3).1, hR]; rfl
    . exact (World.putObj_heap_other Cp).trans hd3
    . exact hk2.trans (hkp3.trans (ed.putObj _ _ hle))
   | ret => exact hp.elim
   | exit id => exact hp.elim
   | goto t => exact hp.elim
   | panic ch => exact hp.elim
   | outgrown => exact hp.elim
 . rintro e W2 ⟨⟨v, rfl⟩, xs, hS, hi, hl, hd⟩;have hle : w.heap.size <= w.heap.size + 1 := by omega
   have hend := run_endLoop (P := P) hl (by rw [hR]; simp);rw [hR] at hend;exact ⟨none, _, hend, hdone _ xs _ (Ct _) hS (hIl _ _ _ _ _ hi hle hl rfl) ((World.putObj_heap_other Cp).trans hd)⟩
theorem vT {l N : Nat} {P : Program} {c : Code} {q : Act -> World -> Prop} {K : Act -> World -> Prop} {a : Act} {w : World} (h : c.wpIn (wT l) N P (Exit.then q (fun _ _ _ => False)) a w) (hk : ∀ a w, q a w -> K a w) : c.wpIn (wT l) N P (Exit.then K (fun _ _ _ => False)) a w :=
 wpIn_mono h fun e a w hq => by
  cases e with
  | normal => exact hk _ _ hq
  | _ => exact hq
def rdQ {X : Type} (I : X -> Prop) (S' : Nat -> Prop) (W : World) (ex : X -> List En) : Exit -> Act -> World -> Prop
 | .normal, _, w => ∃ y, I y /\ Fr S' W w (ex y)
 | _, _, _ => False
theorem rdE {X : Type} {I : X -> Prop} {S' : Nat -> Prop} {W : World} {ex : X -> List En} {n : Nat} {ls : List (Nat × Value)} {es : List En} (y : X) (h : I y) (he : ∀ w, Fr S' W w es -> Fr S' W w (ex y) := by intro w h; first | exact h | exact h.pick (by repeat (first | exact Pk.n | refine Pk.c (by repeat (first | exact Rm.z | apply Rm.s)) ?_))) : QW n S' W (rdQ I S' W ex) .normal ls es := fun a w _ hw => ⟨y, h, he w hw⟩
theorem asgE {n : Nat} {ls lw : List (Nat × Value)} {W : World} {es : List En} {Qx : Exit -> Act -> World -> Prop} (hs : ∀ a, Sl n ls a -> Sl n lw a := by intro a h; refine h.sub ?_; simp [fe, cQ]) : QW n (fun _ => False) W (Exit.then (fun a1 w1 => Sl n lw a1 /\ Below W.heap.size W w1) Qx) .normal ls es := fun a w ha hw => ⟨hs a ha, hw.below⟩
theorem vB {X : Type} {n : Nat} {ls : List (Nat × Value)} {es : List En} {S0 : Nat -> Prop} {w0 : World} {Q : Exit -> Act -> World -> Prop} {gop : Operand} {p1 p2 : Nat} {assign body : Code} {gb b r c m : Nat} {ps : List P4} {tl : List Value} {xs : List Int}
 (I : Nat -> X -> Prop) (ex : X -> List En) (ex2 : Nat -> X -> List En) (x0 : X) (la : Nat -> Nat -> List (Nat × Value)) (hr : r <= 64) (hc : c <= 64) (hs : xs.length = r * c) (hm : xs.length = m) (hL : ∀ x ∈ xs, ag x.natAbs <= 17592186044415) (ht : aN tl) (h0 : I 0 x0)
 (asg : ∀ (l k g : Nat) (W : World), CI l 4 Tryz.prog n (fun _ => False) W assign (Exit.then (fun a1 w1 => Sl n (la k g) a1 /\ Below W.heap.size W w1) (fun _ _ _ => False)) ((p2, .slice (some ⟨g, 0, none⟩) c c) :: (p1, .int .i64 (k : Int)) :: ls) [])
 (round : ∀ (l k : Nat) (x : X) (g : Nat) (qs : List P4) (tk : List Value) (S' : Nat -> Prop) (W : World), I k x -> k < r -> aN tk -> CI l 4 Tryz.prog n S' W body (rdQ (I (k + 1)) S' W ex) (la k g) (.row g 37 (rn qs tk) :: .ns qs (rowOf xs c k) :: ex x))
 (k : ∀ D x, I r x -> nG [mkD D] n S0 w0 Q .normal ls (ex2 D x))
 (hz : ∀ x, Rz (ex x))
 (he : ∀ w, Fr S0 w0 w es -> Fr S0 w0 w (.row gb 24 [.int .i64 (r : Int), .int .i64 (c : Int), .slice (some ⟨b, 0, none⟩) m m] :: .row b 37 (rn ps tl) :: .ns ps xs :: ex x0) := by intro w h; first | exact h | exact h.pick (by repeat (first | exact Pk.n | refine Pk.c (by repeat (first | exact Rm.z | apply Rm.s)) ?_)))
 (hx2 : ∀ D x, ex x ++ [.we w0.heap.size D] = ex2 D x := by intro D x; rfl)
 (hgi : fe ls gop = true := by kernel_rfl) (hg : dy ls gop = .func (.func 89) #[] #[.pointer (some ⟨gb, 0, none⟩)] := by (simp only [cQ, Nat.reduceEqDiff, ↓reduceIte]) <;> rfl)
 (hp : (Nat.blt p1 n && Nat.blt p2 n && !(p1 == p2) && ls.all fun q => !(q.1 == p1) && !(q.1 == p2)) = true := by kernel_rfl) :
 CW Tryz.prog n S0 w0 (.rangeFunc gop #[p1, p2] assign body) Q ls es := fun a w ha hw => by
 subst hm;simp only [CO, DE, beq_eq_false_iff_ne] at hp;obtain ⟨⟨⟨hp1, hp2⟩, hp3⟩, hp4⟩ := hp;have hp1 := CR hp1;have hp2 := CR hp2;have H := he w hw;have Hx := H.tl.tl.tl;have hgR : aa w gb 24 [.int .i64 (r : Int), .int .i64 (c : Int), .slice (some ⟨b, 0, none⟩) xs.length xs.length] := H.m0;have hbR : aO w b xs := ⟨ps, tl, ht, H.m1, (H.m2 : bX w ps xs).1, fun i h1 h2 => by
  have := (H.m2 : bX w ps xs).2 i h1;rw [iB h1, cU h2] at this; exact this⟩
 have hp := List.pairwise_cons.1 H.sep;have hq := List.pairwise_cons.1 hp.2;have hgS : ¬ tL (ex x0) gb := fun ⟨e, h1, h2, h3⟩ => (hp.1 e (CB _ (CB _ h1))).2 h2 gb h3 rfl;have hbS : ¬ tL (ex x0) b := fun ⟨e, h1, h2, h3⟩ => (hq.1 e (CB _ h1)).2 h2 b h3 rfl;refine (wpIn_wide (n := 6)).1 ?_;refine rq (S := tL (ex x0)) (N := r) (Sx := vD r c xs) (E := fun pre x W => vv w.heap.size pre x W /\ x = (pre.length, ⟨x.2.blk, c, rowOf xs c pre.length⟩) /\ pre.length < r /\ ∃ y, I pre.length y /\ Fr (tL (ex x0)) w W (ex y) /\ ∀ e ∈ ex y, ∀ b, e.S b -> b < x.2.blk)
  (I := fun pre W => ∃ y, I pre.length y /\ Fr (tL (ex x0)) w W (ex y)) (gf := 89) (lb := #[.pointer (some ⟨gb, 0, none⟩)]) (encs := NR.enc) ((ha.ev hgi).trans hg) (enters_of Tryz.func89 (by kernel_rfl) rfl) (fun _ => rfl) ?hE ?hIl ?hIb ⟨x0, h0, Hx.self⟩
  (fun x a1 => Sl n (la x.1 x.2.blk) a1) ?hEb ?hseq ?hassign ?hbody ?hdone
 case hE =>
  rintro s x W l o o' ⟨h1, h2, h3, y, h4, h5, h6⟩ hl ho hn;exact ⟨⟨vR ho hn h1.1, h1.2⟩, h2, h3, y, h4, h5.wu (hz y) o' ho hn hl, h6⟩
 case hIl =>
  rintro s W l o o' ⟨y, h4, h5⟩ hl ho hn;exact ⟨y, h4, h5.wu (hz y) o' ho hn hl⟩
 case hIb =>
  rintro s A B ⟨y, h4, h5⟩ hb;exact ⟨y, h4, h5.grow hb⟩
 case hEb =>
  rintro s x A B ⟨h1, h2, h3, y, h4, h5, h6⟩ hb;exact ⟨⟨h1.1.below hb, h1.2⟩, h2, h3, y, h4, h5.grow hb, h6⟩
 case hseq =>
  intro l J W hW hJ hJI hY hJ0;exact kN 5 gb b r c xs w _ (fun b ⟨e, h1, h2, h3⟩ => (hz x0 e h1).2 w (Hx.all e h1) h2 b h3) hgR hgS hbR hbS hs Cp Cp hL l J W hW hJ (fun pre x Wp W1 hj hB hle hx hxe hl => hY pre x W1 (hJ _ _ _ hj hB) ⟨hx, hxe, hl, by
   obtain ⟨y, hy, hf⟩ := hJI _ _ hj;exact ⟨y, hy, hf.grow hB, fun e he b hb => CK (En.lt (hf.all e he) b hb) hle⟩⟩ hl) hJ0 Cp
 case hassign =>
  rintro l pre ⟨k', hd⟩ W K ⟨_, hxe, hlt, _⟩ hK;have e1 : hd = ⟨hd.blk, c, rowOf xs c pre.length⟩ := congrArg Prod.snd hxe;have hlen : hd.xs.length = c := by rw [e1]; exact eh hs hlt
  have hcap : hd.cap = c := by rw [e1]
  refine vT (asg l k' hd.blk W _ W ⟨rfl, ?_, fun q hq' => ?_⟩ (Fr.nil _ W)) fun a1 w1 ⟨h1, h2⟩ => hK a1 w1 h1 h2
  . simp [NR.enc, ha.sz]
  . have hsz := ha.sz;simp only [NR.enc, hlen, hcap];have e9 : ∀ u v : Value, Array.foldl (fun t (x : Nat × Value) => t.setIfInBounds x.1 x.2) a.tmps (#[p1, p2].zip #[u, v]) = (a.tmps.setIfInBounds p1 u).setIfInBounds p2 v := fun u v => by simp
    rw [e9];rcases List.mem_cons.1 hq' with rfl | hq'
    . rw [cQ.2.2.2, if_pos rfl];exact Array.getElem?_setIfInBounds_self_of_lt (by rw [Array.size_setIfInBounds, hsz]; exact hp2)
    . rcases List.mem_cons.1 hq' with rfl | hq'
      . rw [cQ.2.2.2, if_neg hp3, cQ.2.2.2, if_pos rfl, Array.getElem?_setIfInBounds_ne (fun e => hp3 e.symm)];exact Array.getElem?_setIfInBounds_self_of_lt (by rw [hsz]; exact hp1)
      . have h4 := List.all_eq_true.1 hp4 q hq';simp only [CO, DE, beq_eq_false_iff_ne] at h4;rw [cQ.2.2.2, if_neg h4.2, cQ.2.2.2, if_neg h4.1, Array.getElem?_setIfInBounds_ne (fun e => h4.2 e.symm), Array.getElem?_setIfInBounds_ne (fun e => h4.1 e.symm)];exact ha.vs q hq'
 case hbody =>
  rintro l pre ⟨k', hd⟩ W a1 hA1 _ ⟨hH, hxe, hlt, y, hy, hf, hbl⟩ _;have e0 : k' = pre.length := congrArg Prod.fst hxe;have e1 : hd = ⟨hd.blk, c, rowOf xs c pre.length⟩ := congrArg Prod.snd hxe;subst e0;obtain ⟨hrow, hge, _⟩ := hH
  replace hrow : aO W hd.blk hd.xs := hrow
  rw [show hd.xs = rowOf xs c pre.length by rw [e1]] at hrow
  replace hge : w.heap.size <= hd.blk := hge
  replace hbl : ∀ e ∈ ex y, ∀ b, e.S b -> b < hd.blk := hbl
  obtain ⟨qs, tk, nt, hr1, hl1, hN1⟩ := hrow;have f1 : Fr (tL (ex x0)) w W (.ns qs (rowOf xs c pre.length) :: ex y) := hf.pure ⟨hl1, fun i h => by rw [iB h, cU (by rw [<- hl1]; exact h)]; exact hN1 i h (by rw [<- hl1]; exact h)⟩ (fun _ h => h);have f2 : Fr (tL (ex x0)) w W (.row hd.blk 37 (rn qs tk) :: .ns qs (rowOf xs c pre.length) :: ex y) := f1.cons hr1 (fun e' he' => by
   rcases List.mem_cons.1 he' with rfl | he'
   . exact ⟨fun _ _ _ h => h, fun _ _ h => h.elim⟩
   . exact ⟨fun _ b hb h => by cases (hb : b = hd.blk); exact DA _ (hbl e' he' _ h), fun _ b h hb => by cases (hb : b = hd.blk); exact DA _ (hbl e' he' _ h)⟩) (fun _ b hb => by cases (hb : b = hd.blk); exact .inr hge)
  refine wpIn_mono (round l pre.length y hd.blk qs tk _ W hy hlt nt a1 W hA1 f2.self) fun e a' W' hq => ?_;cases e with
  | normal =>
   obtain ⟨y', hy', hf'⟩ := hq;have hsw : ∀ b, tL (.row hd.blk 37 (rn qs tk) :: .ns qs (rowOf xs c pre.length) :: ex y) b -> b = hd.blk \/ tL (ex y) b := fun b ⟨e, he', h1, h2⟩ => by
    rcases List.mem_cons.1 he' with rfl | he'
    . exact .inl h2
    . rcases List.mem_cons.1 he' with rfl | he'
      . exact h2.elim
      . exact .inr ⟨e, he', h1, h2⟩
   refine ⟨Bw hf'.bs fun b hb => ?_, x4 hf'.bs hf.size fun b hb hlt' => ?_, y', by rw [CQ]; exact hy', hf.comp hf' fun b hb => ?_⟩
   . rcases hsw b hb with rfl | ⟨e, he', h1, h2⟩
     . exact ⟨_, hr1, rfl⟩
     . obtain ⟨t, cs, hr2, _⟩ := (hz y e he').2 W (hf.all e he') h1 b h2;exact ⟨_, hr2, rfl⟩
   . rcases hsw b hb with rfl | h
     . omega
     . exact (hf.tL b h).resolve_right Cp
   . rcases hsw b hb with rfl | h
     . exact .inr hge
     . exact hf.tL b h
  | _ => exact hq.elim
 case hdone =>
  rintro D zs W hD hS ⟨y, hy, hf⟩ hK;have hl : zs.length = r := hS.1;rw [hl] at hy;refine k D y hy _ W ⟨by show mkD D :: a.defers = _; rw [ha.df], ha.sz, ha.vs⟩ ?_;rw [<- hx2];have f1 : Fr S0 w0 W (ex y) := Hx.comp hf Hx.tL;have f2 : Fr S0 w0 W (.we w0.heap.size D :: ex y) := f1.cons ⟨hK, Cw hw.size hD⟩ (fun e' he' => ⟨fun h => (nomatch h), fun h1 b h2 h3 => by
   cases (h3 : b = D);obtain ⟨t, cs, ho, _⟩ := (hz y e' he').2 W (f1.all e' he') h1 _ h2;unfold aa at ho;rw [hK] at ho; cases ho⟩) (fun h => (nomatch h))
  exact f2.perm (List.perm_append_singleton (.we w0.heap.size D) (ex y)).symm
theorem B9 {P : Program} {S0 : Nat -> Prop} {es : List En} {ls : List (Nat × Value)} {f : FuncId} {fn : Func} {c : Code} {vs : List Value} {w : World} {R : Ending -> World -> Prop} (hf : P.funcs[f]? = some fn) (H : Fr S0 w w es) (k : CW P fn.ntmps S0 w c (bodyPostM Fence.wide 6 P fn R) ls es) (hb : fn.body = some c := by rfl) (hl : rB 0 vs = ls := by (try simp only [rB, Nat.reduceAdd, av]); rfl) (hn : Nat.ble vs.length fn.ntmps = true := by kernel_rfl) : Calls P f vs.toArray w R := by
 have hn := CR hn;subst hl;refine callsIn_wide.1 (callsIn_of_wp_marks (n := 6) hf hb trivial (wpIn_wide.2 (k _ w ⟨rfl, by simp; omega, fun p hp => ?_⟩ H)) rfl);obtain ⟨_, h1, h2⟩ := nQ vs 0 p hp;rw [h2];have hlt := (List.getElem?_eq_some_iff.1 h1).1;rw [Nat.sub_zero] at h1 hlt;simp only [Array.getElem?_append, List.size_toArray, hlt, if_true, List.getElem?_toArray];exact h1
section
variable {P : Program} {S0 : Nat -> Prop} {w0 : World} {n : Nat} {ls : List (Nat × Value)} {es : List En} {fn : Func} {R : Ending -> World -> Prop}
theorem fm.runM {a : Act} {w : World} {r : ResultVar} {v : Value} (h : ∀ t, fe ls (.tmp t) = true -> a.tmps[t]? = some (dy ls (.tmp t))) (hr : fm P ls w r v) : (∃ t, r = .tmp t /\ a.tmps[t]? = some v) \/ ∃ t ty ad, r = .cell t ty /\ a.tmps[t]? = some (.pointer (some ad)) /\ (loadVar ty ad).run P w = .ok v w := by
 cases r with
 | tmp t => exact .inl ⟨t, rfl, (h t hr.1).trans (by rw [hr.2])⟩
 | cell t ty =>
  obtain ⟨h1, ad, h2, h3⟩ := hr;exact .inr ⟨t, ty, ad, rfl, (h t h1).trans (by rw [h2]), h3⟩
theorem res1 {a : Act} {w : World} {r : ResultVar} {v : Value} (h : fn.results = #[r]) (hs : ∀ t, fe ls (.tmp t) = true -> a.tmps[t]? = some (dy ls (.tmp t))) (h1 : fm P ls w r v) : (results fn a.tmps).run P w = .ok v w := by
 rcases h1.runM hs with ⟨t, rfl, e⟩ | ⟨t, ty, ad, rfl, e, e'⟩ <;> simp [results, h, asAddr, *]
theorem res2 {a : Act} {w : World} {r r' : ResultVar} {v v' : Value} (h : fn.results = #[r, r']) (hs : ∀ t, fe ls (.tmp t) = true -> a.tmps[t]? = some (dy ls (.tmp t))) (h1 : fm P ls w r v) (h2 : fm P ls w r' v') : (results fn a.tmps).run P w = .ok (.tuple #[v, v']) w := by
 rcases h1.runM hs with ⟨t, rfl, e⟩ | ⟨t, ty, ad, rfl, e, e'⟩ <;> rcases h2.runM hs with ⟨t2, rfl, f⟩ | ⟨t2, ty2, ad2, rfl, f, f'⟩ <;> simp [results, h, asAddr, *]
theorem fin1M {D : Nat} {es' : List En} {r : ResultVar} (k : ∀ w, Fr S0 w0 w es' -> ∃ v, fm P ls w r v /\ R (.returned v) w) (hz : Rz es') (hD : En.we w0.heap.size D ∈ es) (he : ∀ w, Fr S0 w0 w es -> Fr S0 w0 w es' := by intro w h; exact h.pick (by repeat (first | exact Pk.n | refine Pk.c (by repeat (first | exact Rm.z | apply Rm.s)) ?_))) (h : fn.results = #[r] := by rfl) : nG [mkD D] n S0 w0 (bodyPostM Fence.wide 6 P fn R) .ret ls es := fun a w ha hw => by
 obtain ⟨hK, hB⟩ := (hw.all _ hD : w.heap[D]? = some (.deferred (some [])) /\ w0.heap.size <= D);show LeavesInM Fence.wide 6 P fn a.tmps R a.defers .returning w;rw [ha.df];refine ⟨by simp, .inl ⟨_, _, rfl, run_takeDeferred hK, ?_⟩⟩;obtain ⟨v, h1, hR⟩ := k _ ((he w hw).wu hz _ hK rfl hB);exact ⟨v, res1 h (fun t => ha.tmp) h1, hR⟩
theorem fin2M {D : Nat} {es' : List En} {r r' : ResultVar} (k : ∀ w, Fr S0 w0 w es' -> ∃ v v', fm P ls w r v /\ fm P ls w r' v' /\ R (.returned (.tuple #[v, v'])) w) (hz : Rz es') (hD : En.we w0.heap.size D ∈ es) (he : ∀ w, Fr S0 w0 w es -> Fr S0 w0 w es' := by intro w h; exact h.pick (by repeat (first | exact Pk.n | refine Pk.c (by repeat (first | exact Rm.z | apply Rm.s)) ?_))) (h : fn.results = #[r, r'] := by rfl) : nG [mkD D] n S0 w0 (bodyPostM Fence.wide 6 P fn R) .ret ls es := fun a w ha hw => by
 obtain ⟨hK, hB⟩ := (hw.all _ hD : w.heap[D]? = some (.deferred (some [])) /\ w0.heap.size <= D);show LeavesInM Fence.wide 6 P fn a.tmps R a.defers .returning w;rw [ha.df];refine ⟨by simp, .inl ⟨_, _, rfl, run_takeDeferred hK, ?_⟩⟩;obtain ⟨v, v', h1, h2, hR⟩ := k _ ((he w hw).wu hz _ hK rfl hB);exact ⟨_, res2 h (fun t => ha.tmp) h1 h2, hR⟩
end
theorem sX (r c n : Nat) (ao : Option Addr) (cap : Nat) (xs : List Int) (w : World) (hr : r <= 64) (hc : c <= 64) (h : aQ w 17592186044415 ao xs) (hs : xs.length = r * c) (hn : xs.length = n) :
 Calls Tryz.prog 63 #[.agg #[.int .i64 (r : Int), .int .i64 (c : Int), .slice ao n cap]] w fun e w' => ∃ q : (Nat × Nat) × List P4 × List Value, e = .returned (.func (.func 89) #[] #[.pointer (some ⟨q.1.1, 0, none⟩)]) /\ Nw w w' [.row q.1.1 24 [.int .i64 (r : Int), .int .i64 (c : Int), .slice (some ⟨q.1.2, 0, none⟩) n n], .row q.1.2 37 (rn q.2.1 q.2.2), .ns q.2.1 xs, .pr (aN q.2.2)] := by
 subst hn;have hsnd : ba (r : Int) (c : Int) xs.length = true := by
  unfold ba bL;rw [hs];simp; omega
 refine (sU (r : Int) (c : Int) ao xs.length cap xs w Cp Cp h rfl hsnd (by rw [hs]; have := Da hr hc; omega)).mono ?_;rintro e w3 ⟨⟨g, b, rfl, hg, hb, hRg, ps, tl, nt, hRb, hl, hN⟩, hb3⟩;refine ⟨((g, b), ps, tl), rfl, hb3, fun e he => ?_, ?_⟩
 . simp only [Di, CX, or_false] at he;rcases he with rfl | rfl | rfl | rfl
   . exact ⟨hRg, fun q e => by cases (e : q = g); exact hg⟩
   . exact ⟨hRb, fun q e => by cases (e : q = b); exact hb⟩
   . exact ⟨⟨hl, fun i h => by rw [iB h, cU (by rw [<- hl]; exact h)]; exact hN i h (by rw [<- hl]; exact h)⟩, fun _ h => h.elim⟩
   . exact ⟨nt, fun _ h => h.elim⟩
 . have hne : g ≠ b := aa.ne hRg hRb Cr;refine List.pairwise_cons.2 ⟨fun e he => ?_, List.pairwise_cons.2 ⟨fun e he => ?_, List.pairwise_cons.2 ⟨fun e he => ?_, CM ..⟩⟩⟩
   . simp only [Di, CX, or_false] at he;rcases he with rfl | rfl | rfl
     . exact ⟨fun _ q h1 h2 => hne (Eq.trans (Eq.symm h1) h2), fun _ q h1 h2 => hne (Eq.trans (Eq.symm h2) h1)⟩
     . exact ⟨fun _ _ _ h => h, fun _ _ h => h.elim⟩
     . exact ⟨fun _ _ _ h => h, fun _ _ h => h.elim⟩
   . simp only [Di, CX, or_false] at he;rcases he with rfl | rfl
     . exact ⟨fun _ _ _ h => h, fun _ _ h => h.elim⟩
     . exact ⟨fun _ _ _ h => h, fun _ _ h => h.elim⟩
   . simp only [Di, CX, or_false] at he;rcases he with rfl;exact ⟨fun _ _ _ h => h, fun _ _ h => h.elim⟩
theorem pR : ∀ (us cs tl : List Value), us.length <= tl.length -> j0 (cs ++ tl) cs.length us = cs ++ us ++ tl.drop us.length
 | [], cs, tl, _ => by simp [j0]
 | u :: us, cs, tl, h => by
  obtain ⟨x, t, rfl⟩ : ∃ x t, tl = x :: t := by
   cases tl with
   | nil => simp at h
   | cons x t => exact ⟨x, t, rfl⟩
  have e : (cs ++ x :: t).set cs.length u = (cs ++ [u]) ++ t := by
   rw [D8 _ _ (Ct _)]; simp
  have h2 := pR us (cs ++ [u]) t (by simpa using h);rw [j0, e, show cs.length + 1 = (cs ++ [u]).length by simp, h2];simp
theorem mL.nil (te : TypeId) (sz : Nat) (w : World) : mL te sz none 0 0 [] w := ⟨by simp, Ct _, .inl ⟨rfl, rfl⟩⟩
section
variable {P : Program} {Q : Exit -> Act -> World -> Prop} {ds : List Deferred} {S0 : Nat -> Prop} {w0 : World} {n : Nat} {ls : List (Nat × Value)} {es : List En} {c : Code}
theorem zU {te : TypeId} {sz : Nat} (k : fg ds P n S0 w0 c Q ls (.lg te sz none 0 0 [] :: es)) : fg ds P n S0 w0 c Q ls es := fun a w ha hw => k a w ha (hw.pure (e := .lg te sz none 0 0 []) (mL.nil te sz w) (fun b ⟨o, e⟩ => nomatch e))
theorem vd {te : TypeId} {sz : Nat} {ao : Option Addr} {k cap : Nat} {cs : List Value} (hk : 0 < k) (h : ∀ b tl, ao = some ⟨b, 0, none⟩ -> aN tl -> (cs ++ tl).length = cap * sz -> fg ds P n S0 w0 c Q ls (.row b te (cs ++ tl) :: es)) : fg ds P n S0 w0 c Q ls (.lg te sz ao k cap cs :: es) := fun a w ha hw => by
 obtain ⟨h1, h2, ⟨_, h3⟩ | ⟨b, tl, rfl, ht, hr, hl⟩⟩ : mL te sz ao k cap cs w := hw.m0
 . omega
 . exact h b tl rfl ht hl a w ha (hw.conv (fun _ => hr) (fun g e => by obtain rfl : g = b := e; exact ⟨0, rfl⟩) (fun _ => rfl))
end
theorem xL {w : World} {t te ty : TypeId} {sz bytes : Nat} {z : Value} (ht : Tryz.prog.underlying t = some (.slice te)) (hinfo : (Tryz.prog.info? te).map (fun i => (i.zero, i.size, i.bytes)) = some (some z, sz, bytes)) (hzc : z.cells.size = sz) (hzn : ∀ n, aN (Builtin.zeroCells z.cells n).toList)
 {ao : Option Addr} {k cap m : Nat} {cs news : List Value} {x : Value} (h : mL te sz ao k cap cs w) (hb : (k + m) * bytes <= 140737488355328) (hb2 : k + m <= 100000000) (hs : Src Tryz.prog sz t x m news w) :
 ∃ ao' cap' w', (Builtin.append_ #[t, t] ty #[.slice ao k cap, x]).run Tryz.prog w = .ok (.slice ao' (k + m) cap') w' /\ mL te sz ao' (k + m) cap' (cs ++ news) w' /\ aU (fun g => ∃ o, ao = some ⟨g, o, none⟩) w w' /\ ∀ g, (∃ o, ao' = some ⟨g, o, none⟩) -> (∃ o, ao = some ⟨g, o, none⟩) \/ w.heap.size <= g := by
 obtain ⟨i, hi, hz, hsz, hby⟩ := info_parts hinfo;subst hsz hby;obtain ⟨hk, hkc, hrow⟩ := h;have hnl := hs.newsLen;by_cases h0 : m = 0
 . subst h0;have hn : news = [] := D5 (by simpa using hnl);subst hn;exact ⟨ao, cap, w, run_append_nothing w t t ty te i ht hi ao k cap hkc _ hs, by simpa using ⟨hk, hkc, hrow⟩, aU.refl _ _, fun g hg => .inl hg⟩
 . by_cases hroom : k + m <= cap
   . obtain ⟨_, h⟩ | ⟨b, tl, rfl, htl, hr, hl⟩ := hrow
     . omega
     have hmul : (k + m) * i.size <= cap * i.size := Cy _ hroom;rw [CY] at hmul;have hle : news.length <= tl.length := by rw [CQ] at hl; omega
     have hex : ∀ j, j < cap * i.size -> (w.cell? ⟨b, j, none⟩).isSome = true := fun j hj => by rw [hr.cell, List.getElem?_eq_getElem Cp]; rfl
     have hset : j0 (cs ++ tl) (k * i.size) news = cs ++ news ++ tl.drop news.length := by rw [<- hk]; exact pR news cs tl hle
     have hsc : w.setCells b (0 + k * i.size) news = qy w b (k * i.size) news := by rw [Db, lj]
     refine ⟨_, _, _, run_append_room_src w t t ty te i ht hi b 0 k cap _ m _ hs hroom (fun j hj => hex _ Cp) (fun j _ => hr.free _), ?_, ?_, fun g hg => .inl hg⟩
     . rw [hsc];have h2 := hr.qy news (k * i.size);rw [hset] at h2;refine ⟨by rw [CQ, hk, hnl, CY], hroom, .inr ⟨b, tl.drop news.length, rfl, fun v hv => htl v (EJ hv), h2, ?_⟩⟩;rw [<- hset, mu]; exact hl
     . rw [hsc];exact (aU.qy news (k * i.size) (aU.refl (· = b) w)).mono (fun g _ e => by obtain rfl : g = b := e; exact ⟨0, rfl⟩)
   . have hold : (Builtin.firstCells i.size k (.slice ao k cap)).run Tryz.prog w.drew = .ok cs.toArray w.drew := by
      obtain ⟨rfl, h⟩ | ⟨b, tl, rfl, htl, hr, hl⟩ := hrow
      . have : k = 0 := by omega
        subst this;have hc : cs = [] := D5 (by simpa using hk);subst hc;exact run_firstCells_none w.drew i.size 0 0 cap
      . refine run_firstCells_some w.drew i.size k _ k cap cs hk fun j v hj => ?_;have e : w.drew.cell? ((⟨b, 0, none⟩ : Addr).add j) = w.cell? ⟨b, j, none⟩ := by simp only [Addr.add]; by_cases hj0 : j = 0 <;> simp [hj0]
        rw [e, hr.cell, List.getElem?_append_left (List.getElem?_eq_some_iff.1 hj).1]; exact hj
     have hge := grownCap_ge w (k + m) cap te;refine ⟨_, _, _, run_append_grow_src w t t ty te i z ht hi hz ao k cap cs hold _ m _ hs Cp Cp (growslice_fits Cp hb), ⟨by rw [CQ, hk, hnl, CY], hge, .inr ⟨_, (Builtin.zeroCells z.cells (grownCap w (k + m) cap te - (k + m))).toList, rfl, hzn _, ?_, ?_⟩⟩, aU.xc _ w _, fun g ⟨o, e⟩ => by cases e; exact .inr (Ct _)⟩
     . have hnew := aa.new w.drew ((cs ++ news).toArray ++ Builtin.zeroCells z.cells (grownCap w (k + m) cap te - (k + m))) te;simpa using hnew
     . have hz2 : (Builtin.zeroCells z.cells (grownCap w (k + m) cap te - (k + m))).toList.length = (grownCap w (k + m) cap te - (k + m)) * i.size := by rw [Array.length_toList, size_zeroCells, hzc]
       rw [CQ, CQ, hk, hnl, hz2, <- CY, <- CY, show k + m + (grownCap w (k + m) cap te - (k + m)) = grownCap w (k + m) cap te by omega]
section
variable {ops : Array Oper} {Q : Exit -> Act -> World -> Prop} {ds : List Deferred} {S0 : Nat -> Prop} {w0 : World} {E0 : List En} {hd : List (List Nat)} {n j s : Nat} {l : List Nat} {G E : List En} {ls : List (Nat × Value)} {ty : TypeId} {pos : String} {af : Array Edge}
theorem Am {i k cap g c bytes : Nat} {t te : TypeId} {z v : Value} {ao : Option Addr} {cs : List Value} {sa xa : Operand} {E' : Option Addr × Nat -> List En} (ht : Tryz.prog.underlying t = some (.slice te)) (hinfo : (Tryz.prog.info? te).map (fun i => (i.zero, i.size, i.bytes)) = some (some z, 1, bytes)) (hzc : z.cells.size = 1) (hzn : ∀ n, aN (Builtin.zeroCells z.cells n).toList)
 (hb : (k + 1) * bytes <= 140737488355328) (hb2 : k + 1 <= 100000000) (hone : v.oneCell' = true) (hnw : aN cs /\ te ≠ 60) (hm : En.row g te [v] ∈ G ++ E)
 (k' : ∀ q, dY ds ⟨Tryz.prog, ops, Q, S0, w0, E0, hd⟩ n l G (E' q) ((s, .slice q.1 (k + 1) q.2) :: ls))
 (ho : ops[j]? = some ⟨some s, .call { callee := Callee.builtin Builtin.append, args := #[sa, xa], argTypes := #[t, t] }, ty, pos, af, none⟩ := by rfl) (hk : (ew ls (.call { callee := Callee.builtin Builtin.append, args := #[sa, xa], argTypes := #[t, t] }) && Nat.blt s n) = true := by kernel_rfl)
 (ha : dy ls sa = .slice ao k cap := by (simp only [cQ, Nat.reduceEqDiff, ↓reduceIte]) <;> rfl)
 (hv : dy ls xa = .slice (some ⟨g, 0, none⟩) 1 c := by (simp only [cQ, Nat.reduceEqDiff, ↓reduceIte, av]) <;> rfl)
 (hE : ∀ q, Up (.lg te 1 ao k cap cs) (.lg te 1 q.1 (k + 1) q.2 (cs ++ [v])) i E (E' q) := by intro q; repeat first | exact .z | apply Up.s)
 (hst : fU ops hd j [i] = true := by kernel_rfl) : dY ds ⟨Tryz.prog, ops, Q, S0, w0, E0, hd⟩ n (j :: l) G E ls := fun a hA => by
 simp only [CO] at hk;refine ⟨_, ho, .inr (.inr ⟨rfl, rfl, Option Addr × Nat, fun q => .slice q.1 (k + 1) q.2, fun _ => G, E', [i], ⟨(none, 0)⟩, fun X w hX hw => ?_, hst, fun q r hr => (hE q).other (by simpa using hr), fun q => k' q _ (hA.put (CR hk.2) _)⟩)⟩;have hrow : aa w g te [v] := hw.all _ (DS _ hm);have hl : mL te 1 ao k cap cs w := by
  obtain ⟨m, h1, h2⟩ := (hE (none, 0)).right' X G;exact (hw.perm h1).all _ (CC ..)
 have hsrc : Src Tryz.prog 1 t (.slice (some ⟨g, 0, none⟩) 1 c) 1 [v] w := Src.ofSlice w ht _ 1 c [v] rfl (fun j u hj => by
  match j, hj with
  | 0, hj => cases hj; exact hrow.cell 0) (fun u hu => by rw [List.mem_singleton.1 hu]; exact hone)
 obtain ⟨ao', cap', w', hrun, h1', hc, hS⟩ := xL (ty := ty) ht hinfo hzc hzn hl hb hb2 hsrc;obtain ⟨m, h1, h2⟩ := (hE (ao', cap')).right' X G;refine zm rfl ?_;show om _ _ ((execOp a.eval _).run _ w);rw [hA.exec (o := ⟨some s, .call { callee := Callee.builtin Builtin.append, args := #[sa, xa], argTypes := #[t, t] }, ty, pos, af, none⟩) hk.1];have e : (execOp (dy ls) ⟨some s, .call { callee := Callee.builtin Builtin.append, args := #[sa, xa], argTypes := #[t, t] }, ty, pos, af, none⟩).run Tryz.prog w = .ok (.value (.slice ao' (k + 1) cap')) w' := by
  simp [execOp, resolve, invoke, builtin, ha, hv, hrun, Result.andThen]
 rw [e];refine ⟨(ao', cap'), rfl, Fr.perm ((hw.perm h1).bU (e := .lg te 1 ao k cap cs) (e' := .lg te 1 ao' (k + 1) cap' (cs ++ [v])) rfl hc (fun x hx _ => ?_) (fun _ h => h) h1' hS) h2.symm⟩;rintro b ⟨o, rfl⟩;obtain ⟨_, _, ⟨h, _⟩ | ⟨b', tl, h, ht, hr, _⟩⟩ := hl
 . cases h
 . cases h; exact ⟨_, _, hr, hnw.1.append ht, hnw.2⟩
end
theorem yz : (Tryz.prog.info? 22).map (fun i => (i.zero, i.size, i.bytes)) = some (some (.slice none 0 0), 1, 24) := by kernel_rfl
theorem tZ : (Tryz.prog.info? 3).map (fun i => (i.zero, i.size, i.bytes)) = some (some (.int .i64 0), 1, 8) := by kernel_rfl
theorem qn (z : Value) (hz : z.cells = #[z]) (hn : ∀ n, z ≠ .int .u64 n) (n : Nat) : aN (Builtin.zeroCells z.cells n).toList := by
 rw [hz];intro v hv k;unfold Builtin.zeroCells at hv;simp only [Array.toList_map, List.mem_map, Array.mem_toList_iff, Array.mem_range] at hv;obtain ⟨i, _, rfl⟩ := hv;have h2 : i % 1 = 0 := Nat.mod_one i;simp [h2];exact hn k
theorem Fr.AQ {S0 : Nat -> Prop} {w0 w : World} {es : List En} (h : Fr S0 w0 w es) : ∀ {X : List En}, (∀ x ∈ X, x.F w /\ ∀ b, ¬ x.S b) -> Fr S0 w0 w (X ++ es)
 | [], _ => h
 | x :: X, hx => (Fr.AQ h (X := X) fun y hy => hx y (CB _ hy)).pure (hx x (CC ..)).1 (hx x (CC ..)).2
section
variable {P : Program} {ops : Array Oper} {Q : Exit -> Act -> World -> Prop} {ds : List Deferred} {S0 : Nat -> Prop} {w0 : World} {E0 : List En} {hd : List (List Nat)} {n j s : Nat} {l : List Nat} {G E : List En} {ls : List (Nat × Value)} {op : Op} {ty : TypeId} {pos : String} {af : Array Edge} {f : FuncId} {args : Array Value}
theorem cUp {α : Type} {mk : α -> Value} {e : En} {e' : α -> En} {ens : α -> List En} {i : Nat} {E' : α -> List En}
 (c : ∀ w, Fr S0 w0 w (G ++ E) -> Calls P f args w fun r w' => ∃ p, r = .returned (mk p) /\ aU e.S w w' /\ (e' p).F w' /\ (∀ b, (e' p).S b -> e.S b \/ w.heap.size <= b) /\ ∀ x ∈ ens p, x.F w' /\ ∀ b, ¬ x.S b)
 (hwl : ∀ w, e.F w -> Wl e.S w)
 (k : ∀ p, dY ds ⟨P, ops, Q, S0, w0, E0, hd⟩ n l (ens p ++ G) (E' p) ((s, mk p) :: ls))
 (hwr : e.wr = true := by rfl) (hne : Nonempty α := by infer_instance)
 (ho : ops[j]? = some ⟨some s, op, ty, pos, af, none⟩ := by rfl) (hk : (!bY op && !dD op && ew ls op && Nat.blt s n) = true := by kernel_rfl)
 (hr : ∀ w, (execOp (dy ls) ⟨some s, op, ty, pos, af, none⟩).run P w = .ok (.enter f args) w := by intro w; (try simp only [av]); go_simp <;> with_reducible rfl)
 (hE : ∀ p, Up e (e' p) i E (E' p) := by intro p; repeat first | exact .z | apply Up.s)
 (hst : fU ops hd j [i] = true := by kernel_rfl) : dY ds ⟨P, ops, Q, S0, w0, E0, hd⟩ n (j :: l) G E ls := fun a ha => by
 simp only [CO, DE] at hk;refine ⟨_, ho, .inr (.inr ⟨hk.1.1.1, hk.1.1.2, α, mk, fun p => ens p ++ G, E', [i], hne, fun X w hX hw => ?_, hst, fun p r hr => (hE p).other (by simpa using hr), fun p => k p _ (ha.put (CR hk.2) _)⟩)⟩;refine zm rfl ?_;show om P _ ((execOp a.eval _).run P w);rw [ha.exec hk.1.2, hr w];refine (c w (hw.sub (DN ..))).mono ?_;rintro r w' ⟨p, rfl, hc, hF, hS, hens⟩;obtain ⟨m, h1, h2⟩ := (hE p).right' X G;have h0 := hw.perm h1;have h3 := Fr.AQ (Fr.perm (h0.bU hwr (e' := e' p) hc (fun x hx hl => hwl w h0.m0) (fun _ h => h) hF hS) h2.symm) hens;refine ⟨_, rfl, p, rfl, h3.perm ?_⟩;rw [EL];exact (EB (ens p) X (G ++ E' p))
end
theorem mL.rl {te : TypeId} {ao : Option Addr} {k cap : Nat} {cs : List Value} {w : World} (h : mL te 1 ao k cap cs w) : uX ao cs w := fun hl => by
 obtain ⟨h1, h2, ⟨_, h3⟩ | ⟨b, tl, e, _, hr, _⟩⟩ := h
 . omega
 . exact ⟨b, e, hr.lt, fun i v hv => by rw [hr.cell, List.getElem?_append_left (List.getElem?_eq_some_iff.1 hv).1]; exact hv⟩
section
variable {P : Program} {Q : Exit -> Act -> World -> Prop} {ds : List Deferred} {S0 : Nat -> Prop} {w0 : World} {n : Nat} {ls : List (Nat × Value)} {es : List En} {c : Code}
theorem lrsW {L : Nat} {hs : List (Option Addr × Nat)} {R : List (List Int)} (t : Nat) (hm : En.Bd L hs R ∈ es) (ht : t < R.length) (k : fg ds P n S0 w0 c Q ls (.ls L (hs.getD t (none, 0)).1 (R.getD t []) :: es)) : fg ds P n S0 w0 c Q ls es := fun a w ha hw => by
 have hA : ∀ t, t < R.length -> aQ w L (hs.getD t (none, 0)).1 (R.getD t []) := hw.all _ hm;refine k a w ha (hw.cons (e := .ls L (hs.getD t (none, 0)).1 (R.getD t [])) (hA t ht) (fun e' he' => ⟨(fun q => nomatch q), fun q g hg ⟨hl, o, e⟩ => ?_⟩) (fun q => nomatch q));exact hw.apart he' hm q rfl hg ⟨t, ht, hl, o, e⟩
theorem rlW {ao : Option Addr} {cs : List Value} {v : Value} (i : Nat) (hm : En.rl ao cs ∈ es) (hi : cs[i]? = some v) (k : ∀ b, ao = some ⟨b, 0, none⟩ -> fg ds P n S0 w0 c Q ls (.cell ⟨b, i, none⟩ v :: es)) : fg ds P n S0 w0 c Q ls es := fun a w ha hw => by
 have hl : 0 < cs.length := by have := (List.getElem?_eq_some_iff.1 hi).1; omega
 obtain ⟨b, e, hb, hc⟩ := (hw.all _ hm : uX ao cs w) hl;exact k b e a w ha (hw.cellOf hm rfl ⟨hl, 0, e⟩ (hc i v hi))
theorem pD {L : Nat} {ao : Option Addr} {xs : List Int} (hm : En.ls L ao xs ∈ es) (hl : 0 < xs.length) (k : ∀ b o, ao = some ⟨b, o, none⟩ -> fg ds P n S0 w0 c Q ls es) : fg ds P n S0 w0 c Q ls es := fun a w ha hw => by
 obtain ⟨b, o, e, _⟩ := (hw.all _ hm : aQ w L ao xs) hl;exact k b o e a w ha hw
end
section
variable {S0 : Nat -> Prop} {w0 w : World} {e : En} {es : List En}
theorem Fr.o6 {X : List En} (h : Fr S0 w0 w (e :: es)) (hw : e.wr = true) (hX : ∀ x ∈ X, x.F w /\ ∀ b, x.S b -> e.S b) (hp : X.Pairwise Ap) : Fr S0 w0 w (X ++ es) := by
 have hs := List.pairwise_cons.1 h.sep;refine ⟨h.bs, fun x hx => (List.mem_append.1 hx).elim (fun q => (hX x q).1) (fun q => h.all x (CB _ q)), List.pairwise_append.2 ⟨hp, hs.2, fun x hx y hy => ⟨fun _ b h1 h2 => (hs.1 y hy).1 hw b ((hX x hx).2 b h1) h2, fun q b h1 h2 => (hs.1 y hy).2 q b h1 ((hX x hx).2 b h2)⟩⟩, fun x hx q b hb => ?_⟩;rcases List.mem_append.1 hx with hx | hx
 . exact h.own e (CC ..) hw b ((hX x hx).2 b hb)
 . exact h.own x (CB _ hx) q b hb
theorem Fr.uD {X : List En} (h : Fr S0 w0 w (X ++ es)) (he : e.F w) (hS : ∀ b, e.S b -> ∃ x ∈ X, x.wr = true /\ x.S b) : Fr S0 w0 w (e :: es) := by
 have hs := List.pairwise_append.1 h.sep;refine ⟨h.bs, fun x hx => (List.mem_cons.1 hx).elim (fun q => q ▸ he) (fun q => h.all x (DS _ q)), List.pairwise_cons.2 ⟨fun y hy => ⟨fun _ b h1 h2 => ?_, fun q b h1 h2 => ?_⟩, hs.2.1⟩, fun x hx q b hb => ?_⟩
 . obtain ⟨x, hx, hw, hb⟩ := hS b h1;exact (hs.2.2 x hx y hy).1 hw b hb h2
 . obtain ⟨x, hx, hw, hb⟩ := hS b h2;exact (hs.2.2 x hx y hy).2 q b h1 hb
 . rcases List.mem_cons.1 hx with rfl | hx
   . obtain ⟨y, hy, hw, hb'⟩ := hS b hb;exact h.own y (DV _ hy) hw b hb'
   . exact h.own x (DS _ hx) q b hb
theorem iq {α : Type} {l : List α} {x d : α} (t : Nat) : (l ++ [x]).getD t d = if t < l.length then l.getD t d else if t = l.length then x else d := by
 by_cases h : t < l.length
 . simp [h, List.getElem?_append_left h]
 . rw [if_neg h];by_cases h2 : t = l.length
   . subst h2; simp
   . rw [if_neg h2];rw [List.getD_eq_getElem?_getD, List.getElem?_eq_none (by simp; omega)]; rfl
theorem Fr.qX {gs : List Nat} {E : List (List Int)} {g x x' : Nat} {ps : List P4} {tl : List Value} {v : List Int} (hl : gs.length = E.length) (hx : E.length <= x) (hx' : E.length < x') (hn : aN tl)
 (h : Fr S0 w0 w (.row g 37 (rn ps tl) :: .ns ps v :: .jm x gs E :: es)) : Fr S0 w0 w (.jm x' (gs ++ [g]) (E ++ [v]) :: es) /\ ∀ t, t < E.length -> gs.getD t 0 ≠ g := by
 have hr : aa w g 37 (rn ps tl) := h.m0;have hns : bX w ps v := h.m1;have hF : Aj x gs E w := h.m2;have hs := List.pairwise_cons.1 h.sep;refine ⟨Fr.uD (X := [.row g 37 (rn ps tl), .ns ps v, .jm x gs E]) h (fun t ht hne => ?_) fun b ⟨t, ht, hne, e⟩ => ?_, fun t ht e => ?_⟩
 . rw [CQ] at ht;rw [iq, iq, hl];by_cases q : t < E.length
   . rw [if_pos q, if_pos q]; exact hF t q Cp
   . have e : t = E.length := by simp at ht; omega
     rw [if_neg q, if_neg q, if_pos e, if_pos e];exact ⟨ps, tl, hn, hr, hns⟩
 . rw [CQ] at ht;rw [iq, hl] at e;by_cases q : t < E.length
   . rw [if_pos q] at e;exact ⟨.jm x gs E, by simp, rfl, t, q, by omega, e⟩
   . rw [if_neg q, if_pos (by simp at ht; omega)] at e;exact ⟨.row g 37 (rn ps tl), by simp, rfl, e⟩
 . exact (hs.1 (.jm x gs E) Cq).1 rfl g rfl ⟨t, ht, by omega, e.symm⟩
theorem Fr.rws0 (h : Fr S0 w0 w es) : Fr S0 w0 w (.jm 0 [] [] :: es) := h.cons (fun t ht => absurd ht (Dv _)) (fun e' _ => ⟨fun _ b ⟨t, ht, _⟩ => absurd ht (Dv _), fun _ b _ ⟨t, ht, _⟩ => absurd ht (Dv _)⟩) (fun _ b ⟨t, ht, _⟩ => absurd ht (Dv _))
end
theorem Bc {P : Program} {Q : Exit -> Act -> World -> Prop} {ds : List Deferred} {S0 : Nat -> Prop} {w0 : World} {n : Nat} {ls : List (Nat × Value)} {es : List En} {c : Code} (k : fg ds P n S0 w0 c Q ls (.jm 0 [] [] :: es)) : fg ds P n S0 w0 c Q ls es := fun a w ha hw => k a w ha hw.rws0
def hG (c : Nat) (gs : List Nat) : List Value := gs.map fun g => .slice (some ⟨g, 0, none⟩) c c
theorem iW (c : Nat) (gs : List Nat) : (hG c gs).length = gs.length := by simp [hG]
theorem Bn {c t : Nat} {gs : List Nat} (tl : List Value) (h : t < gs.length) : (hG c gs ++ tl)[t]? = some (.slice (some ⟨gs.getD t 0, 0, none⟩) c c) := by
 rw [List.getElem?_append_left (by rw [iW]; exact h)];simp [hG, h]
theorem uJ (c : Nat) (gs : List Nat) (g : Nat) : hG c gs ++ [.slice (some ⟨g, 0, none⟩) c c] = hG c (gs ++ [g]) := by simp [hG]
theorem ic (c : Nat) : ∀ gs : List Nat, aN (hG c gs)
 | [] => aN.nil
 | _ :: gs => aN.slice (ic c gs)
def iL (ns : List Nat) : List Value := ns.map fun x : Nat => Value.int .i64 (x : Int)
theorem qJ (ns : List Nat) : (iL ns).length = ns.length := by simp [iL]
theorem BV {t : Nat} {ns : List Nat} (tl : List Value) (h : t < ns.length) : (iL ns ++ tl)[t]? = some (.int .i64 ((ns.getD t 0 : Nat) : Int)) := by
 rw [List.getElem?_append_left (by rw [qJ]; exact h)];simp [iL, h]
theorem uU (ns : List Nat) (x : Nat) : iL ns ++ [.int .i64 (x : Int)] = iL (ns ++ [x]) := by simp [iL]
theorem iX : ∀ ns : List Nat, aN (iL ns)
 | [] => aN.nil
 | _ :: ns => aN.i64 (iX ns)
theorem mz {c t g : Nat} {gs : List Nat} (tl : List Value) (h : t < gs.length) (hg : gs.getD t 0 = g) : (hG c gs ++ tl)[t]? = some (.slice (some ⟨g, 0, none⟩) c c) := by rw [Bn tl h, hg]
theorem nP {t x : Nat} {ns : List Nat} (tl : List Value) (h : t < ns.length) (hx : ns.getD t 0 = x) : (iL ns ++ tl)[t]? = some (.int .i64 (x : Int)) := by rw [BV tl h, hx]
def wQ (o gs : List Nat) (E : List (List Int)) (w : World) : Prop := ∀ t, t < E.length -> t ∉ o -> ∃ (ps : List P4) (tl : List Value), aN tl /\ aa w (gs.getD t 0) 37 (rn ps tl) /\ bX w ps (E.getD t [])
abbrev En.fh (o gs : List Nat) (E : List (List Int)) : En := .fact true true (fun g => ∃ t, t < E.length /\ t ∉ o /\ g = gs.getD t 0) (wQ o gs E)
 (fun h b ⟨t, ht, hx, e⟩ => by
  obtain ⟨ps, tl, _, hr, _⟩ := h t ht hx;rw [e]; exact hr.lt)
 (fun h hc hT hs t ht hx => by
  obtain ⟨ps, tl, hn, hr, h1, h2⟩ := h t ht hx;exact ⟨ps, tl, hn, hc.row hr (hs _ ⟨t, ht, hx, rfl⟩), h1, fun i a => hc.num (hT rfl).bZ (h2 i a)⟩)
section
variable {S0 : Nat -> Prop} {w0 w : World} {es : List En} {gs o : List Nat} {E : List (List Int)}
theorem Fr.BI {x : Nat} (hx : E.length <= x) (h : Fr S0 w0 w (.jm x gs E :: es)) : Fr S0 w0 w (.fh [] gs E :: es) := h.conv (fun h t ht _ => h t ht Cp) (fun b ⟨t, ht, _, e⟩ => ⟨t, ht, by omega, e⟩) (fun _ => rfl)
theorem Fr.rwoT {t : Nat} (ht : t < E.length) (hto : t ∉ o) (hi : ∀ a b, a < E.length -> b < E.length -> gs.getD a 0 = gs.getD b 0 -> a = b) (h : Fr S0 w0 w (.fh o gs E :: es)) : ∃ ps tl, aN tl /\ ps.length = (E.getD t []).length /\ Fr S0 w0 w (.row (gs.getD t 0) 37 (rn ps tl) :: .ns ps (E.getD t []) :: .fh (t :: o) gs E :: es) := by
 have hF : wQ o gs E w := h.m0;obtain ⟨ps, tl, hn, hr, hns⟩ := hF t ht hto;refine ⟨ps, tl, hn, hns.1, h.o6 (X := [.row (gs.getD t 0) 37 (rn ps tl), .ns ps (E.getD t []), .fh (t :: o) gs E]) rfl (fun x hx => ?_) ?_⟩
 . simp only [Di, CX, or_false] at hx;rcases hx with rfl | rfl | rfl
   . exact ⟨hr, fun b e => ⟨t, ht, hto, e⟩⟩
   . exact ⟨hns, fun _ h => h.elim⟩
   . exact ⟨fun s hs hso => hF s hs fun q => hso (CB _ q), fun b ⟨s, hs, hso, e⟩ => ⟨s, hs, fun q => hso (CB _ q), e⟩⟩
 . have hne : ∀ b, (∃ s, s < E.length /\ s ∉ t :: o /\ b = gs.getD s 0) -> b ≠ gs.getD t 0 := fun b ⟨s, hs, hso, e⟩ e' => hso (by rw [hi s t hs ht (e.symm.trans e')]; exact CC ..);refine .cons (fun x hx => ?_) (.cons (fun x hx => ?_) (.cons (fun x hx => (DQ hx).elim) .nil))
   . simp only [Di, CX, or_false] at hx;rcases hx with rfl | rfl
     . exact ⟨fun _ _ _ h => h, fun q => nomatch q⟩
     . exact ⟨fun _ b hb hb' => hne b hb' hb, fun _ b hb' hb => hne b hb' hb⟩
   . simp only [Di, CX, or_false] at hx;rcases hx with rfl;exact ⟨(fun q => nomatch q), fun _ _ _ h => h⟩
theorem Fr.sD {t : Nat} {ps : List P4} {tl : List Value} {xs : List Int} (ht : t < E.length) (hto : t ∉ o) (hn : aN tl)
 (h : Fr S0 w0 w (.row (gs.getD t 0) 37 (rn ps tl) :: .ns ps xs :: .fh (t :: o) gs E :: es)) : Fr S0 w0 w (.fh o gs (E.set t xs) :: es) := by
 have hr : aa w (gs.getD t 0) 37 (rn ps tl) := h.m0;have hns : bX w ps xs := h.m1;have hF : wQ (t :: o) gs E w := h.m2;refine Fr.uD (X := [.row (gs.getD t 0) 37 (rn ps tl), .ns ps xs, .fh (t :: o) gs E]) h (fun s hs hso => ?_) fun b ⟨s, hs, hso, e⟩ => ?_
 . rw [CL] at hs;by_cases q : s = t
   . subst q;exact ⟨ps, tl, hn, hr, by rw [show (E.set s xs).getD s [] = xs by simp [ht]]; exact hns⟩
   . obtain ⟨ps', tl', a1, a2, a3⟩ := hF s hs (by simp [q, hso]);exact ⟨ps', tl', a1, a2, by rw [show (E.set t xs).getD s [] = E.getD s [] by simp [List.getElem?_set_ne (fun e => q e.symm)]]; exact a3⟩
 . rw [CL] at hs;by_cases q : s = t
   . subst q; exact ⟨.row (gs.getD s 0) 37 (rn ps tl), by simp, rfl, e⟩
   . exact ⟨.fh (t :: o) gs E, by simp, rfl, s, hs, by simp [q, hso], e⟩
theorem Fr.rwoP {gs' : List Nat} {E' : List (List Int)} (f : Nat -> Nat) (hl : E'.length = E.length) (hf : ∀ t, t < E.length -> f t < E.length) (hg : ∀ t, t < E.length -> gs'.getD t 0 = gs.getD (f t) 0) (hE : ∀ t, t < E.length -> E'.getD t [] = E.getD (f t) []) (h : Fr S0 w0 w (.fh [] gs E :: es)) : Fr S0 w0 w (.fh [] gs' E' :: es) :=
 h.conv (fun h t ht _ => by rw [hl] at ht; rw [hg t ht, hE t ht]; exact h (f t) (hf t ht) Cq) (fun b ⟨t, ht, _, e⟩ => by rw [hl] at ht; exact ⟨f t, hf t ht, by simp, by rw [e, hg t ht]⟩) (fun _ => rfl)
end
section
variable {P : Program} {Q : Exit -> Act -> World -> Prop} {ds : List Deferred} {S0 : Nat -> Prop} {w0 : World} {n : Nat} {ls : List (Nat × Value)} {es : List En} {c : Code} {gs o : List Nat} {E : List (List Int)}
theorem wE (t : Nat) (ht : t < E.length) (hto : t ∉ o) (hi : ∀ a b, a < E.length -> b < E.length -> gs.getD a 0 = gs.getD b 0 -> a = b) (k : ∀ g ps tl, gs.getD t 0 = g -> aN tl -> ps.length = (E.getD t []).length -> fg ds P n S0 w0 c Q ls (.row g 37 (rn ps tl) :: .ns ps (E.getD t []) :: .fh (t :: o) gs E :: es)) : fg ds P n S0 w0 c Q ls (.fh o gs E :: es) := fun a w ha hw => by
 obtain ⟨ps, tl, h1, h2, h3⟩ := hw.rwoT ht hto hi;exact k _ ps tl rfl h1 h2 a w ha h3
theorem Ao {es' : List En} (h : ∀ w, Fr S0 w0 w es -> Fr S0 w0 w es') (k : fg ds P n S0 w0 c Q ls es') : fg ds P n S0 w0 c Q ls es := fun a w ha hw => k a w ha (h w hw)
theorem xw {A : Prop} (hA : ∀ w, Fr S0 w0 w es -> A) (k : A -> fg ds P n S0 w0 c Q ls es) : fg ds P n S0 w0 c Q ls es := fun a w ha hw => k (hA w hw) a w ha hw
end
def qj {α : Type} (l : List α) (k p : Nat) (d : α) : List α := (l.set p (l.getD k d)).set k (l.getD p d)
theorem mZ {α : Type} (l : List α) (k p : Nat) (d : α) : (qj l k p d).length = l.length := by simp [qj]
theorem Fr.rlF {S0 : Nat -> Prop} {w0 w : World} {es : List En} (h : Fr S0 w0 w es) {ao : Option Addr} {cs : List Value} (hx : uX ao cs w) (hS : ∀ e ∈ es, e.wr = false) : Fr S0 w0 w (.rl ao cs :: es) :=
 h.cons hx (fun e he => ⟨(fun q => nomatch q), fun q => by rw [hS e he] at q; cases q⟩) (fun q => nomatch q)
theorem uX.below {ao : Option Addr} {cs : List Value} {w w' : World} (h : uX ao cs w) (hb : Below w.heap.size w w') : uX ao cs w' := fun hl => by
 obtain ⟨b, e, hlt, hc⟩ := h hl;exact ⟨b, e, CK hlt hb.size, fun i v hv => (hb.cell (p := ⟨b, i, none⟩) hlt).trans (hc i v hv)⟩
def cE (i j : Nat) : Int := if i = j then 1 else 0
theorem zF (i j : Nat) (w : World) : Calls Tryz.prog 66 #[.int .i64 (i : Int), .int .i64 (j : Int)] w fun e w' => (∃ v, e = .returned v /\ ai w' w.heap.size v (cE i j)) /\ Below w.heap.size w w' := by
 refine bN (S0 := fun _ => False) Tryz.func66 (Fr.nil _ w) ?_;by_cases h : i = j
 . subst h;rw [show cE i i = 1 from if_pos rfl];refine aA ?_;refine aW fun g4 => ?_;refine eW ?_;refine aA ?_;refine aT ?_;refine kq ?_;refine aA ?_;refine cN (fun w' H => js 1 w' Cp Cp) fun q => ?_;refine sW ?_;refine eQ ?_;refine dZ fun w' H => ?_;exact ⟨_, jh H.m1, ⟨_, rfl, H.m0⟩, H.below⟩
 . rw [show cE i j = 0 from if_neg h];have h01 : ¬ (i : Int) = (j : Int) := by omega
   refine aA ?_;refine aW fun g4 => ?_;refine eW ?_;refine aA ?_;refine aT ?_;refine fC ?_;refine aA ?_;refine dW ?_;refine sW ?_;refine eQ ?_;refine dZ fun w' H => ?_;exact ⟨_, jh H.m0, ⟨_, rfl, ai.zero _ _⟩, H.below⟩
theorem uw (n : Nat) (w : World) (hn : n <= 64) : Calls Tryz.prog 29 #[.int .i64 (n : Int)] w fun e w' => (∃ p : Option Addr × Nat, e = .returned (.tuple #[.agg #[.int .i64 (n : Int), .int .i64 (n : Int), .slice p.1 (n * n) p.2], .int .i64 0]) /\ fq w' p.1 (aF n cE (n * n)) /\ True /\ ∀ b o, p.1 = some ⟨b, o, none⟩ -> w.heap.size <= b) /\ Below w.heap.size w w' := by
 have s1 : bL (n : Int) = true := by unfold bL; simp; omega
 have hS1 : ∀ w', Calls Tryz.prog 34 #[.int .i64 (n : Int)] w' fun e w'' => e = .returned (.bool true) /\ Below w'.heap.size w' w'' := fun w' => (nY n w').mono fun e w'' ⟨h1, h2⟩ => ⟨by rw [h1, s1], h2 ▸ Below.refl _ _⟩;clear s1;refine bN (S0 := fun _ => False) Tryz.func29 (Fr.nil _ w) ?_;refine aA ?_;refine aW fun g2 => ?_;refine aC ?_;refine dO ?_;refine cV (v := .bool true) (fun w' H => hS1 w') ?_;refine aC ?_;refine kf ?_;refine aA ?_;refine aT ?_;refine mU (α := Option Addr × Nat) (mk := fun p => .agg #[.int .i64 (n : Int), .int .i64 (n : Int), .slice p.1 (n * n) p.2]) (ao := fun p => p.1) (xs := fun _ => aF n cE (n * n)) (A := fun _ => True) (fun w' H => (lf 66 (fun _ _ => by go_simp) #[] n n cE w' hn hn (fun i j w2 hi hj hb => zF i j w2)).mono (by
  rintro e w3 ⟨⟨ao, cap', rfl, hl, _, hS⟩, hb⟩;exact ⟨⟨(ao, cap'), rfl, hl, trivial, hS⟩, hb⟩)) fun q => ?_
 refine sW ?_;refine aC ?_;refine fk fun w' H => ?_;exact ⟨_, _, o0 H.m2, dT, ⟨q, rfl, H.m0, trivial, (show True /\ ∀ b o, q.1 = some ⟨b, o, none⟩ -> w.heap.size <= b from H.m1).2⟩, H.below⟩
def cC (m : Nat) (xs : List Int) (rs cs : List Nat) (i j : Nat) : Int := gi xs (rs.getD i 0 * m + cs.getD j 0)
def ot (ao : Option Addr) (cs : List Value) (w : World) : Prop := 0 < cs.length -> ∃ b o, ao = some ⟨b, o, none⟩ /\ b < w.heap.size /\ ∀ (i : Nat) v, cs[i]? = some v -> w.cell? ⟨b, o + i, none⟩ = some v
abbrev En.AH (ao : Option Addr) (cs : List Value) : En := .fact false false (fun g => 0 < cs.length /\ ∃ o, ao = some ⟨g, o, none⟩) (ot ao cs)
 (fun h b ⟨hl, o, e⟩ => by
  obtain ⟨b', o', e', hb, _⟩ := h hl;rw [e] at e'; cases e'; exact hb)
 (fun {w w' T} h hc _ hs hl => by
  obtain ⟨b, o, e, hb, hcl⟩ := h hl;exact ⟨b, o, e, CK hb hc.size, fun i v hv => (hc.cell (p := ⟨b, o + i, none⟩) hb (hs b ⟨hl, o, e⟩)).trans (hcl i v hv)⟩)
theorem ot.below {ao : Option Addr} {cs : List Value} {w w' : World} (h : ot ao cs w) (hb : Below w.heap.size w w') : ot ao cs w' := fun hl => by
 obtain ⟨b, o, e, hlt, hc⟩ := h hl;exact ⟨b, o, e, CK hlt hb.size, fun i v hv => (hb.cell (p := ⟨b, o + i, none⟩) hlt).trans (hc i v hv)⟩
theorem Fr.rloF {S0 : Nat -> Prop} {w0 w : World} {es : List En} (h : Fr S0 w0 w es) {ao : Option Addr} {cs : List Value} (hx : ot ao cs w) (hS : ∀ e ∈ es, e.wr = false) : Fr S0 w0 w (.AH ao cs :: es) :=
 h.cons hx (fun e he => ⟨(fun q => nomatch q), fun q => by rw [hS e he] at q; cases q⟩) (fun q => nomatch q)
section
variable {P : Program} {Q : Exit -> Act -> World -> Prop} {ds : List Deferred} {S0 : Nat -> Prop} {w0 : World} {n : Nat} {ls : List (Nat × Value)} {es : List En} {c : Code}
theorem rloW {ao : Option Addr} {cs : List Value} {v : Value} (i : Nat) (hm : En.AH ao cs ∈ es) (hi : cs[i]? = some v) (k : ∀ b o, ao = some ⟨b, o, none⟩ -> fg ds P n S0 w0 c Q ls (.cell ⟨b, o + i, none⟩ v :: es)) : fg ds P n S0 w0 c Q ls es := fun a w ha hw => by
 have hl : 0 < cs.length := by have := (List.getElem?_eq_some_iff.1 hi).1; omega
 obtain ⟨b, o, e, hb, hc⟩ := (hw.all _ hm : ot ao cs w) hl;exact k b o e a w ha (hw.cellOf hm rfl ⟨hl, o, e⟩ (hc i v hi))
end
theorem AB (i j ga gr gc n m nm cap k1 c1 k2 c2 L : Nat) (ao ro co : Option Addr) (rs cs : List Nat) (xs : List Int) (w : World) (h1 : w.cell? ⟨ga, 1, none⟩ = some (.int .i64 (m : Int))) (h2 : w.cell? ⟨ga, 2, none⟩ = some (.slice ao nm cap)) (h3 : w.cell? ⟨gr, 0, none⟩ = some (.slice ro k1 c1)) (h4 : w.cell? ⟨gc, 0, none⟩ = some (.slice co k2 c2))
 (hR : ot ro (iL rs) w) (hC : uX co (iL cs) w) (hA : aQ w L ao xs) (hL : L <= 17592186044415) (hk1 : rs.length = k1) (hk2 : cs.length = k2) (hs : xs.length = n * m) (hnm : xs.length = nm) (hi : i < k1) (hj : j < k2) (hri : rs.getD i 0 < n) (hcj : cs.getD j 0 < m) (hn : n <= 64) (hm : m <= 64) :
 Calls Tryz.prog 57 #[.int .i64 (i : Int), .int .i64 (j : Int), .pointer (some ⟨ga, 0, none⟩), .pointer (some ⟨gr, 0, none⟩), .pointer (some ⟨gc, 0, none⟩)] w fun e w' => (∃ v, e = .returned v /\ ai w' w.heap.size v (gi xs (rs.getD i 0 * m + cs.getD j 0))) /\ Below w.heap.size w w' := by
 obtain ⟨q, hq⟩ := Cs (rs.getD i 0);obtain ⟨p, hp⟩ := Cs (cs.getD j 0);have kr := nP [] (by rw [hk1]; exact hi) hq;have kc := nP [] (by rw [hk2]; exact hj) hp;rw [DZ] at kr kc;rw [hq] at hri |-;rw [hp] at hcj |-;have hlt := cZ hri hcj;have hb1 : q * m <= 4096 := Da (show q <= 64 by omega) hm;obtain ⟨t, ht⟩ := Cs (q * m + p);have htl : t < nm := by omega
 have htx : t < xs.length := by omega
 obtain ⟨bx, ox, rfl⟩ := hA.pos htx;have HA : Fr (fun _ => False) w w [.cell ⟨gc, 0, none⟩ (.slice co k2 c2), .cell ⟨gr, 0, none⟩ (.slice ro k1 c1), .cell ⟨ga, 2, none⟩ (.slice (some ⟨bx, ox, none⟩) nm cap), .cell ⟨ga, 1, none⟩ (.int .i64 (m : Int)), .rl co (iL cs), .AH ro (iL rs), .ls L (some ⟨bx, ox, none⟩) xs] :=
  Fr.cl (Fr.cl (Fr.cl (Fr.cl ((((Fr.nil _ w).l hA Cq).rloF hR (by simp [En.wr])).rlF hC (by simp [En.wr])) h1 (by simp [En.wr])) h2 (by simp [En.wr])) h3 (by simp [En.wr])) h4 (by simp [En.wr])
 have HS := H5 (Cv hs hnm);rw [ht];have HT := H5 ht;clear hs hnm hR hC hA h1 h2 h3 h4 hlt hk1 hk2 hq hp ht;refine bN (S0 := fun _ => False) Tryz.func57 HA ?_;clear HA;refine jY ?_;refine rloW (ao := ro) (cs := iL rs) (v := .int .i64 (q : Int)) i Cq kr fun rb rof hrb => ?_;subst hrb;refine rlW (ao := co) (cs := iL cs) (v := .int .i64 (p : Int)) j Cq kc fun cb hcb => ?_;subst hcb;refine lE (L := L) (xs := xs) (b := bx) (o := ox) t Cq htx fun pv => ?_;have h01 : (i : Int) < (k1 : Int) := by omega
 have h02 : (j : Int) < (k2 : Int) := by omega
 have h03 : (t : Int) < (nm : Int) := by omega
 refine rW [] ?_;refine aW fun g7 => ?_;refine eW ?_;refine aA ?_;refine bh ?_;refine bh ?_;refine dE (oI (a := q) (b := m) Cp) ?_;refine bh ?_;refine dE ((sO (a := q * m) (b := p) Cp).trans (by rw [HT.out])) ?_;refine aT ?_;refine cN (fun w' H => gz (av pv) (gi xs t) w' ((H.all (.at L (av pv) (gi xs t)) (by simp [av]) : ah ..).mono hL)) fun q2 => ?_;refine sW ?_;refine eQ ?_;refine dZ fun w' H => ?_;exact ⟨_, jh (H.all (.row g7 37 [.bool q2.1, .slice q2.2.1 q2.2.2.1 q2.2.2.2]) Cq), ⟨_, rfl, H.all (.own w.heap.size (av q2) (gi xs t)) (by simp [av])⟩, H.below⟩
theorem Ae (n m nm cap k1 c1 k2 c2 L : Nat) (ao ro co : Option Addr) (rs cs : List Nat) (xs : List Int) (w : World) (hR : ot ro (iL rs) w) (hC : uX co (iL cs) w) (hA : aQ w L ao xs) (hL : L <= 17592186044415) (hk1 : rs.length = k1) (hk2 : cs.length = k2) (hs : xs.length = n * m) (hnm : xs.length = nm) (hr : ∀ i < k1, rs.getD i 0 < n) (hc : ∀ j < k2, cs.getD j 0 < m) (hn : n <= 64) (hm : m <= 64) (h1 : k1 <= 64) (h2 : k2 <= 64) :
 Calls Tryz.prog 26 #[.agg #[.int .i64 (n : Int), .int .i64 (m : Int), .slice ao nm cap], .slice ro k1 c1, .slice co k2 c2] w fun e w' => (∃ p : Option Addr × Nat, e = .returned (.tuple #[.agg #[.int .i64 (k1 : Int), .int .i64 (k2 : Int), .slice p.1 (k1 * k2) p.2], .int .i64 0]) /\ fq w' p.1 (aF k2 (cC m xs rs cs) (k1 * k2)) /\ True /\ ∀ b o, p.1 = some ⟨b, o, none⟩ -> w.heap.size <= b) /\ Below w.heap.size w w' := by
 have hCk : ∀ w', Calls Tryz.prog 7 #[.agg #[.int .i64 (n : Int), .int .i64 (m : Int), .slice ao nm cap]] w' fun e w'' => e = .returned (.int .i64 0) /\ Below w'.heap.size w' w'' := fun w' => by
  have := cW (n : Int) (m : Int) ao nm cap w' Cp Cp;rw [dv (by unfold ba bL; rw [<- hnm, hs]; simp; omega)] at this; exact this
 have kr := fun i (hi : i < k1) q (hq : rs.getD i 0 = q) => nP [] (by rw [hk1]; exact hi) hq;have kc := fun i (hi : i < k2) q (hq : cs.getD i 0 = q) => nP [] (by rw [hk2]; exact hi) hq;simp only [DZ] at kr kc;have HA : Fr (fun _ => False) w w [.rl co (iL cs), .AH ro (iL rs), .ls L ao xs] := (((Fr.nil _ w).l hA Cq).rloF hR (by simp [En.wr])).rlF hC (by simp [En.wr]);have HP := H5 (fun i j ga gr gc (w' : World) a1 a2 a3 a4 a5 a6 a7 hi hj => AB i j ga gr gc n m nm cap k1 c1 k2 c2 L ao ro co rs cs xs w' a1 a2 a3 a4 a5 a6 a7 hL hk1 hk2 hs hnm hi hj (hr i hi) (hc j hj) hn hm);have HC := H5 hCk;have HK := H5 (Cv kr (Cv kc (Cv hr hc)));clear hCk kr kc hR hC hA hs hnm hr hc hk1 hk2;refine bN (S0 := fun _ => False) Tryz.func26 HA ?_;clear HA;refine aA ?_;refine aW fun g3 => ?_;refine aW fun g4 => ?_;refine aW fun g5 => ?_;refine aW fun g6 => ?_;refine aC ?_;refine dO ?_;refine cV (v := .int .i64 0) (fun w' H => HC.out w') ?_;refine aC ?_;refine dO ?_;refine fC ?_;refine aA ?_;refine aT ?_;refine aC ?_;refine cF (X := Nat) (fun k => k <= k1) (fun k => k1 - k) (fun k => [(21, .int .i64 (k : Int)), (20, .int .i64 (k1 : Int)), (19, .slice ro k1 c1), (3, .pointer (some ⟨g3, 0, none⟩)), (4, .pointer (some ⟨g4, 0, none⟩)), (5, .pointer (some ⟨g5, 0, none⟩)), (6, .pointer (some ⟨g6, 0, none⟩))])
  (fun _ => [.row g6 24 [.int .i64 0, .int .i64 0, .slice none 0 0], .row g5 34 [.slice co k2 c2], .row g4 34 [.slice ro k1 c1], .row g3 24 [.int .i64 (n : Int), .int .i64 (m : Int), .slice ao nm cap], .rl co (iL cs), .AH ro (iL rs), .ls L ao xs]) 0 (Cx _) fun k hk => ?_
 by_cases h : k < k1
 . have h01 : (k : Int) < (k1 : Int) := by omega
   refine aA ?_;refine dB true ?_;refine eQ ?_;obtain ⟨q, hq⟩ := Cs (rs.getD k 0);have hqn : q < n := by rw [<- hq]; exact HK.out.2.2.1 k h
   have kr := HK.out.1 k h q hq;clear hq;refine rloW (ao := ro) (cs := iL rs) (v := .int .i64 (q : Int)) k Cq kr fun rb rof hrb => ?_;subst hrb;have h02 : ¬ (q : Int) < 0 := by omega
   have h03 : ¬ (n : Int) <= (q : Int) := by omega
   refine nM ?_;refine aA ?_;refine aT ?_;refine aC ?_;refine dO ?_;refine dB false ?_;refine dW ?_;refine oz ?_;refine mQ false ?_;refine aC ?_;refine kf ?_;refine aA ?_;refine dE (dL (a := k) Cp) ?_;refine aC ?_;exact cD (k + 1) ⟨h, by omega⟩
 . obtain rfl : k1 = k := by omega
   refine aA ?_;refine fC ?_;refine aA ?_;refine aT ?_;refine aC ?_;refine cF (X := Nat) (fun k => k <= k2) (fun k => k2 - k) (fun k => [(37, .int .i64 (k : Int)), (36, .int .i64 (k2 : Int)), (35, .slice co k2 c2), (3, .pointer (some ⟨g3, 0, none⟩)), (4, .pointer (some ⟨g4, 0, none⟩)), (5, .pointer (some ⟨g5, 0, none⟩)), (6, .pointer (some ⟨g6, 0, none⟩))])
    (fun _ => [.row g6 24 [.int .i64 0, .int .i64 0, .slice none 0 0], .row g5 34 [.slice co k2 c2], .row g4 34 [.slice ro k1 c1], .row g3 24 [.int .i64 (n : Int), .int .i64 (m : Int), .slice ao nm cap], .rl co (iL cs), .AH ro (iL rs), .ls L ao xs]) 0 (Cx _) fun k hk' => ?_
   by_cases h : k < k2
   . have h01 : (k : Int) < (k2 : Int) := by omega
     refine aA ?_;refine dB true ?_;refine eQ ?_;obtain ⟨q, hq⟩ := Cs (cs.getD k 0);have hqn : q < m := by rw [<- hq]; exact HK.out.2.2.2 k h
     have kc := HK.out.2.1 k h q hq;clear hq;refine rlW (ao := co) (cs := iL cs) (v := .int .i64 (q : Int)) k Cq kc fun cb hcb => ?_;subst hcb;have h02 : ¬ (q : Int) < 0 := by omega
     have h03 : ¬ (m : Int) <= (q : Int) := by omega
     refine nM ?_;refine aA ?_;refine aT ?_;refine aC ?_;refine dO ?_;refine dB false ?_;refine dW ?_;refine oz ?_;refine mQ false ?_;refine aC ?_;refine kf ?_;refine aA ?_;refine dE (dL (a := k) Cp) ?_;refine aC ?_;exact cD (k + 1) ⟨h, by omega⟩
   . obtain rfl : k2 = k := by omega
     refine aA ?_;refine dB false ?_;have h04 : ¬ (64 : Int) < (k1 : Int) := by omega
     have h05 : ¬ (64 : Int) < (k2 : Int) := by omega
     refine eQ ?_;refine kf ?_;refine aA ?_;refine aT ?_;refine dB false ?_;refine dW ?_;refine dG ?_;refine dG ?_;refine mQ false ?_;refine aC ?_;refine kf ?_;refine aA ?_;refine bh ?_;refine fW ?_;refine mU (α := Option Addr × Nat) (mk := fun p => .agg #[.int .i64 (k1 : Int), .int .i64 (k2 : Int), .slice p.1 (k1 * k2) p.2]) (ao := fun p => p.1) (xs := fun _ => aF k2 (cC m xs rs cs) (k1 * k2)) (A := fun _ => True) (fun w' H => (lf 57 (fun _ _ => by go_simp) #[.pointer (some ⟨g3, 0, none⟩), .pointer (some ⟨g4, 0, none⟩), .pointer (some ⟨g5, 0, none⟩)] k1 k2 (cC m xs rs cs) w' h1 h2 (fun i j w2 hi hj hb => by
      have a1 : aa w' g3 24 [.int .i64 (n : Int), .int .i64 (m : Int), .slice ao nm cap] := H.all (.row g3 24 [.int .i64 (n : Int), .int .i64 (m : Int), .slice ao nm cap]) Cq;have a2 : aa w' g4 34 [.slice ro k1 c1] := H.all (.row g4 34 [.slice ro k1 c1]) Cq;have a3 : aa w' g5 34 [.slice co k2 c2] := H.all (.row g5 34 [.slice co k2 c2]) Cq;have a4 : ot ro (iL rs) w' := H.all (.AH ro (iL rs)) Cq;have a5 : uX co (iL cs) w' := H.all (.rl co (iL cs)) Cq;have a6 : aQ w' L ao xs := H.all (.ls L ao xs) Cq;exact HP.out i j g3 g4 g5 w2 ((a1.below hb a1.lt).cell 1) ((a1.below hb a1.lt).cell 2) ((a2.below hb a2.lt).cell 0) ((a3.below hb a3.lt).cell 0) (a4.below hb) (a5.below hb) (a6.below hb) hi hj)).mono (by
      rintro e w3 ⟨⟨ao, cap', rfl, hl, _, hS⟩, hb⟩;exact ⟨⟨(ao, cap'), rfl, hl, trivial, hS⟩, hb⟩)) fun q => ?_
     refine sW ?_;refine aC ?_;refine fk fun w' H => ?_;exact ⟨_, _, o0 (H.all (.row g6 24 [.int .i64 (k1 : Int), .int .i64 (k2 : Int), .slice q.1 (k1 * k2) q.2]) Cq), dT, ⟨q, rfl, H.m0, trivial, (show True /\ ∀ b o, q.1 = some ⟨b, o, none⟩ -> w.heap.size <= b from H.m1).2⟩, H.below⟩
theorem uX.AH {ao : Option Addr} {cs : List Value} {w : World} (h : uX ao cs w) : ot ao cs w := fun hl => by
 obtain ⟨b, e, hb, hc⟩ := h hl;exact ⟨b, 0, e, hb, fun i v hv => by rw [Db]; exact hc i v hv⟩
theorem qd (n m nm cap k1 c1 k2 c2 L : Nat) (ao ro co : Option Addr) (rs cs : List Nat) (xs : List Int) (w : World) (hR : uX ro (iL rs) w) (hC : uX co (iL cs) w) (hA : aQ w L ao xs) (hL : L <= 17592186044415) (hk1 : rs.length = k1) (hk2 : cs.length = k2) (hs : xs.length = n * m) (hnm : xs.length = nm) (hr : ∀ i < k1, rs.getD i 0 < n) (hc : ∀ j < k2, cs.getD j 0 < m) (hn : n <= 64) (hm : m <= 64) (h1 : k1 <= 64) (h2 : k2 <= 64) :
 Calls Tryz.prog 26 #[.agg #[.int .i64 (n : Int), .int .i64 (m : Int), .slice ao nm cap], .slice ro k1 c1, .slice co k2 c2] w fun e w' => (∃ p : Option Addr × Nat, e = .returned (.tuple #[.agg #[.int .i64 (k1 : Int), .int .i64 (k2 : Int), .slice p.1 (k1 * k2) p.2], .int .i64 0]) /\ fq w' p.1 (aF k2 (cC m xs rs cs) (k1 * k2)) /\ True /\ ∀ b o, p.1 = some ⟨b, o, none⟩ -> w.heap.size <= b) /\ Below w.heap.size w w' := Ae n m nm cap k1 c1 k2 c2 L ao ro co rs cs xs w hR.AH hC hA hL hk1 hk2 hs hnm hr hc hn hm h1 h2
structure jo where
 ro : Option Addr
 rc : Nat
 no : Option Addr
 nc : Nat
 gs : List Nat
 E : List (List Int)
 nu : List Nat
 tn : Bool
 lp : P4
 ls : Int
 tk : Nat
def yE (z : jo) : List Value := [.slice z.ro z.E.length z.rc, .slice z.no z.E.length z.nc, .bool z.tn, .bool z.lp.1, .slice z.lp.2.1 z.lp.2.2.1 z.lp.2.2.2, .int .i64 (z.tk : Int)]
def fT (gs : List Nat) (n : Nat) : Prop := ∀ a b, a < n -> b < n -> gs.getD a 0 = gs.getD b 0 -> a = b
theorem oT {gs : List Nat} {n g : Nat} (hl : gs.length = n) (h : fT gs n) (hg : ∀ t, t < n -> gs.getD t 0 ≠ g) : fT (gs ++ [g]) (n + 1) := fun a b ha hb e => by
 rw [iq, iq, hl] at e;by_cases h1 : a < n <;> by_cases h2 : b < n
 . rw [if_pos h1, if_pos h2] at e; exact h a b h1 h2 e
 . rw [if_pos h1, if_neg h2, if_pos Cp] at e; exact absurd e (hg a h1)
 . rw [if_neg h1, if_pos Cp, if_pos h2] at e; exact absurd e.symm (hg b h2)
 . omega
abbrev BJ (gF m : Nat) (z : jo) : List En := [.row gF 87 (yE z), .lg 22 1 z.ro z.E.length z.rc (hG m z.gs), .lg 3 1 z.no z.E.length z.nc (iL z.nu), .jm z.E.length z.gs z.E, .num (av z.lp) z.ls]
def fX (gF m : Nat) (z : jo) (w : World) : Prop := (aa w gF 87 (yE z) /\ mL 22 1 z.ro z.E.length z.rc (hG m z.gs) w /\ mL 3 1 z.no z.E.length z.nc (iL z.nu) w /\ Aj z.E.length z.gs z.E w /\ aL w (av z.lp) z.ls) /\ z.gs.length = z.E.length /\ fT z.gs z.E.length
def fK (gF : Nat) (z : jo) (g : Nat) : Prop := g = gF \/ (∃ o, z.ro = some ⟨g, o, none⟩) \/ (∃ o, z.no = some ⟨g, o, none⟩) \/ ∃ t, t < z.E.length /\ t ≠ z.E.length /\ g = z.gs.getD t 0
theorem gP {te : TypeId} {sz : Nat} {ao : Option Addr} {k cap : Nat} {cs : List Value} {w : World} (h : mL te sz ao k cap cs w) {b : Nat} (hb : ∃ o, ao = some ⟨b, o, none⟩) : ∃ tl, aN tl /\ aa w b te (cs ++ tl) := by
 obtain ⟨o, hb⟩ := hb;obtain ⟨_, _, ⟨e, _⟩ | ⟨b', tl, e, hn, hr, _⟩⟩ := h
 . rw [hb] at e; cases e
 . rw [hb] at e; cases e; exact ⟨tl, hn, hr⟩
theorem fX.rows {gF m : Nat} {z : jo} {w : World} (h : fX gF m z w) {g : Nat} (hg : fK gF z g) : ∃ t cs, aa w g t cs /\ aN cs /\ t ≠ 60 := by
 obtain ⟨⟨h1, h2, h3, h4, h5⟩, _⟩ := h;rcases hg with rfl | hg | hg | ⟨t, ht, hx, rfl⟩
 . exact ⟨_, _, h1, aN.slice (aN.slice (aN.bool (aN.bool (aN.slice (aN.i64 aN.nil))))), by decide⟩
 . obtain ⟨tl, hn, hr⟩ := gP h2 hg;exact ⟨_, _, hr, (ic m z.gs).append hn, by decide⟩
 . obtain ⟨tl, hn, hr⟩ := gP h3 hg;exact ⟨_, _, hr, (iX z.nu).append hn, by decide⟩
 . obtain ⟨ps, tl, hn, hr, _⟩ := h4 t ht hx;exact ⟨_, _, hr, aN.rn hn, by decide⟩
abbrev En.sC (gF m : Nat) (z : jo) : En := .fact true true (fK gF z) (fX gF m z) (fun h g hg => by obtain ⟨t, cs, hr, _⟩ := h.rows hg; exact hr.lt)
 (fun {w w' T} ⟨⟨h1, h2, h3, h4, h5⟩, h6, h7⟩ hc hT hs => by
  refine ⟨⟨hc.row h1 (hs _ (.inl rfl)), ?_, ?_, fun t ht hx => ?_, hc.num (hT rfl).bZ h5⟩, h6, h7⟩
  . exact ⟨h2.1, h2.2.1, h2.2.2.imp id fun ⟨b, tl, e, hn, hr, hl⟩ => ⟨b, tl, e, hn, hc.row hr (hs _ (.inr (.inl ⟨0, e⟩))), hl⟩⟩
  . exact ⟨h3.1, h3.2.1, h3.2.2.imp id fun ⟨b, tl, e, hn, hr, hl⟩ => ⟨b, tl, e, hn, hc.row hr (hs _ (.inr (.inr (.inl ⟨0, e⟩)))), hl⟩⟩
  . obtain ⟨ps, tl, hn, hr, h1', h2'⟩ := h4 t ht hx;exact ⟨ps, tl, hn, hc.row hr (hs _ (.inr (.inr (.inr ⟨t, ht, hx, rfl⟩)))), h1', fun i a => hc.num (hT rfl).bZ (h2' i a)⟩)
theorem Fr.fldO {S0 : Nat -> Prop} {w0 w : World} {es : List En} {gF m : Nat} {z : jo} (h : Fr S0 w0 w (.sC gF m z :: es)) : Fr S0 w0 w (BJ gF m z ++ es) /\ z.gs.length = z.E.length /\ fT z.gs z.E.length := by
 obtain ⟨⟨h1, h2, h3, h4, h5⟩, h6, h7⟩ := (h.m0 : fX gF m z w);have q12 : ∀ b, (∃ o, z.ro = some ⟨b, o, none⟩) -> b ≠ gF := fun b hb e => by
  obtain ⟨tl, _, hr⟩ := gP h2 hb; subst e; exact absurd rfl (hr.ne h1 Cr)
 have q13 : ∀ b, (∃ o, z.no = some ⟨b, o, none⟩) -> b ≠ gF := fun b hb e => by
  obtain ⟨tl, _, hr⟩ := gP h3 hb; subst e; exact absurd rfl (hr.ne h1 Cr)
 have q14 : ∀ b, (∃ t, t < z.E.length /\ t ≠ z.E.length /\ b = z.gs.getD t 0) -> b ≠ gF := fun b ⟨t, ht, hx, e'⟩ e => by
  obtain ⟨ps, tl, _, hr, _⟩ := h4 t ht hx; rw [<- e', e] at hr; exact absurd rfl (hr.ne h1 Cr)
 have q23 : ∀ b, (∃ o, z.ro = some ⟨b, o, none⟩) -> ¬ ∃ o, z.no = some ⟨b, o, none⟩ := fun b hb hb' => by
  obtain ⟨tl, _, hr⟩ := gP h2 hb; obtain ⟨tl', _, hr'⟩ := gP h3 hb'; exact absurd rfl (hr.ne hr' Cr)
 have q24 : ∀ b, (∃ o, z.ro = some ⟨b, o, none⟩) -> ¬ ∃ t, t < z.E.length /\ t ≠ z.E.length /\ b = z.gs.getD t 0 := fun b hb ⟨t, ht, hx, e'⟩ => by
  obtain ⟨tl, _, hr⟩ := gP h2 hb; obtain ⟨ps, tl', _, hr', _⟩ := h4 t ht hx; rw [<- e'] at hr'; exact absurd rfl (hr.ne hr' Cr)
 have q34 : ∀ b, (∃ o, z.no = some ⟨b, o, none⟩) -> ¬ ∃ t, t < z.E.length /\ t ≠ z.E.length /\ b = z.gs.getD t 0 := fun b hb ⟨t, ht, hx, e'⟩ => by
  obtain ⟨tl, _, hr⟩ := gP h3 hb; obtain ⟨ps, tl', _, hr', _⟩ := h4 t ht hx; rw [<- e'] at hr'; exact absurd rfl (hr.ne hr' Cr)
 refine ⟨h.o6 rfl (fun x hx => ?_) ?_, h6, h7⟩
 . simp only [BJ, Di, CX, or_false] at hx;rcases hx with rfl | rfl | rfl | rfl | rfl
   . exact ⟨h1, fun b e => .inl e⟩
   . exact ⟨h2, fun b e => .inr (.inl e)⟩
   . exact ⟨h3, fun b e => .inr (.inr (.inl e))⟩
   . exact ⟨h4, fun b e => .inr (.inr (.inr e))⟩
   . exact ⟨h5, fun b e => e.elim⟩
 . refine .cons (fun x hx => ?_) (.cons (fun x hx => ?_) (.cons (fun x hx => ?_) (.cons (fun x hx => ?_) (.cons (fun x hx => (DQ hx).elim) .nil))))
   . simp only [Di, CX, or_false] at hx;rcases hx with rfl | rfl | rfl | rfl
     . exact ⟨fun _ b hb hb' => q12 b hb' hb, fun _ b hb' hb => q12 b hb' hb⟩
     . exact ⟨fun _ b hb hb' => q13 b hb' hb, fun _ b hb' hb => q13 b hb' hb⟩
     . exact ⟨fun _ b hb hb' => q14 b hb' hb, fun _ b hb' hb => q14 b hb' hb⟩
     . exact ⟨fun _ _ _ h => h, fun q => nomatch q⟩
   . simp only [Di, CX, or_false] at hx;rcases hx with rfl | rfl | rfl
     . exact ⟨fun _ b hb hb' => q23 b hb hb', fun _ b hb' hb => q23 b hb hb'⟩
     . exact ⟨fun _ b hb hb' => q24 b hb hb', fun _ b hb' hb => q24 b hb hb'⟩
     . exact ⟨fun _ _ _ h => h, fun q => nomatch q⟩
   . simp only [Di, CX, or_false] at hx;rcases hx with rfl | rfl
     . exact ⟨fun _ b hb hb' => q34 b hb hb', fun _ b hb' hb => q34 b hb hb'⟩
     . exact ⟨fun _ _ _ h => h, fun q => nomatch q⟩
   . simp only [Di, CX, or_false] at hx;rcases hx with rfl;exact ⟨fun _ _ _ h => h, fun q => nomatch q⟩
def cM (k c : Nat) (xs : List Int) : List (List Int) := (List.range k).map (rowOf xs c)
theorem ef (k c : Nat) (xs : List Int) : (cM k c xs).length = k := by simp [cM]
theorem tz (k c : Nat) (xs : List Int) : cM (k + 1) c xs = cM k c xs ++ [rowOf xs c k] := by simp [cM, Ey]
theorem factI {l N : Nat} {P : Program} {n : Nat} {S0 : Nat -> Prop} {w0 : World} {c : Code} {Q : Exit -> Act -> World -> Prop} {ls : List (Nat × Value)} {es : List En} {A : Prop} (hA : ∀ w, Fr S0 w0 w es -> A) (k : A -> CI l N P n S0 w0 c Q ls es) : CI l N P n S0 w0 c Q ls es := fun a w ha hw => k (hA w hw) a w ha hw
structure OfX where
 k : Nat
 ro : Option Addr
 rc : Nat
 no : Option Addr
 nc : Nat
 gs : List Nat
structure OfI (k : Nat) (x : OfX) : Prop where
 hk : x.k = k
 hl : x.gs.length = k
 hi : fT x.gs k
theorem Bb (r c nm L cap : Nat) (ao : Option Addr) (xs : List Int) (w : World) (hr : r <= 64) (hc : c <= 64) (hA : aQ w L ao xs) (hL : L <= 17592186044415) (hs : xs.length = r * c) (hnm : xs.length = nm) (hb : ∀ x ∈ xs, ag x.natAbs <= 17592186044415) :
 Calls Tryz.prog 59 #[.agg #[.int .i64 (r : Int), .int .i64 (c : Int), .slice ao nm cap]] w fun e w' => ∃ q : Nat × jo, e = .returned (.pointer (some ⟨q.1, 0, none⟩)) /\ Nw w w' [.sC q.1 c q.2] /\ q.2.E = cM r c xs /\ q.2.ls = 1 /\ q.2.tn = false /\ q.2.tk = 0 /\ q.2.nu.length = r := by
 have cL := fun w' (h : aQ w' L ao xs) => sX r c nm ao cap xs w' hr hc (fun hl => by
  obtain ⟨b, o, e, hlt, hc⟩ := h hl;exact ⟨b, o, e, hlt, fun i hi => by obtain ⟨p, h0, h1, hn⟩ := hc i hi; exact ⟨p, h0, h1, hn.mono hL⟩⟩) hs hnm
 have HC := H5 cL;have HS := H5 (Cv hs (Cv hnm hb));clear cL hs hnm hb;refine B9 (S0 := fun _ => False) Tryz.func59 ((Fr.nil _ w).l hA Cq) ?_;refine aA ?_;refine aW fun g1 => ?_;refine aC ?_;refine rW [] ?_;refine cN (fun w' H => js 1 w' Cp Cp) fun p6 => ?_;refine dW ?_;refine aW fun g8 => ?_;refine aW fun g3 => ?_;refine sG ?_;refine eW ?_;refine aA ?_;refine dW ?_;refine cG (α := (Nat × Nat) × List P4 × List Value) (mk := fun q => .func (.func 89) #[] #[.pointer (some ⟨q.1.1, 0, none⟩)]) (ens := fun q => [.row q.1.1 24 [.int .i64 (r : Int), .int .i64 (c : Int), .slice (some ⟨q.1.2, 0, none⟩) nm nm], .row q.1.2 37 (rn q.2.1 q.2.2), .ns q.2.1 xs, .pr (aN q.2.2)]) (fun w' H => HC.out w' (H.all (.ls L ao xs) Cq)) fun q => ?_;refine eQ ?_;refine r6 (A := aN q.2.2) Cq fun hq => ?_;refine zU (te := 22) (sz := 1) ?_;refine zU (te := 3) (sz := 1) ?_;refine Bc ?_;refine vB (X := OfX) (gb := q.1.1) (b := q.1.2) (r := r) (c := c) (m := nm) (ps := q.2.1) (tl := q.2.2) (xs := xs) OfI
  (fun x => [.row g8 87 [.slice x.ro x.k x.rc, .slice x.no x.k x.nc, .bool false, .bool p6.1, .slice p6.2.1 p6.2.2.1 p6.2.2.2, .int .i64 0], .lg 22 1 x.ro x.k x.rc (hG c x.gs), .lg 3 1 x.no x.k x.nc (iL (List.range x.k)), .jm x.k x.gs (cM x.k c xs), .row g3 84 [.pointer (some ⟨g8, 0, none⟩)], .own w.heap.size (av p6) 1])
  (fun D x => [.row g8 87 [.slice x.ro x.k x.rc, .slice x.no x.k x.nc, .bool false, .bool p6.1, .slice p6.2.1 p6.2.2.1 p6.2.2.2, .int .i64 0], .lg 22 1 x.ro x.k x.rc (hG c x.gs), .lg 3 1 x.no x.k x.nc (iL (List.range x.k)), .jm x.k x.gs (cM x.k c xs), .row g3 84 [.pointer (some ⟨g8, 0, none⟩)], .own w.heap.size (av p6) 1, .we w.heap.size D])
  ⟨0, none, 0, none, 0, []⟩ (fun k g => [(4, .int .i64 (k : Int)), (5, .slice (some ⟨g, 0, none⟩) c c), (3, .pointer (some ⟨g3, 0, none⟩))]) hr hc HS.out.1 HS.out.2.1 HS.out.2.2 hq ⟨rfl, rfl, fun a b ha => absurd ha (Dv _)⟩ (fun l k g W => ?_) (fun l k x g qs tk S' W hx hk htk => ?_) (fun D x hx => ?_)
  (fun x => .cons .row .row (.cons .lg (.lg (ic _ _)) (.cons .lg (.lg (iX _)) (.cons .jm .jm (.cons .row .row (.cons .own (.no rfl) .nil))))))
 . refine yO ?_;refine rI [] ?_;refine dW ?_;refine eW ?_;refine yO ?_;refine rI [] ?_;refine dW ?_;refine eW ?_;refine yO ?_;exact asgE
 . obtain ⟨k0, ro, rc, no, nc, gs⟩ := x;obtain ⟨hk0, hgl, hgi⟩ := hx;obtain rfl : k0 = k := hk0
   replace hgl : gs.length = k0 := hgl
   replace hgi : fT gs k0 := hgi
   have hk64 : k0 <= 64 := by omega
   have HG := H5 (Cv hgl hgi);clear hgl hgi;refine yO ?_;refine factI (A := ∀ t, t < k0 -> gs.getD t 0 ≠ g) (fun w' h => by
    have h2 : Fr S' W w' (.row g 37 (rn qs tk) :: .ns qs (rowOf xs c k0) :: .jm k0 gs (cM k0 c xs) :: []) := h.pick (by repeat (first | exact Pk.n | refine Pk.c (by repeat (first | exact Rm.z | apply Rm.s)) ?_));have h3 := (h2.qX (x' := k0 + 1) (by rw [ef]; exact HG.out.1) (by rw [ef]; exact Ct _) (by rw [ef]; omega) htk).2;rw [ef] at h3; exact h3) fun hne => ?_
   have HN := H5 hne;clear hne;refine rI [[3]] ?_;(iterate 6 refine dH ?_);refine bW (m := 1) fun g19 => ?_;refine Am (k := k0) (cap := rc) (g := g19) (c := 1) (ao := ro) (cs := hG c gs) (v := .slice (some ⟨g, 0, none⟩) c c) Tryz.underlying70 yz rfl (qn (.slice none 0 0) rfl (fun n h => nomatch h)) Cp Cp rfl ⟨ic c gs, by decide⟩ Cq fun u => ?_;refine dH ?_;refine dH ?_;refine sW ?_;refine eW ?_;refine yO ?_;refine rI [[5]] ?_;(iterate 6 refine dH ?_);refine bW (m := 1) fun g29 => ?_;refine Am (k := k0) (cap := nc) (g := g29) (c := 1) (ao := no) (cs := iL (List.range k0)) (v := .int .i64 (k0 : Int)) Tryz.underlying34 tZ rfl (qn (.int .i64 0) rfl (fun n h => nomatch h)) Cp Cp rfl ⟨iX _, by decide⟩ Cq fun v => ?_;refine dH ?_;refine dH ?_;refine sW ?_;refine eW ?_;refine yO ?_;exact rdE (⟨k0 + 1, u.1, u.2, v.1, v.2, gs ++ [g]⟩ : OfX) ⟨rfl, by show (gs ++ [g]).length = _; rw [CQ, HG.out.1]; rfl, oT HG.out.1 HG.out.2 HN.out⟩ (he := by
    intro w' h;rw [uJ, uU, show List.range k0 ++ [k0] = List.range (k0 + 1) from List.range_succ.symm] at h;have h2 := h.pick (es' := .row g 37 (rn qs tk) :: .ns qs (rowOf xs c k0) :: .jm k0 gs (cM k0 c xs) :: [.row g8 87 [.slice u.1 (k0 + 1) u.2, .slice v.1 (k0 + 1) v.2, .bool false, .bool p6.1, .slice p6.2.1 p6.2.2.1 p6.2.2.2, .int .i64 0], .lg 22 1 u.1 (k0 + 1) u.2 (hG c (gs ++ [g])), .lg 3 1 v.1 (k0 + 1) v.2 (iL (List.range (k0 + 1))), .row g3 84 [.pointer (some ⟨g8, 0, none⟩)], .own w.heap.size (av p6) 1]) (by repeat (first | exact Pk.n | refine Pk.c (by repeat (first | exact Rm.z | apply Rm.s)) ?_));have h3 := (h2.qX (x' := k0 + 1) (by rw [ef]; exact HG.out.1) (by rw [ef]; exact Ct _) (by rw [ef]; omega) htk).1;rw [<- tz] at h3;exact h3.pick (by repeat (first | exact Pk.n | refine Pk.c (by repeat (first | exact Rm.z | apply Rm.s)) ?_)))
 obtain ⟨k0, ro, rc, no, nc, gs⟩ := x;obtain ⟨hk0, hgl, hgi⟩ := hx;obtain rfl : k0 = r := hk0;have HG : Hid (gs.length = k0 /\ fT gs k0) := H5 ⟨hgl, hgi⟩;clear hgl hgi;refine aA ?_;refine dW ?_;refine aC ?_;refine fin1M (D := D) (es' := [.row g8 87 [.slice ro k0 rc, .slice no k0 nc, .bool false, .bool p6.1, .slice p6.2.1 p6.2.2.1 p6.2.2.2, .int .i64 0], .lg 22 1 ro k0 rc (hG c gs), .lg 3 1 no k0 nc (iL (List.range k0)), .jm k0 gs (cM k0 c xs), .own w.heap.size (av p6) 1]) (fun w' H => ?_) (.cons .row .row (.cons .lg (.lg (ic _ _)) (.cons .lg (.lg (iX _)) (.cons .jm .jm (.cons .own (.no rfl) .nil))))) Cq;have hE : (cM k0 c xs).length = k0 := ef ..;have hF : fX g8 c ⟨ro, rc, no, nc, gs, cM k0 c xs, List.range k0, false, p6, 1, 0⟩ w' := by
  refine ⟨⟨?_, ?_, ?_, ?_, ai.num H.m4⟩, HG.out.1.trans hE.symm, by show fT gs (cM k0 c xs).length; rw [hE]; exact HG.out.2⟩
  . show aa w' g8 _ [.slice ro (cM k0 c xs).length rc, .slice no (cM k0 c xs).length nc, _, _, _, _];rw [hE]; exact H.m0
  . show mL _ 1 ro (cM k0 c xs).length rc (hG c gs) w';rw [hE]; exact H.m1
  . show mL _ 1 no (cM k0 c xs).length nc (iL (List.range k0)) w';rw [hE]; exact H.m2
  . show Aj (cM k0 c xs).length gs _ w';rw [hE]; exact H.m3
 have hS : ∀ b, fK g8 ⟨ro, rc, no, nc, gs, cM k0 c xs, List.range k0, false, p6, 1, 0⟩ b -> w.heap.size <= b := by
  rintro b (e | e | e | ⟨t, ht, _, e⟩)
  . exact (H.own _ (CC ..) rfl b e).elim (fun h => h.elim) id
  . exact (H.own _ (CB _ (CC ..)) rfl b e).elim (fun h => h.elim) id
  . exact (H.own _ (CB _ (CB _ (CC ..))) rfl b e).elim (fun h => h.elim) id
  . exact (H.own _ (CB _ (CB _ (CB _ (CC ..)))) rfl b ⟨t, ht, by rw [show t = t from rfl]; have := hE; have h : t < (cM k0 c xs).length := ht; omega, e⟩).elim (fun h => h.elim) id
 exact ⟨_, dT, (g8, ⟨ro, rc, no, nc, gs, cM k0 c xs, List.range k0, false, p6, 1, 0⟩), rfl, ⟨H.below, fun e he => by rcases List.mem_singleton.1 he with rfl; exact ⟨hF, hS⟩, CM ..⟩, rfl, rfl, rfl, rfl, by simp⟩
section
variable {ops : Array Oper} {Q : Exit -> Act -> World -> Prop} {ds : List Deferred} {S0 : Nat -> Prop} {w0 : World} {E0 : List En} {n j s : Nat} {l : List Nat} {G E : List En} {ls : List (Nat × Value)} {ty : TypeId} {pos : String} {af : Array Edge}
theorem slL {sx sl : Operand} (a : Option Addr) (len cap x : Nat) (v : Value) (hx : x <= len) (hv : sliced a x len cap 1 = v) (k : dY ds ⟨Tryz.prog, ops, Q, S0, w0, E0, []⟩ n l G E ((s, v) :: ls))
 (ho : ops[j]? = some ⟨some s, .slice 70 sx (some sl) none none, ty, pos, af, none⟩ := by rfl) (hk : (bY (.slice 70 sx (some sl) none none) && ew ls (.slice 70 sx (some sl) none none) && Nat.blt s n) = true := by kernel_rfl)
 (h1 : dy ls sx = .slice a len cap := by (simp only [cQ, Nat.reduceEqDiff, ↓reduceIte]) <;> rfl) (h2 : dy ls sl = .int .i64 (x : Int) := by (simp only [cQ, Nat.reduceEqDiff, ↓reduceIte]) <;> rfl) : dY ds ⟨Tryz.prog, ops, Q, S0, w0, E0, []⟩ n (j :: l) G E ls := by
 refine dW k ho hk fun w _ => ?_;subst hv;have e := run_slice_l (P := Tryz.prog) w 70 a len cap Tryz.underlying70 .i64 (x : Int) Cp Cp;have e2 := run_sliceAt_slice (P := Tryz.prog) w 70 (.slice a len cap) (some (.int .i64 (x : Int))) none none Tryz.underlying70;have e3 : (sizeOf (Tryz.prog.elem 70)).run Tryz.prog w = .ok 1 w := by go_simp <;> rfl
 rw [e3] at e;simp only [Ex, Result.andThen] at e;simp [execOp, h1, h2, e2, e, Result.andThen]
end
theorem di {α : Type} {l : List α} {i t : Nat} {x d : α} (hi : i < l.length) : (l.set i x).getD t d = if t = i then x else l.getD t d := by
 by_cases h : t = i
 . subst h; simp [hi]
 . rw [if_neg h]; simp [List.getElem?_set_ne (fun e => h e.symm)]
theorem kQ {α : Type} {l : List α} {k p t : Nat} {d : α} (hk : k < l.length) (hp : p < l.length) : (qj l k p d).getD t d = l.getD (mb k p t) d := by
 unfold qj mb;rw [di (by simpa using hk), di hp];by_cases h1 : t = k
 . rw [if_pos h1, if_pos h1]
 . rw [if_neg h1, if_neg h1];by_cases h2 : t = p
   . rw [if_pos h2, if_pos h2]
   . rw [if_neg h2, if_neg h2]
theorem vC {α β : Type} (f : α -> β) {l : List α} {k p : Nat} {d : α} (hk : k < l.length) (hp : p < l.length) (tl : List β) : (((l.map f ++ tl).set p (f (l.getD k d))).set k (f (l.getD p d))) = (qj l k p d).map f ++ tl := by
 rw [DX _ _ (by simpa using hp), DX _ _ (by simpa using hk)];congr 1;unfold qj;rw [ET, ET]
theorem iK {α : Type} {l : List α} {t : Nat} {d : α} (h : t < l.length) : l.set t (l.getD t d) = l := by
 rw [show l.getD t d = l[t] by simp [h]]; exact List.set_getElem_self h
def bP (E : List (List Int)) (i j : Nat) : Int := gi (E.getD i []) j
structure oD (n m mw : Nat) (A : Mx) (c k : Nat) (nu cs : Nat -> Nat) (z : jo) : Prop where
 El : z.E.length = n
 rl : ∀ t < n, (z.E.getD t []).length = m
 nl : z.nu.length = n
 tk : z.tk = k
 br : iV n m A c k nu cs (bP z.E) z.ls
 Ab : ∀ i j, (A i j).natAbs <= W ^ mw
 eb : ∀ t < n, ∀ j, ag (bP z.E t j).natAbs <= 64 * (mw + 1)
 lb : ag z.ls.natAbs <= 64 * (mw + 1)
def xy (n m mw : Nat) (A : Mx) (c k : Nat) (nu cs : Nat -> Nat) (z : jo) (b : Bool) (z' : jo) : Prop :=
 (b = false /\ z' = z /\ oD n m mw A (c + 1) k nu cs z' /\ ∀ i, k <= i -> i < n -> bP z.E i c = 0) \/
 (b = true /\ k < n /\ ∃ nu', oD n m mw A (c + 1) (k + 1) nu' (mF cs k c) z' /\ ((z'.tn = z.tn /\ nu' = nu) \/ (z'.tn = !z.tn /\ ∃ p, k < p /\ p < n /\ nu' = fun i => nu (mb k p i))))
theorem oD.skip {n m mw c k : Nat} {A : Mx} {nu cs : Nat -> Nat} {z : jo} (h : oD n m mw A c k nu cs z) (hc : c < m) (h0 : ∀ i, k <= i -> i < n -> bP z.E i c = 0) : oD n m mw A (c + 1) k nu cs z :=
 ⟨h.El, h.rl, h.nl, h.tk, h.br.skip hc h0, h.Ab, h.eb, h.lb⟩
theorem Fr.fldS {gF m : Nat} {z : jo} {w : World} (h : fX gF m z w) : Fr (fK gF z) w w [.sC gF m z] :=
 ⟨aU.refl _ _, fun e he => by rcases List.mem_singleton.1 he with rfl; exact h, CM .., fun e he _ b hb => by rcases List.mem_singleton.1 he with rfl; exact .inl hb⟩
theorem zs0 {x : Int} (h : x = 0) : aV x = 0 := by subst h; rfl
theorem zs1 {x : Int} (h : x ≠ 0) : ¬ aV x = 0 := fun e => h (by unfold aV at e; (repeat' split at e) <;> omega)
theorem As (gF m c k mw : Nat) (z : jo) (A : Mx) (nu cs : Nat -> Nat) (w : World) (hc : c < m) (hI : oD 0 m mw A c k nu cs z) (h : fX gF m z w) :
 Calls Tryz.prog 60 #[.pointer (some ⟨gF, 0, none⟩), .int .i64 (c : Int)] w fun e w' => ∃ (b : Bool) (z' : jo), e = .returned (.bool b) /\ aU (fK gF z) w w' /\ fX gF m z' w' /\ (∀ g, fK gF z' g -> fK gF z g \/ w.heap.size <= g) /\ xy 0 m mw A c k nu cs z b z' := by
 have HR : Hid (xy 0 m mw A c k nu cs z false z) := H5 (.inl ⟨rfl, rfl, hI.skip hc fun i _ h => absurd h (Dv _), fun i _ h => absurd h (Dv _)⟩);have hk : k = 0 := by have := hI.br.kn; omega
 have El := hI.El;have tk := hI.tk;have HF := H5 h;obtain ⟨ro, rc, no, nc, gs, E, nul, tn, lp, ls, tk'⟩ := z
 replace El : E.length = 0 := El
 replace tk : tk' = k := tk
 subst hk tk;have hcl : ∀ i v, (yE ⟨ro, rc, no, nc, gs, E, nul, tn, lp, ls, 0⟩)[i]? = some v -> w.cell? ⟨gF, i, none⟩ = some v := fun i v hv => by rw [h.1.1.cell]; exact hv
 have c0 : w.cell? ⟨gF, 0, none⟩ = some (.slice ro 0 rc) := hcl 0 _ (by show some (Value.slice ro E.length rc) = _; rw [El]);have c5 : w.cell? ⟨gF, 5, none⟩ = some (.int .i64 0) := hcl 5 _ rfl;clear hI h hcl;have HA : Fr (fun _ => False) w w [.cell ⟨gF, 0, none⟩ (.slice ro 0 rc), .cell ⟨gF, 5, none⟩ (.int .i64 0)] := Fr.cl (Fr.cl (Fr.nil _ w) c5 (by simp [En.wr])) c0 (by simp [En.wr]);have fin : ∀ w', Below w.heap.size w w' -> ∃ (z' : jo), aU (fK gF ⟨ro, rc, no, nc, gs, E, nul, tn, lp, ls, 0⟩) w w' /\ fX gF m z' w' /\ (∀ g, fK gF z' g -> fK gF ⟨ro, rc, no, nc, gs, E, nul, tn, lp, ls, 0⟩ g \/ w.heap.size <= g) /\ xy 0 m mw A c 0 nu cs ⟨ro, rc, no, nc, gs, E, nul, tn, lp, ls, 0⟩ false z' := fun w' hb =>
  ⟨_, aU.bC hb, En.iJ (e := .sC gF m ⟨ro, rc, no, nc, gs, E, nul, tn, lp, ls, 0⟩) HF.out (aU.bC (S := fun _ => False) hb) (fun _ => Wl.none _) (fun _ _ h => h), fun g h => .inl h, HR.out⟩
 have HN := H5 fin;clear fin c0 c5;refine bN (S0 := fun _ => False) Tryz.func60 HA ?_;clear HA;refine aA ?_;refine aC ?_;refine rW [] ?_;refine bh ?_;refine aC ?_;refine dO ?_;refine aC ?_;refine cF (X := Unit) (fun _ => True) (fun _ => 0) (fun _ => [(6, .int .i64 0), (5, .int .i64 0), (1, .int .i64 (c : Int)), (0, .pointer (some ⟨gF, 0, none⟩)), (4, .bool false)]) (fun _ => [.cell ⟨gF, 0, none⟩ (.slice ro 0 rc), .cell ⟨gF, 5, none⟩ (.int .i64 0)]) () trivial fun _ _ => ?_;refine aA ?_;refine bh ?_;refine aT ?_;refine dB false ?_;refine dW ?_;refine AP ?_;refine AP ?_;refine uG ?_;refine uG ?_;refine uC ?_;refine uG ?_;refine aC ?_;refine kf ?_;refine aA ?_;refine bh ?_;refine aT ?_;refine kq ?_;refine aA ?_;refine aC ?_;refine dZ fun w' H => ?_;obtain ⟨z', h1, h2, h3, h4⟩ := HN.out w' H.below;exact ⟨_, dT, false, z', rfl, h1, h2, h3, h4⟩
end Go.Proofs.YtjjlmfmoihooiaaGreat
