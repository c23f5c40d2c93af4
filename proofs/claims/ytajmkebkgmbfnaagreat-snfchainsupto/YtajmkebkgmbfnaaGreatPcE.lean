/- Part 5 of 6 of the proof that the law SnfChains returns true for every input of bulk at most 1048576 and leaves its arguments as they were: here the contracts of the functions that it calls, and plain lemmas. -/
import Derived.Test.YtajmkebkgmbfnaaGreatPcD
set_option linter.all false
namespace Go.Proofs.YtajmkebkgmbfnaaGreat
open Go.RowKit
theorem run_remI (ρ : Operand -> Value) (o : Oper) (p q : Operand) {w : World} (ho : o.op = .binOp .rem 3 p q 3) (x y : Nat) (hx : x < 9223372036854775808) (hy : y ≠ 0) (hp : ρ p = .int .i64 (x : Int)) (hq : ρ q = .int .i64 (y : Int)) :
 (execOp ρ o).run Tryz.prog w = .ok (.value (.int .i64 ((x % y : Nat) : Int))) w := by
 obtain ⟨dst, op, type, pos, after, guard⟩ := o;simp only at ho; subst ho;have h1 := Nat.mod_le x y;have e3 : IntKind.i64.wrap ((x : Int).tmod (y : Int)) = ((x % y : Nat) : Int) := by
  rw [<- Int.ofNat_tmod];generalize x % y = z at *;exact wrap_small (by omega) (by omega)
 simp [go_sem, hp, hq, hy, e3];exact (Int.ofNat_tmod x y).symm.trans (Int.natCast_emod x y)
theorem run_quoI (ρ : Operand -> Value) (o : Oper) (p q : Operand) {w : World} (ho : o.op = .binOp .quo 3 p q 3) (x y : Nat) (hx : x < 9223372036854775808) (hy : y ≠ 0) (hp : ρ p = .int .i64 (x : Int)) (hq : ρ q = .int .i64 (y : Int)) :
 (execOp ρ o).run Tryz.prog w = .ok (.value (.int .i64 ((x / y : Nat) : Int))) w := by
 obtain ⟨dst, op, type, pos, after, guard⟩ := o;simp only at ho; subst ho;have h1 := Nat.div_le_self x y;have e3 : IntKind.i64.wrap ((x : Int).tdiv (y : Int)) = ((x / y : Nat) : Int) := by
  rw [<- Int.ofNat_tdiv];generalize x / y = z at *;exact wrap_small (by omega) (by omega)
 simp [go_sem, hp, hq, hy, e3];have e4 := Int.natCast_ediv x y;rw [<- e4];generalize x / y = z at *;exact wrap_small (by omega) (by omega)
theorem op_remI {w : World} {ops : Array Oper} {rest : List Oper} {o : Oper} {a : Act} {Q : Exit -> Act -> World -> Prop} (hg : o.guard = none) (p q : Operand) (ho : o.op = .binOp .rem 3 p q 3) {X Y : Int} (x y : Nat) (hx : x < 9223372036854775808) (hy : y ≠ 0)
 (hp : a.eval p = .int .i64 X) (hq : a.eval q = .int .i64 Y) (hX : X = (x : Int)) (hY : Y = (y : Int))
 (h : wpList Tryz.prog ops Q rest (a.put o.dst (.int .i64 ((x % y : Nat) : Int))) w) : wpList Tryz.prog ops Q (o :: rest) a w := by
 subst hX hY;exact op_of_run hg (run_remI _ _ p q ho x y hx hy hp hq) h
theorem op_quoI {w : World} {ops : Array Oper} {rest : List Oper} {o : Oper} {a : Act} {Q : Exit -> Act -> World -> Prop} (hg : o.guard = none) (p q : Operand) (ho : o.op = .binOp .quo 3 p q 3) {X Y : Int} (x y : Nat) (hx : x < 9223372036854775808) (hy : y ≠ 0)
 (hp : a.eval p = .int .i64 X) (hq : a.eval q = .int .i64 Y) (hX : X = (x : Int)) (hY : Y = (y : Int))
 (h : wpList Tryz.prog ops Q rest (a.put o.dst (.int .i64 ((x / y : Nat) : Int))) w) : wpList Tryz.prog ops Q (o :: rest) a w := by
 subst hX hY;exact op_of_run hg (run_quoI _ _ p q ho x y hx hy hp hq) h
set_option maxHeartbeats 1000000 in
theorem RLeast01_c (ao : Option Addr) (len cap : Nat) (ws : List Nat) (w : World) (hA : WAt w ao ws) (hl : len = ws.length) (hm : len <= 8796093022208) :
 Calls Tryz.prog 150 #[.slice ao len cap] w fun e w' => (∃ ao' cap', e = .returned (.slice ao' (wlen (nval ws)) cap') /\ OwnW w' w.heap.size ao' (wlen (nval ws)) cap' (dig (nval ws))) /\ Below w.heap.size w w' := by
 have HSp := Lib.hid (RSplit_c ao len cap ws w hA hl hm);clear hA hl;go_enter Tryz.func150, Tryz.ntmps150;go_wp2_with fail
 refine HSp.out.mono ?_;rintro e w2 ⟨⟨b, ds, rfl, hb, hH, hD, hdl, _⟩, hb2⟩;have hj := RJoin_c (some ⟨b, 0, none⟩) ds.length (4 * len) ds w2 hD hH.ok rfl hdl (by omega);rw [hH.val] at hj;have HJ := Lib.hid hj; clear hj hH hD;have HB2 := Lib.hid hb2; clear hb2;go_wp2_with fail
 refine HJ.out.mono ?_;rintro e w3 ⟨⟨ao', cap', rfl, hO⟩, hb3⟩;have HO := Lib.hid (hO.mono HB2.out.size);have HB3 := Lib.hid (HB2.out.trans (hb3.mono HB2.out.size));clear hO hb3;go_wp2;go_ret;exact ⟨⟨ao', cap', rfl, HO.out⟩, HB3.out⟩
theorem RowAt.setI {w : World} {b : Nat} {ds : List Nat} (h : RowAt w b 3 (ds.map iv)) (i v : Nat) : RowAt (w.setCell ⟨b, i, none⟩ (.int .i64 (v : Int))) b 3 ((ds.set i v).map iv) := by
 rw [<- map_iv_set]; exact h.set i _
theorem RowAt.getI {w : World} {b : Nat} {ds : List Nat} (h : RowAt w b 3 (ds.map iv)) {i : Nat} (hi : i < ds.length) : w.cell? ⟨b, i, none⟩ = some (.int .i64 ((gw ds i : Nat) : Int)) :=
 (h.cell i).trans (map_iv_get ds hi)
structure Two (w : World) (b1 b2 n m : Nat) (xs ys : List Nat) : Prop where
 h1 : Hex n xs
 h2 : Hex m ys
 d1 : DAt w (some ⟨b1, 0, none⟩) xs
 d2 : DAt w (some ⟨b2, 0, none⟩) ys
theorem Two.below {w w' : World} {b1 b2 n m : Nat} {xs ys : List Nat} (h : Two w b1 b2 n m xs ys) (hb : Below w.heap.size w w') : Two w' b1 b2 n m xs ys := ⟨h.h1, h.h2, h.d1.below hb, h.d2.below hb⟩
theorem DAt.other {w : World} {b g : Nat} {ds : List Nat} (h : DAt w (some ⟨b, 0, none⟩) ds) (hne : b ≠ g) (i : Nat) (v : Value) : DAt (w.setCell ⟨g, i, none⟩ v) (some ⟨b, 0, none⟩) ds := by
 intro hl;obtain ⟨b', o, e, hlt, hc⟩ := h hl;simp only [Option.some.injEq, Addr.mk.injEq, and_true] at e;obtain ⟨rfl, rfl⟩ := e;exact ⟨b, 0, rfl, by simpa using hlt, fun i hi => (World.cell?_setCell_far _ _ _ _ (fun e => hne e.symm)).trans (hc i hi)⟩
theorem Two.setI {w : World} {b1 b2 n m b : Nat} {xs ys cu : List Nat} (h : Two w b1 b2 n m xs ys) (_ : RowAt w b 3 (cu.map iv)) (hb : b1 < b /\ b2 < b) (i : Nat) (v : Value) : Two (w.setCell ⟨b, i, none⟩ v) b1 b2 n m xs ys :=
 ⟨h.h1, h.h2, h.d1.other (by omega) i v, h.d2.other (by omega) i v⟩
theorem RowI.put {w : World} {b N n : Nat} {D : List Nat} {W' : World} (h : RowI w b N D W') (hn : D.length = n) (hN : n + 1 <= N) (x : Nat) : RowI w b N (D ++ [x]) (W'.setCell ⟨b, n, none⟩ (.int .i64 (x : Int))) := by
 subst hn;refine ⟨?_, h.bel.setCell (p := ⟨b, D.length, none⟩) h.ge _, h.ge⟩;have e3 : (D.map iv ++ List.replicate (N - D.length) (iv 0)).set D.length (.int .i64 (x : Int)) = (D ++ [x]).map iv ++ List.replicate (N - (D ++ [x]).length) (iv 0) := by
  obtain ⟨q, hq⟩ : ∃ q, N - D.length = q + 1 := ⟨N - D.length - 1, by omega⟩;have hq2 : N - (D ++ [x]).length = q := by simp; omega
  rw [hq, hq2, List.replicate_succ, List.set_append_right _ _ (by simp)];simp [iv]
 rw [<- e3]; exact h.row.set D.length (.int .i64 (x : Int))
theorem RowI.at0 {w : World} {b N n : Nat} {D : List Nat} {W' : World} (h : RowI w b N D W') (hn : D.length = n) (hN : n + 1 <= N) : W'.cell? ⟨b, n, none⟩ = some (.int .i64 0) := by
 subst hn;rw [h.row.cell, List.getElem?_append_right (by simp)];have : 0 < N - D.length := by omega
 simp [iv, this]
set_option maxRecDepth 100000 in
set_option maxHeartbeats 4000000 in
theorem RDigits_c (ao : Option Addr) (len cap : Nat) (ws : List Nat) (w : World) (hA : WAt w ao ws) (hl : len = ws.length) (hm : len <= 8796093022208) :
 Calls Tryz.prog 167 #[.slice ao len cap] w fun e w' => (∃ b ds, e = .returned (.slice (some ⟨b, 0, none⟩) ds.length (4 * len)) /\ w.heap.size <= b /\ Hex (nval ws) ds /\ DAt w' (some ⟨b, 0, none⟩) ds /\ ds.length <= 4 * len /\ b < w'.heap.size) /\ Below w.heap.size w w' := by
 subst hl;have HA := Lib.hid hA; clear hA;have hw4 : IntKind.i64.wrap (4 * (ws.length : Int)) = ((4 * ws.length : Nat) : Int) := by rw [wrap_small] <;> omega
 go_enter Tryz.func167, Tryz.ntmps167;go_wp2_with (at_make; refine mk_ints rfl _ _ rfl (4 * ws.length) (4 * ws.length) rfl rfl (by omega) (by omega) (Nat.le_refl _) (by omega) ?_; intro b w1 hm1)
 have hI : RowI w b (4 * ws.length) [] w1 := ⟨by have := hm1.row; rw [List.map_replicate] at this; simpa using this, hm1.below, by have := hm1.at_; omega⟩;have HI := Lib.hid hI; clear hI hm1;clear hw4;go_loopw [4] (fun i_ wr => ∃ (i : Nat), i <= ws.length /\ i_ = .int .i64 (i : Int) /\ Hid (RowI w b (4 * ws.length) (spl (ws.take i)) wr)) (fun i_ _ => ws.length - (intOf i_).toNat)
 case atStart => exact ⟨0, Nat.zero_le _, rfl, Lib.hid (by simpa [spl] using HI.out)⟩
 case round =>
  obtain ⟨i, hi, rfl, hIr⟩ := hrel;by_cases hin : i < ws.length
  · have hin1 : (i : Int) < (ws.length : Int) := by omega
    obtain ⟨ab, aoff, rfl, hab, hc⟩ := (HA.out.below hIr.out.bel).pos (by omega);have hcell := hc i hin;have hgwW := HA.out.ok.gw i;obtain ⟨x, hx⟩ : ∃ x, gw ws i = x := ⟨_, rfl⟩;rw [hx] at hcell hgwW;have Hx := Lib.hid hx; clear hx hc;go_wp2;go_loopw [5, 6] (fun x_ k_ wq => ∃ (k : Nat), k <= 4 /\ k_ = .int .i64 (k : Int) /\ x_ = .int .u64 ((x / HX ^ k : Nat) : Int) /\ Hid (RowI w b (4 * ws.length) (spl (ws.take i) ++ (sp4 x).take k) wq)) (fun _ k_ _ => 4 - (intOf k_).toNat)
    case atStart => exact ⟨0, by omega, rfl, by simp, Lib.hid (by simpa using hIr.out)⟩
    case round =>
     obtain ⟨k, hk, rfl, rfl, hIq⟩ := hrel;by_cases hk4 : k < 4
     · have hk41 : (k : Int) < 4 := by omega
       obtain ⟨y, hy⟩ : ∃ y, x / HX ^ k = y := ⟨_, rfl⟩;have hyW : y < W := by rw [<- hy]; exact Nat.lt_of_le_of_lt (Nat.div_le_self ..) hgwW
       have hlen : (spl (ws.take i) ++ (sp4 x).take k).length = 4 * i + k := by
        rw [List.length_append, spl_length, List.length_take, List.length_take, sp4_length, Nat.min_eq_left (by omega), Nat.min_eq_left (by omega)]
       have hroom : 4 * i + k + 1 <= 4 * ws.length := by omega
       have hnext : spl (ws.take i) ++ (sp4 x).take (k + 1) = (spl (ws.take i) ++ (sp4 x).take k) ++ [y % HX] := by
        have hd : (sp4 x).take (k + 1) = (sp4 x).take k ++ [y % HX] := by
         rw [<- hy];match k, hk4 with
         | 0, _ => simp [sp4]
         | 1, _ => simp [sp4, HX]
         | 2, _ => simp [sp4, HX, Nat.div_div_eq_div_mul]
         | 3, _ => simp [sp4, HX, Nat.div_div_eq_div_mul]
        rw [hd, List.append_assoc]
       have hdiv : x / HX ^ (k + 1) = y / HX := by rw [<- hy, Nat.div_div_eq_div_mul, Nat.pow_succ]
       rw [hy];generalize spl (ws.take i) ++ (sp4 x).take k = D at *;have HN := Lib.hid (And.intro hnext hdiv); clear hnext hdiv hy;have hr1 : remW y 65536 < 9223372036854775808 := Nat.lt_of_lt_of_le (Nat.mod_lt _ (by omega)) (by omega);have c0 := hIq.out.at0 hlen hroom;have f0 := hIq.out.row.free (4 * i + k);have HL := Lib.hid hlen; clear hlen;have hi1 : 4 * (i : Int) + (k : Int) < 4 * (ws.length : Int) := by omega
       go_wp2_with (first
        | (with_reducible show wpList _ _ _ (⟨some 32, _, _, _, _, _⟩ :: _) _ _; refine op_rem rfl _ _ rfl y 65536 hyW (by omega) rfl rfl rfl rfl ?_)
        | (with_reducible show wpList _ _ _ (⟨some 33, _, _, _, _, _⟩ :: _) _ _; refine op_of_run rfl (run_toI _ _ _ rfl (remW y 65536) hr1 rfl) ?_)
        | (with_reducible show wpList _ _ _ (⟨some 36, _, _, _, _, _⟩ :: _) _ _; refine op_quo rfl _ _ rfl y 65536 hyW (by omega) rfl rfl rfl rfl ?_))
       go_roundw
       case rel =>
        refine ⟨k + 1, by omega, by go_num, ?_, Lib.hid ?_⟩
        · rw [HN.out.2]; rfl
        · rw [HN.out.1]; exact hIq.out.put HL.out hroom (remW y 65536)
       case measure => simp [intOf]; omega
     · obtain rfl : k = 4 := by omega
       go_wp2;go_roundw
       case rel =>
        have h9 := hIq.out;refine ⟨i + 1, by omega, by go_num, Lib.hid ?_⟩;have e : spl (ws.take (i + 1)) = spl (ws.take i) ++ sp4 x := by
         rw [List.take_succ_eq_append_getElem hin];have : ws[i] = x := by rw [<- Hx.out]; simp [gw, hin]
         simp [spl, this]
        rw [e]; exact h9
       case measure => simp [intOf]; omega
  · obtain rfl : i = ws.length := by omega
    have hIe := hIr.out;rw [List.take_length] at hIe;have hval := spl_val HA.out.ok;have hlen := spl_length ws;have hH := Hex.of (spl_ok ws);rw [hval] at hH;have htl := tlen_le (spl ws);have HD := Lib.hid (show DAt wr (some ⟨b, 0, none⟩) (spl ws) from DAt.row hIe.row);have HH := Lib.hid (And.intro hH (And.intro hlen htl));have hlt := hIe.row.lt;obtain ⟨t, ht⟩ : ∃ t, tlen (spl ws) = t := ⟨_, rfl⟩;rw [ht] at HH;have hlen2 : t <= 4 * ws.length := by have := HH.out.2; omega
    have HTL := Lib.hid ht; clear ht;clear hH hval hlen htl hIe;go_wp2
    go_loop [7] (fun n_ => ∃ k : Nat, k <= 4 * ws.length /\ t <= k /\ n_ = .int .i64 k) (fun i => (intOf i).toNat)
    case atStart => exact ⟨4 * ws.length, by omega, by omega, by go_num⟩
    case round =>
     obtain ⟨k, hk, ht, rfl⟩ := hrel;by_cases h0 : 0 < k
     · obtain ⟨b', o', e', hb', hc'⟩ := HD.out (by rw [HH.out.2.1]; omega);simp only [Option.some.injEq, Addr.mk.injEq, and_true] at e';obtain ⟨rfl, rfl⟩ := e';have hcell := hc' (k - 1) (by rw [HH.out.2.1]; omega);rw [Nat.zero_add] at hcell;have hkb : (k : Int) - 1 < 4 * (ws.length : Int) := by omega
       by_cases hz : gw (spl ws) (k - 1) = 0
       · have hzb : (((gw (spl ws) (k - 1) : Nat) : Int) == 0) = true := by rw [hz]; rfl
         have hnk : t <= k - 1 := by
          rw [<- HTL.out];exact tlen_of_zeros (spl ws) (k - 1) (fun j hj => by
           by_cases hj' : j = k - 1
           · rw [hj']; exact hz
           · exact zero_of_tlen (spl ws) j (by have := HTL.out; omega))
         clear hz hc';go_wp2
         go_round
         case rel => exact ⟨k - 1, by omega, hnk, by go_num⟩
         case measure => simp [intOf]; omega
       · have hzb : (((gw (spl ws) (k - 1) : Nat) : Int) == 0) = false := by rw [beq_eq_false_iff_ne]; omega
         have h1 := lt_tlen (spl ws) (k - 1) hz;have hke : k = t := by have := HTL.out; omega
         clear hc' hz h1;subst hke;go_wp2;go_ret;have hl2 : ((spl ws).take k).length = k := by rw [List.length_take, Nat.min_eq_left HH.out.2.2]
         have hH := HH.out.1;refine ⟨⟨b, (spl ws).take k, ?_, hIr.out.ge, hH, HD.out.take _, by omega, hlt⟩, hIr.out.bel⟩;rw [hl2]; rfl
     · have hke : k = t := by omega
       subst hke;go_wp2;go_ret;have hl2 : ((spl ws).take k).length = k := by rw [List.length_take, Nat.min_eq_left HH.out.2.2]
       have hH := HH.out.1;refine ⟨⟨b, (spl ws).take k, ?_, hIr.out.ge, hH, HD.out.take _, by omega, hlt⟩, hIr.out.bel⟩;rw [hl2]; rfl
def pw (ds : List Nat) (j q : Nat) : Nat := hval ((ds.take (4 * q + 4)).drop (max j (4 * q)))
theorem hval_drop (l : List Nat) {j : Nat} (hj : j < l.length) : hval (l.drop j) = gw l j + HX * hval (l.drop (j + 1)) := by
 rw [List.drop_eq_getElem_cons hj, hval]; simp [gw, hj]
theorem pw_step {ds : List Nat} {j : Nat} (hj : j < ds.length) : pw ds j (j / 4) = gw ds j + HX * pw ds (j + 1) (j / 4) := by
 unfold pw;rw [Nat.max_eq_left (by omega), Nat.max_eq_left (by omega), hval_drop _ (by simp; omega), gw_tk (by omega)]
theorem pw_same {ds : List Nat} {j q : Nat} (h : q ≠ j / 4) : pw ds j q = pw ds (j + 1) q := by
 unfold pw;by_cases h1 : j < 4 * q
 · rw [Nat.max_eq_right (by omega), Nat.max_eq_right (by omega)]
 · rw [List.drop_of_length_le (by simp; omega), List.drop_of_length_le (by simp; omega)]
theorem pw_top {ds : List Nat} {q : Nat} : pw ds ds.length q = 0 := by
 unfold pw;rw [List.drop_of_length_le (by simp; omega)]; rfl
theorem pw_zero (ds : List Nat) (q : Nat) : pw ds 0 q = ch4 ds q := by
 unfold pw ch4;rw [Nat.max_eq_right (by omega), List.drop_take];congr 2; omega
theorem pwd_lt3 {ds : List Nat} (h : HOk ds) (j : Nat) : pw ds (j + 1) (j / 4) < HX ^ 3 := by
 unfold pw;refine Nat.lt_of_lt_of_le (hval_lt ((h.take _).drop _)) (Nat.pow_le_pow_right HX_pos ?_);rw [Nat.max_eq_left (by omega)];simp; omega
theorem pw_set {ds : List Nat} {j Q : Nat} (hj : j < ds.length) (hQ : j / 4 < Q) : ((List.range Q).map (pw ds (j + 1))).set (j / 4) (gw ds j + HX * pw ds (j + 1) (j / 4)) = (List.range Q).map (pw ds j) := by
 refine List.ext_getElem (by simp) fun q h1 h2 => ?_;rw [List.getElem_set];by_cases e : j / 4 = q
 · rw [if_pos e]; subst e; simp [pw_step hj]
 · rw [if_neg e]; simp [pw_same (fun h => e h.symm)]
set_option maxRecDepth 100000 in
set_option maxHeartbeats 4000000 in
theorem RWords_c (b0 len cap : Nat) (ds : List Nat) (w : World) (hA : RowAt w b0 3 (ds.map iv)) (hok : HOk ds) (hl : len = ds.length) (hm : len <= 70368744177664) :
 Calls Tryz.prog 168 #[.slice (some ⟨b0, 0, none⟩) len cap] w fun e w' => (∃ ao' cap', e = .returned (.slice ao' (wlen (hval ds)) cap') /\ OwnW w' w.heap.size ao' (wlen (hval ds)) cap' (dig (hval ds))) /\ Below w.heap.size w w' := by
 subst hl;have HA := Lib.hid hA; clear hA;have HO := Lib.hid hok; clear hok;obtain ⟨Q, hQ⟩ : ∃ Q, (ds.length + 3) / 4 = Q := ⟨_, rfl⟩;have hQd : ds.length <= 4 * Q := by omega
 have hQb : Q <= 17592186044417 := by omega
 have hdv : IntKind.i64.wrap (((ds.length : Int) + 3).tdiv 4) = (Q : Int) := by
  have e : ((ds.length : Int) + 3).tdiv 4 = (((ds.length + 3) / 4 : Nat) : Int) := by
   rw [show ((ds.length : Int) + 3) = ((ds.length + 3 : Nat) : Int) by omega];exact (Int.ofNat_tdiv (ds.length + 3) 4).symm
  rw [e, hQ]; exact wrap_small (by omega) (by omega)
 have HQ := Lib.hid hQ; clear hQ;go_enter Tryz.func168, Tryz.ntmps168;go_wp2_with (at_make; refine mk_words rfl _ _ rfl Q Q rfl rfl rfl rfl (Nat.le_refl _) (by omega) ?_; intro b w1 hm1)
 have hrow : RowAt w1 b 92 (((List.range Q).map (pw ds ds.length)).map wv) := by
  have e : (List.range Q).map (pw ds ds.length) = List.replicate Q 0 := by
   refine List.ext_getElem (by simp) fun q h1 h2 => by simp [pw_top]
  rw [e]; exact hm1.row
 have hbg : w.heap.size <= b /\ b0 < b := by have := hm1.at_; have := HA.out.lt; omega
 have HR := Lib.hid hrow; clear hrow;have HB := Lib.hid hm1.below;clear hm1 hdv;go_loopw [4] (fun i_ wr => ∃ (j : Nat), j <= ds.length /\ i_ = .int .i64 ((j : Int) - 1) /\ Hid (RowAt wr b 92 (((List.range Q).map (pw ds j)).map wv)) /\ Hid (Below w.heap.size w wr)) (fun i_ _ => (intOf i_ + 1).toNat)
 case atStart => exact ⟨ds.length, Nat.le_refl _, rfl, HR, HB⟩
 case round =>
  obtain ⟨j', hj, rfl, hR, hBl⟩ := hrel;rcases Nat.eq_zero_or_pos j' with h0 | h0
  · subst h0;have hL : (List.range Q).map (pw ds 0) = (List.range Q).map (ch4 ds) := List.map_congr_left (fun q _ => pw_zero ds q);have hR' := hR.out;rw [hL] at hR';have hv := nval_ch4 Q ds hQd;have hok := ch4_ok HO.out Q;obtain ⟨ls, hls⟩ : ∃ ls, (List.range Q).map (ch4 ds) = ls := ⟨_, rfl⟩;have hll : ls.length = Q := by rw [<- hls]; simp
    rw [hls] at hR' hv hok;have hdig := dig_nval hok;have htl := tlen_le ls;rw [hv] at hdig;have hwl : wlen (hval ds) = tlen ls := by unfold wlen; rw [hdig, List.length_take, Nat.min_eq_left htl]
    obtain ⟨t, ht⟩ : ∃ t, tlen ls = t := ⟨_, rfl⟩;have HT := Lib.hid ht;have HR2 := Lib.hid hR';have HOK := Lib.hid hok;have HD := Lib.hid hdig;rw [ht] at htl hwl;have HWL := Lib.hid hwl;have HLL := Lib.hid hll;have htQ : t <= Q := by omega
    clear hR' hok hdig ht htl hwl hll hv hls hL;go_wp2
    go_loop [5] (fun n_ => ∃ k : Nat, k <= Q /\ t <= k /\ n_ = .int .i64 k) (fun i => (intOf i).toNat)
    case atStart => exact ⟨Q, Nat.le_refl _, htQ, rfl⟩
    case round =>
     obtain ⟨k, hk, ht, rfl⟩ := hrel;by_cases h0 : 0 < k
     · have hcell := HR2.out.word (i := k - 1) (by rw [HLL.out]; omega);have hkb : (k : Int) - 1 < (Q : Int) := by omega
       by_cases hz : gw ls (k - 1) = 0
       · have hzb : (((gw ls (k - 1) : Nat) : Int) == 0) = true := by rw [hz]; rfl
         have hnk : t <= k - 1 := by
          rw [<- HT.out];exact tlen_of_zeros ls (k - 1) (fun j hj => by
           by_cases hj' : j = k - 1
           · rw [hj']; exact hz
           · exact zero_of_tlen ls j (by have := HT.out; omega))
         clear hz;go_wp2
         go_round
         case rel => exact ⟨k - 1, by omega, hnk, by go_num⟩
         case measure => simp [intOf]; omega
       · have hzb : (((gw ls (k - 1) : Nat) : Int) == 0) = false := by rw [beq_eq_false_iff_ne]; omega
         have h1 := lt_tlen ls (k - 1) hz;have hke : k = t := by have := HT.out; omega
         clear hz h1;subst hke;go_wp2;go_ret;rw [HWL.out];refine ⟨⟨some ⟨b, 0, none⟩, Q, rfl, ?_⟩, hBl.out⟩;have h1 := HR2.out.own (n := k) (B := w.heap.size) (cap := Q) HOK.out hbg.1 (by rw [HLL.out]; exact hk) HLL.out.symm (by unfold maxLen; omega);rw [HD.out, HT.out]; exact h1
     · have hke : k = t := by omega
       subst hke;go_wp2;go_ret;rw [HWL.out];refine ⟨⟨some ⟨b, 0, none⟩, Q, rfl, ?_⟩, hBl.out⟩;have h1 := HR2.out.own (n := k) (B := w.heap.size) (cap := Q) HOK.out hbg.1 (by rw [HLL.out]; exact hk) HLL.out.symm (by unfold maxLen; omega);rw [HD.out, HT.out]; exact h1
  · obtain ⟨j, rfl⟩ : ∃ j, j' = j + 1 := ⟨j' - 1, by omega⟩;have e1 : ((j + 1 : Nat) : Int) - 1 = (j : Int) := by omega
    rw [e1]; clear e1;have hpos : (0 : Int) <= (j : Int) := by omega
    have hjl : (j : Int) < (ds.length : Int) := by omega
    have hq : j / 4 < Q := by omega
    have hc := (HA.out.below hBl.out HA.out.lt).getI (i := j) (by omega);have hg := hR.out.word (i := j / 4) (by simp; exact hq);have hg2 : gw ((List.range Q).map (pw ds (j + 1))) (j / 4) = pw ds (j + 1) (j / 4) := by
     unfold gw; simp [hq]
    rw [hg2] at hg;have hset := pw_set (ds := ds) (j := j) (Q := Q) (by omega) hq;have hp3 := pwd_lt3 HO.out j;have hd := HO.out.gw_ j;obtain ⟨v, hv⟩ : ∃ v, pw ds (j + 1) (j / 4) = v := ⟨_, rfl⟩;obtain ⟨d, hde⟩ : ∃ d, gw ds j = d := ⟨_, rfl⟩;rw [hv] at hset hp3 hg;rw [hde] at hset hd hc;have hv3 : v <= 281474976710655 := by unfold HX at hp3; omega
    have hd3 : d <= 65535 := by unfold HX at hd; omega
    have hw1 : IntKind.u64.wrap ((v : Int) * 65536) = (v : Int) * 65536 := by rw [IntKind.wrap_u64]; omega
    have hw2 : IntKind.u64.wrap ((d : Int)) = (d : Int) := by rw [IntKind.wrap_u64]; omega
    have hw3 : IntKind.u64.wrap ((v : Int) * 65536 + (d : Int)) = (v : Int) * 65536 + (d : Int) := by rw [IntKind.wrap_u64]; omega
    have hf := hR.out.free (j / 4);have hjq : IntKind.i64.wrap ((j : Int) / 4) = (j : Int) / 4 := wrap_small (by omega) (by omega);have hqi : (j : Int) / 4 < (Q : Int) := by omega
    have hqp : 0 <= (j : Int) / 4 := by omega
    have hqn : ((j : Int) / 4).toNat = j / 4 := by omega
    have HS := Lib.hid hset; clear hset hg2 hv hde hp3 hd;go_wp2
    go_region
    go_wp2;go_roundw
    case rel =>
     refine ⟨j, by omega, by go_num, Lib.hid ?_, Lib.hid ?_⟩
     · have h9 := (hR.out.setWord (j / 4) (d + HX * v));rw [HS.out] at h9;have e : ((d + HX * v : Nat) : Int) = (v : Int) * 65536 + (d : Int) := by unfold HX; omega
       rw [e] at h9;exact h9
     · exact (hBl.out.setCell (p := ⟨b, j / 4, none⟩) hbg.1 _).drew
    case measure => simp only [intOf]; omega
structure MulI (w : World) (b i j c : Nat) (xs ys cu : List Nat) (W' : World) : Prop where
 len : cu.length = xs.length + ys.length
 ok : HOk cu
 c1 : c < HX
 val : hval cu + HX ^ (i + j) * c = hval (xs.take i) * hval ys + HX ^ i * (gw xs i * hval (ys.take j))
 hi : ∀ k, i + ys.length <= k -> gw cu k = 0
 row : RowAt W' b 3 (cu.map iv)
 bel : Below w.heap.size w W'
structure MulO (w : World) (b i : Nat) (xs ys cu : List Nat) (W' : World) : Prop where
 len : cu.length = xs.length + ys.length
 ok : HOk cu
 val : hval cu = hval (xs.take i) * hval ys
 hi : ∀ k, i + ys.length <= k -> gw cu k = 0
 row : RowAt W' b 3 (cu.map iv)
 bel : Below w.heap.size w W'
theorem gw_set {l : List Nat} {k v j : Nat} (hk : k < l.length) : gw (l.set k v) j = if j = k then v else gw l j := by
 unfold gw;rw [List.getD_eq_getElem?_getD, List.getElem?_set, List.getD_eq_getElem?_getD];by_cases h : k = j
 · subst h; simp [hk]
 · rw [if_neg h, if_neg (fun e => h e.symm)]
theorem hval_set_all {l : List Nat} {k v : Nat} (hk : k < l.length) : hval (l.set k v) + HX ^ k * gw l k = hval l + HX ^ k * v := by
 have h1 : l = l.take k ++ (gw l k :: l.drop (k + 1)) := by
  conv => lhs; rw [<- List.take_append_drop k l, List.drop_eq_getElem_cons hk]
  simp [gw, hk]
 have h2 : l.set k v = l.take k ++ (v :: l.drop (k + 1)) := by
  rw [List.set_eq_take_append_cons_drop]; simp [hk]
 have e1 : hval l = hval (l.take k) + HX ^ k * (gw l k + HX * hval (l.drop (k + 1))) := by
  conv => lhs; rw [h1]
  rw [hval_append, List.length_take, Nat.min_eq_left (by omega)]; rfl
 have e2 : hval (l.set k v) = hval (l.take k) + HX ^ k * (v + HX * hval (l.drop (k + 1))) := by
  rw [h2, hval_append, List.length_take, Nat.min_eq_left (by omega)]; rfl
 rw [e1, e2, Nat.mul_add, Nat.mul_add]; omega
theorem MulI.step {w : World} {b i j c : Nat} {xs ys cu : List Nat} {W' : World} (h : MulI w b i j c xs ys cu W') (hb : w.heap.size <= b) (hi : i < xs.length) (hj : j < ys.length) {s : Nat} (hs : s = gw cu (i + j) + gw xs i * gw ys j + c) (hc : s / 65536 < 65536) :
 MulI w b i (j + 1) (s / 65536) xs ys (cu.set (i + j) (s % 65536)) (W'.setCell ⟨b, i + j, none⟩ (.int .i64 ((s % 65536 : Nat) : Int))) := by
 have hl : i + j < cu.length := by rw [h.len]; omega
 refine ⟨by rw [List.length_set]; exact h.len, h.ok.set _ _ (by unfold HX; omega), by unfold HX; exact hc, ?_, fun k hk => ?_, h.row.setI _ _, h.bel.setCell (p := ⟨b, i + j, none⟩) hb _⟩
 · have e1 := hval_set_all (v := s % 65536) hl;have e2 := h.val;have e3 := hval_take_succ ys j;have e4 : HX ^ (i + (j + 1)) * (s / 65536) = HX ^ (i + j) * (65536 * (s / 65536)) := by rw [<- Nat.add_assoc, Nat.pow_succ, Nat.mul_assoc]; rfl
   have e5 : HX ^ (i + j) * (s % 65536) + HX ^ (i + j) * (65536 * (s / 65536)) = HX ^ (i + j) * s := by rw [<- Nat.mul_add, Nat.mod_add_div]
   have e6 : HX ^ (i + j) * s = HX ^ (i + j) * gw cu (i + j) + HX ^ (i + j) * (gw xs i * gw ys j) + HX ^ (i + j) * c := by rw [hs, Nat.mul_add, Nat.mul_add]
   have e7 : HX ^ i * (gw xs i * hval (ys.take (j + 1))) = HX ^ i * (gw xs i * hval (ys.take j)) + HX ^ (i + j) * (gw xs i * gw ys j) := by
    rw [e3, Nat.mul_add, Nat.mul_add, Nat.pow_add];have : HX ^ i * (gw xs i * (HX ^ j * gw ys j)) = HX ^ i * HX ^ j * (gw xs i * gw ys j) := by
     rw [Nat.mul_left_comm (gw xs i), Nat.mul_assoc]
    omega
   omega
 · rw [gw_set hl, if_neg (by omega)]; exact h.hi k hk
theorem MulI.last {w : World} {b i c : Nat} {xs ys cu : List Nat} {W' : World} (h : MulI w b i ys.length c xs ys cu W') (hb : w.heap.size <= b) (hi : i < xs.length) :
 MulO w b (i + 1) xs ys (cu.set (i + ys.length) c) (W'.setCell ⟨b, i + ys.length, none⟩ (.int .i64 (c : Int))) := by
 have hl : i + ys.length < cu.length := by rw [h.len]; omega
 refine ⟨by rw [List.length_set]; exact h.len, h.ok.set _ _ h.c1, ?_, fun k hk => ?_, h.row.setI _ _, h.bel.setCell (p := ⟨b, i + ys.length, none⟩) hb _⟩
 · have e1 := hval_set_all (v := c) hl;rw [h.hi (i + ys.length) (Nat.le_refl _), Nat.mul_zero, Nat.add_zero] at e1;have e2 := h.val;rw [List.take_length] at e2;rw [e1, e2, hval_take_succ, Nat.add_mul, Nat.mul_assoc]
 · rw [gw_set hl, if_neg (by omega)]; exact h.hi k (by omega)
theorem gw_replicate (n k : Nat) : gw (List.replicate n 0) k = 0 := by
 unfold gw;rw [List.getD_eq_getElem?_getD, List.getElem?_replicate];split <;> rfl
set_option maxRecDepth 100000 in
set_option maxHeartbeats 8000000 in
theorem RMul02_c (aoA aoB : Option Addr) (lA cA lB cB : Nat) (xs ys : List Nat) (w : World) (hA : WAt w aoA xs) (hB : WAt w aoB ys) (hlA : lA = xs.length) (hlB : lB = ys.length) (hmA : lA <= 1099511627776) (hmB : lB <= 1099511627776) :
 Calls Tryz.prog 123 #[.slice aoA lA cA, .slice aoB lB cB] w fun e w' => (∃ ao' cap', e = .returned (.slice ao' (wlen (nval xs * nval ys)) cap') /\ OwnW w' w.heap.size ao' (wlen (nval xs * nval ys)) cap' (dig (nval xs * nval ys))) /\ Below w.heap.size w w' := by
 have HS1 := Lib.hid (RDigits_c aoA lA cA xs w hA hlA (by omega));have HB := Lib.hid hB; clear hB;have HlB := Lib.hid hlB; clear hlB;clear hA hlA;go_enter Tryz.func123, Tryz.ntmps123;go_wp2_with fail
 refine HS1.out.mono ?_;rintro e w2 ⟨⟨b1, ds, rfl, hb1, hH, hD, hdl, hlt1⟩, hb2⟩;have HS2 := Lib.hid (RDigits_c aoB lB cB ys w2 (HB.out.below hb2) HlB.out (by omega));have HH := Lib.hid hH; clear hH;have HD := Lib.hid hD; clear hD;have HB2 := Lib.hid hb2; clear hb2;go_wp2_with fail
 refine HS2.out.mono ?_;rintro e w3 ⟨⟨b2, es, rfl, hb', hH', hD', hel, hlt2⟩, hb3⟩;have HT : Hid (Two w3 b1 b2 (nval xs) (nval ys) ds es) := Lib.hid ⟨HH.out, hH', HD.out.below hb3, hD'⟩;have HB3 := Lib.hid (HB2.out.trans (hb3.mono HB2.out.size));have hTB : b1 < w3.heap.size /\ b2 < w3.heap.size := ⟨Nat.lt_of_lt_of_le hlt1 hb3.size, hlt2⟩;clear hH' hD' hb3 HH HD HB2 HS1 HS2 hb1 hb' hlt1 hlt2;go_wp2_with (at_make; refine mk_ints rfl _ _ rfl (ds.length + es.length) (ds.length + es.length) rfl rfl (by omega) (by omega) (Nat.le_refl _) (by omega) ?_; intro b w4 hm4)
 have hbg : w.heap.size <= b := by have := hm4.at_; have := HB3.out.size; omega
 have hbb : b1 < b /\ b2 < b := by have := hm4.at_; omega
 have HI : Hid (MulO w b 0 ds es (List.replicate (ds.length + es.length) 0) w4) := Lib.hid ⟨by simp, HOk.replicate _, by simp [hval, hval_replicate], fun k _ => gw_replicate _ k, hm4.row, HB3.out.trans (hm4.below.mono HB3.out.size)⟩;have HT4 := Lib.hid (HT.out.below hm4.below);clear hm4 HT HB3 hTB;go_loopw [8] (fun i_ wr => ∃ (i : Nat) (cu : List Nat), i <= ds.length /\ i_ = .int .i64 (i : Int) /\ Hid (MulO w b i ds es cu wr) /\ Hid (Two wr b1 b2 (nval xs) (nval ys) ds es)) (fun i_ _ => ds.length - (intOf i_).toNat)
 case atStart => exact ⟨0, _, Nat.zero_le _, rfl, HI, HT4⟩
 case round =>
  obtain ⟨i, cu0, hi, rfl, hO, hT0⟩ := hrel;by_cases hin : i < ds.length
  · have hin1 : (i : Int) < (ds.length : Int) := by omega
    have HI0 : Hid (MulI w b i 0 0 ds es cu0 wr) := Lib.hid ⟨hO.out.len, hO.out.ok, by unfold HX; omega, by rw [hO.out.val]; simp [hval], hO.out.hi, hO.out.row, hO.out.bel⟩;clear hO;go_wp2;go_loopw [9, 10] (fun c_ j_ wq => ∃ (j c : Nat) (cu : List Nat), j <= es.length /\ j_ = .int .i64 (j : Int) /\ c_ = .int .i64 (c : Int) /\ Hid (MulI w b i j c ds es cu wq) /\ Hid (Two wq b1 b2 (nval xs) (nval ys) ds es)) (fun _ j_ _ => es.length - (intOf j_).toNat)
    case atStart => exact ⟨0, 0, _, Nat.zero_le _, rfl, rfl, HI0, hT0⟩
    case round =>
     obtain ⟨j, c, cu, hj, rfl, rfl, hI, hT⟩ := hrel;by_cases hjn : j < es.length
     · have hjn1 : (j : Int) < (es.length : Int) := by omega
       obtain ⟨b1', o1', e1', hlt1', hc1'⟩ := hT.out.d1 (by omega);simp only [Option.some.injEq, Addr.mk.injEq, and_true] at e1';obtain ⟨rfl, rfl⟩ := e1';have k1 := hc1' i hin;rw [Nat.zero_add] at k1;obtain ⟨b2', o2', e2', hlt2', hc2'⟩ := hT.out.d2 (by omega);simp only [Option.some.injEq, Addr.mk.injEq, and_true] at e2';obtain ⟨rfl, rfl⟩ := e2';have k2 := hc2' j hjn;rw [Nat.zero_add] at k2;have k3 := hI.out.row.getI (i := i + j) (by rw [hI.out.len]; omega);have hx := hT.out.h1.ok.gw_ i;have hy := hT.out.h2.ok.gw_ j;have hz := hI.out.ok.gw_ (i + j);have hcc := hI.out.c1;obtain ⟨x, hxe⟩ : ∃ x, gw ds i = x := ⟨_, rfl⟩;obtain ⟨y, hye⟩ : ∃ y, gw es j = y := ⟨_, rfl⟩;obtain ⟨z, hze⟩ : ∃ z, gw cu (i + j) = z := ⟨_, rfl⟩;rw [hxe] at hx k1;rw [hye] at hy k2;rw [hze] at hz k3;unfold HX at hx hy hz hcc;have hxy : x * y <= 65535 * 65535 := Nat.mul_le_mul (by omega) (by omega);obtain ⟨p, hp⟩ : ∃ p, x * y = p := ⟨_, rfl⟩;rw [hp] at hxy;obtain ⟨s, hs⟩ : ∃ s, z + p + c = s := ⟨_, rfl⟩;have hsb : s <= 4294967295 := by omega
       have HST := Lib.hid (show s = gw cu (i + j) + gw ds i * gw es j + c by rw [hxe, hye, hze, hp]; exact hs.symm);have hdb : s / 65536 < 65536 := by omega
       have hm1 : IntKind.i64.wrap ((x : Int) * (y : Int)) = (p : Int) := by
        rw [<- Int.natCast_mul, hp]; exact wrap_small (by omega) (by omega)
       have hm2 : IntKind.i64.wrap ((z : Int) + (p : Int)) = (z : Int) + (p : Int) := wrap_small (by omega) (by omega);have hm3 : IntKind.i64.wrap ((z : Int) + (p : Int) + (c : Int)) = (s : Int) := by
        rw [show (z : Int) + (p : Int) + (c : Int) = (s : Int) by omega]; exact wrap_small (by omega) (by omega)
       have hm4 : IntKind.i64.wrap ((i : Int) + (j : Int)) = (i : Int) + (j : Int) := wrap_small (by omega) (by omega);have hm5 : (i : Int) + (j : Int) < (ds.length : Int) + (es.length : Int) := by omega
       have hm6 : 0 <= (i : Int) + (j : Int) := by omega
       have hm7 : ((i : Int) + (j : Int)).toNat = i + j := by omega
       have f3 := hI.out.row.free (i + j);clear hs hp hxe hye hze hc1' hc2';go_wp2
       go_quiet (fail)
       have hT2 := Two.below (w := wr) hT.out (below_drewN (Below.refl _ _) nq);have hI2 : MulI w b i j c ds es cu (wr.drewN nq) := ⟨hI.out.len, hI.out.ok, hI.out.c1, hI.out.val, hI.out.hi, hI.out.row.below (below_drewN (Below.refl _ _) nq) hI.out.row.lt, below_drewN hI.out.bel nq⟩;generalize wr.drewN nq = w6 at *;have g3 := hI2.row.getI (i := i + j) (by rw [hI2.len]; omega);have g4 := hI2.row.free (i + j);have HN := Lib.hid (hI2.step hbg hin hjn HST.out hdb);have HT2 := Lib.hid (hT2.setI hI2.row hbb (i + j) (.int .i64 ((s % 65536 : Nat) : Int)));clear hT2 hI2 k1 k2 k3 f3;go_wp2_with (first
        | (with_reducible show wpList _ _ _ (⟨some 57, _, _, _, _, _⟩ :: _) _ _; refine op_remI rfl _ _ rfl s 65536 (by omega) (by omega) rfl rfl rfl rfl ?_)
        | (with_reducible show wpList _ _ _ (⟨some 60, _, _, _, _, _⟩ :: _) _ _; refine op_quoI rfl _ _ rfl s 65536 (by omega) (by omega) rfl rfl rfl rfl ?_))
       go_roundw
       case rel => exact ⟨j + 1, s / 65536, _, by omega, by go_num, rfl, HN, HT2⟩
       case measure => simp [intOf]; omega
     · obtain rfl : j = es.length := by omega
       have hm4 : IntKind.i64.wrap ((i : Int) + (es.length : Int)) = (i : Int) + (es.length : Int) := wrap_small (by omega) (by omega);have hm5 : (i : Int) + (es.length : Int) < (ds.length : Int) + (es.length : Int) := by omega
       have g3 := hI.out.row.getI (i := i + es.length) (by rw [hI.out.len]; omega);have g4 := hI.out.row.free (i + es.length);have HN := Lib.hid (hI.out.last hbg hin);have HT2 := Lib.hid (hT.out.setI hI.out.row hbb (i + es.length) (.int .i64 (c : Int)));go_wp2;go_roundw
       case rel => exact ⟨i + 1, _, by omega, by go_num, HN, HT2⟩
       case measure => simp [intOf]; omega
  · obtain rfl : i = ds.length := by omega
    have hO' := hO.out;have hfin : hval cu0 = nval xs * nval ys := by
     rw [hO'.val, List.take_length, hT0.out.h1.val, hT0.out.h2.val]
    have hj := RWords_c b (ds.length + es.length) (ds.length + es.length) cu0 _ hO'.row hO'.ok hO'.len.symm (by omega);rw [hfin] at hj;have HJ := Lib.hid hj;have HBL := Lib.hid hO'.bel;clear hj hfin hO' hi hin;go_wp2_with fail
    refine HJ.out.mono ?_;rintro e w9 ⟨⟨ao', cap', rfl, hO9⟩, hb9⟩;have HO := Lib.hid (hO9.mono HBL.out.size);have HB9 := Lib.hid (HBL.out.trans (hb9.mono HBL.out.size));clear hO9 hb9;go_wp2;go_ret;exact ⟨⟨ao', cap', rfl, HO.out⟩, HB9.out⟩
set_option maxRecDepth 100000 in
set_option maxHeartbeats 1000000 in
theorem RMade_c (n : Bool) (ao : Option Addr) (len cap : Nat) (ws : List Nat) (w : World) (hA : WAt w ao ws) (hl : len = ws.length) (hm : len <= 8796093022208) :
 Calls Tryz.prog 101 #[.bool n, .slice ao len cap] w fun e w' => (∃ v', e = .returned v' /\ OwnI w' w.heap.size v' (zi n (nval ws))) /\ Below w.heap.size w w' := by
 have hb1 : Below w.heap.size w (w.alloc (.cells #[.bool false, .slice none 0 0] 44)) := (Below.refl _ _).alloc (Nat.le_refl _) _;have hr1 := RowAt.new w #[.bool false, .slice none 0 0] 44;have hs1 : (w.alloc (.cells #[.bool false, .slice none 0 0] 44)).heap.size = w.heap.size + 1 := by simp
 have HL := Lib.hid (RLeast01_c ao len cap ws _ (hA.below hb1) hl hm);have HB1 := Lib.hid hb1; clear hb1;have HR1 := Lib.hid hr1; clear hr1;clear hA hl;go_enter Tryz.func101, Tryz.ntmps101;go_wp2_with fail
 generalize w.alloc (.cells #[.bool false, .slice none 0 0] 44) = w1 at *;refine HL.out.mono ?_;rintro e w2 ⟨⟨ao', cap', rfl, hO⟩, hb2⟩;have hr2 := HR1.out.below hb2 HR1.out.lt;have c0 := hr2.cell 0;have c1 := hr2.cell 1;have f0 := hr2.free 0;have f1 := hr2.free 1;have HR2 := Lib.hid hr2; clear hr2;have HO := Lib.hid hO; clear hO;have HB2 := Lib.hid (HB1.out.trans (hb2.mono HB1.out.size)); clear hb2;cases n;all_goals
  go_wp2;refine bodyPost_ret (results_int (p := 4) (by kernel_rfl) _ _ w.heap.size _ _ rfl (HR2.out.set2 _ _)) rfl ?_
 · refine ⟨⟨_, rfl, ?_⟩, (HB2.out.setCell (Nat.le_refl _) _).setCell (Nat.le_refl _) _⟩;have := OwnI.mk false ((HO.out.setOther (p := ⟨w.heap.size, 0, none⟩) (by show w.heap.size < w1.heap.size; omega) (.bool false)).setOther (p := ⟨w.heap.size, 1, none⟩) (by show w.heap.size < w1.heap.size; omega) (.slice ao' (wlen (nval ws)) cap'));exact this.mono (by omega)
 · refine ⟨⟨_, rfl, ?_⟩, (HB2.out.setCell (Nat.le_refl _) _).setCell (Nat.le_refl _) _⟩;have := OwnI.mk true ((HO.out.setOther (p := ⟨w.heap.size, 0, none⟩) (by show w.heap.size < w1.heap.size; omega) (.bool (decide (0 < wlen (nval ws))))).setOther (p := ⟨w.heap.size, 1, none⟩) (by show w.heap.size < w1.heap.size; omega) (.slice ao' (wlen (nval ws)) cap'));simpa using this.mono (by omega)
set_option maxRecDepth 100000 in
set_option maxHeartbeats 1000000 in
theorem RLeast_c (v : Value) (x : Int) (L : Nat) (w : World) (hA : IntAt w L v x) (hL : L <= 8796093022208) :
 Calls Tryz.prog 125 #[v] w fun e w' => (∃ v', e = .returned v' /\ OwnI w' w.heap.size v' x) /\ Below w.heap.size w w' := by
 obtain ⟨n, ao, len, cap, ws, rfl, hW, hl, hl2, hc, rfl⟩ := hA;obtain ⟨r1, r2, hb⟩ := two_new w #[.bool n, .slice ao len cap] #[.bool false, .slice none 0 0] 44 44;have HM := Lib.hid (RMade_c n ao len cap ws _ (hW.below hb) hl (by omega));have HR1 := Lib.hid r1; clear r1;have HR2 := Lib.hid r2; clear r2;have HB := Lib.hid hb; clear hb;have e0 := HR1.out.cell 0;have e1 := HR1.out.cell 1;clear hW hl hc;go_enter Tryz.func125, Tryz.ntmps125;go_wp2_with fail
 generalize (w.alloc (.cells #[.bool n, .slice ao len cap] 44)).alloc (.cells #[.bool false, .slice none 0 0] 44) = w2 at *;refine HM.out.mono ?_;rintro e w3 ⟨⟨v', rfl, hO⟩, hb3⟩;obtain ⟨pz, rfl⟩ := NumAt.parts hO.num;unfold av at *;have hr3 := HR2.out.below hb3 HR2.out.lt;have c0 := hr3.cell 0;have c1 := hr3.cell 1;have f0 := hr3.free 0;have f1 := hr3.free 1;have hs2 : w.heap.size + 1 < w2.heap.size := HR2.out.lt;have HR3 := Lib.hid hr3; clear hr3;have HO := Lib.hid hO; clear hO;have HB3 := Lib.hid (HB.out.trans (hb3.mono HB.out.size)); clear hb3 e0 e1;go_wp2;refine bodyPost_ret (results_int (p := 2) (by kernel_rfl) _ _ (w.heap.size + 1) _ _ rfl (HR3.out.set2 _ _)) rfl ?_;refine ⟨⟨_, rfl, ?_⟩, (HB3.out.setCell (Nat.le_succ _) _).setCell (Nat.le_succ _) _⟩;exact (OwnI.setRow2 HO.out HR3.out _ _).mono (by omega)
set_option maxRecDepth 100000 in
set_option maxHeartbeats 2000000 in
theorem RSign_c (v : Value) (x : Int) (L : Nat) (w : World) (h : IntAt w L v x) (hL : L <= 8796093022208) :
 Calls Tryz.prog 69 #[v] w fun e w' => e = .returned (.int .i64 (zsign x)) /\ Below w.heap.size w w' := by
 have hA := h;obtain ⟨n, ao, len, cap, ws, rfl, hW, hl, hk, hc, hx⟩ := h;have r1 := RowAt.new w #[.bool n, .slice ao len cap] 44;have hb : Below w.heap.size w (w.alloc (.cells #[.bool n, .slice ao len cap] 44)) := (Below.refl _ _).alloc (Nat.le_refl _) _;have HM := Lib.hid (RLeast_c _ x L _ (hA.below hb) hL);have HR1 := Lib.hid r1; clear r1;have HB := Lib.hid hb; clear hb;have e0 := HR1.out.cell 0;have e1 := HR1.out.cell 1;clear hW hl hc hA hx;go_enter Tryz.func69, Tryz.ntmps69;go_wp2_with fail
 generalize w.alloc (.cells #[.bool n, .slice ao len cap] 44) = w2 at *;refine HM.out.mono ?_;rintro e w3 ⟨⟨v', rfl, hO⟩, hb3⟩;obtain ⟨aoz, capz, rfl, hOz⟩ := hO;have hbz : Below w.heap.size w w3 := HB.out.trans (hb3.mono HB.out.size);have HBZ := Lib.hid hbz; clear hbz hb3 hOz e0 e1;rcases Int.lt_trichotomy x 0 with hx | hx | hx
 · have h1 : decide (x < 0) = true := by simpa using hx
   rw [h1];have HZ := Lib.hid (show zsign x = -1 by unfold zsign; rw [if_pos hx]);clear hx h1;go_wp2;go_ret;exact ⟨by rw [HZ.out]; rfl, HBZ.out.alloc HBZ.out.size _⟩
 · subst hx;have h1 : decide ((0 : Int) < 0) = false := rfl;have h2 : wlen (0 : Int).natAbs = 0 := wlen_zero;rw [h1, h2];have HZ := Lib.hid (show zsign 0 = 0 from rfl);clear h1 h2;go_wp2;go_ret;exact ⟨by rw [HZ.out]; rfl, HBZ.out.alloc HBZ.out.size _⟩
 · have h1 : decide (x < 0) = false := by simp; omega
   have h2 : wlen x.natAbs ≠ 0 := fun e => by have := wlen_eq_zero.1 e; omega
   rw [h1];have HZ := Lib.hid (show zsign x = 1 by unfold zsign; rw [if_neg (by omega), if_neg (by omega)]);obtain ⟨k, hk⟩ : ∃ k, wlen x.natAbs = k := ⟨_, rfl⟩;rw [hk] at h2 ⊢;have h3 : 0 < (k : Int) := by omega
   clear hx h1 hk;go_wp2;go_ret;exact ⟨by rw [HZ.out]; rfl, HBZ.out.alloc HBZ.out.size _⟩
set_option maxRecDepth 100000 in
set_option maxHeartbeats 2000000 in
theorem RMul_c (v u : Value) (x y : Int) (L : Nat) (w : World) (h1 : IntAt w L v x) (h2 : IntAt w L u y) (hL : L <= 1099511627776) :
 Calls Tryz.prog 65 #[v, u] w fun e w' => (∃ v', e = .returned v' /\ OwnI w' w.heap.size v' (x * y)) /\ Below w.heap.size w w' := by
 obtain ⟨n1, ao1, len1, cap1, ws1, rfl, hW1, hl1, hk1, hc1, rfl⟩ := h1;obtain ⟨n2, ao2, len2, cap2, ws2, rfl, hW2, hl2, hk2, hc2, rfl⟩ := h2;obtain ⟨r1, r2, r3, hb⟩ := three_new w #[.bool n1, .slice ao1 len1 cap1] #[.bool n2, .slice ao2 len2 cap2] #[.bool false, .slice none 0 0] 44 44 44;have R1 := Lib.hid r1;have R2 := Lib.hid r2;have R3 := Lib.hid r3;have e10 := r1.cell 0;have e11 := r1.cell 1;have e20 := r2.cell 0;have e21 := r2.cell 1;have H1 := Lib.hid (hW1.below hb);have H2 := Lib.hid (hW2.below hb);have HL := Lib.hid (And.intro hl1 hl2);have HB := Lib.hid hb; clear hb r1 r2 r3;clear hW1 hl1 hc1 hW2 hl2 hc2;have HM := Lib.hid (RMul02_c ao1 ao2 len1 cap1 len2 cap2 ws1 ws2 _ H1.out H2.out HL.out.1 HL.out.2 (by omega) (by omega));go_enter Tryz.func65, Tryz.ntmps65;go_wp2_with fail
 generalize ((w.alloc (.cells #[.bool n1, .slice ao1 len1 cap1] 44)).alloc (.cells #[.bool n2, .slice ao2 len2 cap2] 44)).alloc (.cells #[.bool false, .slice none 0 0] 44) = w2 at *;refine HM.out.mono ?_;rintro e w3 ⟨⟨ao3, cap3, rfl, hO3⟩, hb3⟩;have hwl : wlen (nval ws1 * nval ws2) <= 8796093022208 := by
  have h1 := hO3.len;have h2 := wlen_mul (nval ws1) (nval ws2);have h3 := wlen_le_length H1.out.1;have h4 := wlen_le_length H2.out.1;have h5 := HL.out;omega
 have HM3 := Lib.hid (RMade_c (n1 != n2) ao3 _ cap3 _ w3 hO3.at_ hO3.len hwl);have k10 := (R1.out.below hb3 R1.out.lt).cell 0;have k11 := (R1.out.below hb3 R1.out.lt).cell 1;have k20 := (R2.out.below hb3 R2.out.lt).cell 0;have k21 := (R2.out.below hb3 R2.out.lt).cell 1;have R33 := Lib.hid (R3.out.below hb3 R3.out.lt);have HB3 := Lib.hid (HB.out.trans (hb3.mono HB.out.size));clear hb3 e10 e11 e20 e21 hO3 hwl HM;go_wp2_with fail
 refine HM3.out.mono ?_;rintro e w4 ⟨⟨v', rfl, hO⟩, hbz⟩;rw [nval_dig, zi_mul] at hO;have hs3 : w.heap.size + 2 < w3.heap.size := R33.out.lt;obtain ⟨pz, rfl⟩ := NumAt.parts hO.num;unfold av at *;have hrz := R33.out.below hbz R33.out.lt;have c0 := hrz.cell 0;have c1 := hrz.cell 1;have f0 := hrz.free 0;have f1 := hrz.free 1;have HRZ := Lib.hid hrz; clear hrz;have HO := Lib.hid hO; clear hO;have HBZ := Lib.hid (HB3.out.trans (hbz.mono HB3.out.size)); clear hbz;clear k10 k11 k20 k21;go_wp2;refine bodyPost_ret (results_int (p := 4) (by kernel_rfl) _ _ (w.heap.size + 2) _ _ rfl (HRZ.out.set2 _ _)) rfl ?_;refine ⟨⟨_, rfl, ?_⟩, (HBZ.out.setCell (by show w.heap.size <= w.heap.size + 2; omega) _).setCell (by show w.heap.size <= w.heap.size + 2; omega) _⟩;exact (OwnI.setRow2 HO.out HRZ.out _ _).mono (by omega)
set_option maxRecDepth 100000 in
set_option maxHeartbeats 2000000 in
theorem RSame_c (aoA aoB : Option Addr) (lA cA lB cB : Nat) (xs ys : List Nat) (w : World) (hA : WAt w aoA xs) (hB : WAt w aoB ys) (hlA : lA = xs.length) (hlB : lB = ys.length) (hmA : lA <= 17592186044415) (hmB : lB <= 17592186044415) :
 Calls Tryz.prog 78 #[.slice aoA lA cA, .slice aoB lB cB] w fun e w' => e = .returned (.bool (decide (xs = ys))) /\ Below w.heap.size w w' := by
 subst hlA hlB;have HA := Lib.hid hA; clear hA;have HB := Lib.hid hB; clear hB;go_enter Tryz.func78, Tryz.ntmps78;by_cases hs : xs.length = ys.length
 · have hb : (((xs.length : Nat) : Int) != ((ys.length : Nat) : Int)) = false := by rw [hs]; simp
   have Hs := Lib.hid hs; clear hs;go_wp2;go_loopw [5] (fun i wr => ∃ k : Nat, k <= xs.length /\ i = .int .i64 (k : Int) /\ Hid (∀ j, j < k -> gw xs j = gw ys j) /\ Below w.heap.size w wr) (fun i _ => xs.length - (intOf i).toNat)
   case atStart => exact ⟨0, Nat.zero_le _, rfl, Lib.hid (fun j hj => by omega), Below.refl _ _⟩
   case round =>
    obtain ⟨k, hk, rfl, hag, hbl⟩ := hrel;by_cases h0 : k < xs.length
    · have h01 : (k : Int) < (xs.length : Int) := by omega
      have h02 : (k : Int) < (ys.length : Int) := by have := Hs.out; omega
      obtain ⟨b1, o1, rfl, hb1, hc1⟩ := (HA.out.below hbl).pos (by omega);obtain ⟨b2, o2, rfl, hb2, hc2⟩ := (HB.out.below hbl).pos (by omega);have e1 := hc1 k h0;have e2 := hc2 k (by omega);clear hc1 hc2;by_cases hne : gw xs k = gw ys k
      · have t1 : (((gw xs k : Nat) : Int) != ((gw ys k : Nat) : Int)) = false := by rw [hne]; simp
        have HN := Lib.hid hne; clear hne;go_wp2
        go_quiet (fail)
        go_wp2;go_roundw
        case rel => exact ⟨k + 1, by omega, by go_num, Lib.hid (fun j hj => by
         by_cases e : j = k
         · subst e; exact HN.out
         · exact hag.out j (by omega)), below_drewN hbl _⟩
        case measure => simp [intOf]; omega
      · have t1 : (((gw xs k : Nat) : Int) != ((gw ys k : Nat) : Int)) = true := by rw [bne_iff_ne]; omega
        have hd : decide (xs = ys) = false := by
         rw [decide_eq_false_iff_not]; intro e; exact hne (by rw [e])
        have HD := Lib.hid hd; clear hd hne;go_wp2
        go_quiet (fail)
        go_wp2;go_ret;exact ⟨by rw [HD.out]; rfl, below_drewN hbl _⟩
    · obtain rfl : k = xs.length := by omega
      have hd : decide (xs = ys) = true := by
       rw [decide_eq_true_iff];refine List.ext_getElem Hs.out fun j h1 h2 => ?_;have := hag.out j h1;unfold gw at this;simpa [h1, h2] using this
      have HD := Lib.hid hd; clear hd;go_wp2;go_ret;exact ⟨by rw [HD.out]; rfl, hbl⟩
 · have hb : (((xs.length : Nat) : Int) != ((ys.length : Nat) : Int)) = true := by rw [bne_iff_ne]; omega
   have hd : decide (xs = ys) = false := by
    rw [decide_eq_false_iff_not]; intro e; exact hs (by rw [e])
   have HD := Lib.hid hd; clear hd hs;go_wp2;go_ret;exact ⟨by rw [HD.out]; rfl, Below.refl _ _⟩
theorem alike_bool (x y : Int) : (decide (dig x.natAbs = dig y.natAbs) && (decide (x < 0) == decide (y < 0))) = decide (x = y) := by
 have h1 : dig x.natAbs = dig y.natAbs ↔ x.natAbs = y.natAbs := ⟨fun h => by rw [<- nval_dig x.natAbs, h, nval_dig], fun h => by rw [h]⟩;rw [Bool.eq_iff_iff];simp only [Bool.and_eq_true, decide_eq_true_eq, beq_iff_eq, h1, decide_eq_decide];omega
end Go.Proofs.YtajmkebkgmbfnaaGreat
namespace Go.Proofs.YtajmkebkgmbfnaaGreat
theorem HB_pos : 0 < HB := by unfold HB; omega
theorem HB_pow : HB ^ 2 = W := rfl
def bval : List Nat -> Nat
 | [] => 0
 | x :: r => x + HB * bval r
def BOk (l : List Nat) : Prop := ∀ x ∈ l, x < HB
theorem BOk.tail {x : Nat} {r : List Nat} (h : BOk (x :: r)) : BOk r := fun y hy => h y (List.mem_cons_of_mem _ hy)
theorem BOk.head {x : Nat} {r : List Nat} (h : BOk (x :: r)) : x < HB := h x (List.mem_cons_self ..)
theorem BOk.append {a b : List Nat} (ha : BOk a) (hb : BOk b) : BOk (a ++ b) := fun x hx => (List.mem_append.1 hx).elim (ha x) (hb x)
theorem BOk.take {l : List Nat} (h : BOk l) (k : Nat) : BOk (l.take k) := fun x hx => h x (List.mem_of_mem_take hx)
theorem BOk.drop {l : List Nat} (h : BOk l) (k : Nat) : BOk (l.drop k) := fun x hx => h x (List.mem_of_mem_drop hx)
theorem BOk.set {l : List Nat} (h : BOk l) (k v : Nat) (hv : v < HB) : BOk (l.set k v) := fun x hx => (List.mem_or_eq_of_mem_set hx).elim (h x) (fun e => e ▸ hv)
theorem BOk.replicate (n : Nat) : BOk (List.replicate n 0) := fun x hx => by rw [List.eq_of_mem_replicate hx]; exact HB_pos
theorem BOk.gw_ {l : List Nat} (h : BOk l) (k : Nat) : gw l k < HB := by
 unfold gw;rw [List.getD_eq_getElem?_getD];cases hk : l[k]? with
 | none => simpa using HB_pos
 | some v => exact h v (List.mem_of_getElem? hk)
theorem bval_append (a b : List Nat) : bval (a ++ b) = bval a + HB ^ a.length * bval b := by
 induction a with
 | nil => simp [bval]
 | cons x r ih => simp only [List.cons_append, bval, ih, List.length_cons, Nat.pow_succ, Nat.mul_add]; rw [Nat.mul_comm (HB ^ r.length) HB, Nat.mul_assoc]; omega
theorem bval_replicate (n : Nat) : bval (List.replicate n 0) = 0 := by
 induction n with
 | zero => simp [bval]
 | succ n ih => simp [List.replicate_succ, bval, ih]
theorem bval_lt {l : List Nat} (h : BOk l) : bval l < HB ^ l.length := by
 induction l with
 | nil => simp [bval]
 | cons x r ih =>
  have h1 := h.head;have h2 := ih h.tail;simp only [bval, List.length_cons, Nat.pow_succ];have : HB * (bval r + 1) <= HB * HB ^ r.length := Nat.mul_le_mul_left _ h2;rw [Nat.mul_comm (HB ^ r.length) HB];rw [Nat.mul_add] at this;omega
theorem bval_take_succ (l : List Nat) (k : Nat) : bval (l.take (k + 1)) = bval (l.take k) + HB ^ k * gw l k := by
 unfold gw;by_cases hk : k < l.length
 · rw [List.take_succ_eq_append_getElem hk, bval_append, List.length_take, Nat.min_eq_left (by omega)];simp [bval, hk]
 · rw [List.take_of_length_le (by omega), List.take_of_length_le (by omega)];simp [List.getElem?_eq_none (show l.length <= k by omega)]
theorem bval_zeros {l : List Nat} (h : ∀ j, gw l j = 0) : bval l = 0 := by
 induction l with
 | nil => rfl
 | cons x r ih =>
  have h0 := h 0;have := ih (fun j => by have := h (j + 1); unfold gw at *; simpa using this);unfold gw at h0;simp at h0;simp [bval, h0, this]
theorem bval_take_of_zeros {l : List Nat} {k : Nat} (h : ∀ j, k <= j -> gw l j = 0) : bval (l.take k) = bval l := by
 by_cases hk : k <= l.length
 · conv => rhs; rw [<- List.take_append_drop k l, bval_append]
   rw [bval_zeros (l := l.drop k) (fun j => by have := h (k + j) (by omega); unfold gw at *; simpa using this)]; omega
 · rw [List.take_of_length_le (by omega)]
theorem bval_take_tlen (l : List Nat) : bval (l.take (tlen l)) = bval l := bval_take_of_zeros (fun j hj => zero_of_tlen l j hj)
structure Bex (n : Nat) (ds : List Nat) : Prop where
 ok : BOk ds
 trim : tlen ds = ds.length
 val : bval ds = n
theorem Bex.of {l : List Nat} (h : BOk l) : Bex (bval l) (l.take (tlen l)) := ⟨h.take _, tlen_take_tlen l, bval_take_tlen l⟩
theorem Bex.top {n : Nat} {ds : List Nat} (h : Bex n ds) (hl : 0 < ds.length) : HB ^ (ds.length - 1) <= n := by
 have h1 := tlen_top ds (by have := h.trim; omega);have h2 := bval_take_succ ds (ds.length - 1);have e : ds.length - 1 + 1 = ds.length := by omega
 rw [e, List.take_length, h.val] at h2;rw [h.trim] at h1;have h3 : 1 <= gw ds (ds.length - 1) := by unfold gw; omega
 have := Nat.mul_le_mul_left (HB ^ (ds.length - 1)) h3;omega
theorem Bex.lt {n : Nat} {ds : List Nat} (h : Bex n ds) : n < HB ^ ds.length := by rw [<- h.val]; exact bval_lt h.ok
theorem Bex.zero {n : Nat} {ds : List Nat} (h : Bex n ds) : ds.length = 0 ↔ n = 0 := by
 constructor
 · intro e; have := h.lt; rw [e] at this; simpa using this
 · intro e;rcases Nat.eq_zero_or_pos ds.length with h0 | h0
   · exact h0
   · have := h.top h0; have := Nat.pow_pos (n := ds.length - 1) HB_pos; omega
theorem Bex.shorter {n m : Nat} {xs ys : List Nat} (h : Bex n xs) (k : Bex m ys) (hl : xs.length < ys.length) : n < m := by
 have h1 := h.lt;have h2 := k.top (by omega);have h3 : HB ^ xs.length <= HB ^ (ys.length - 1) := Nat.pow_le_pow_right HB_pos (by omega);omega
theorem bval_lt_of {xs ys : List Nat} (hx : BOk xs) (hl : xs.length = ys.length) : ∀ (k : Nat), k < xs.length -> (∀ j, k < j -> gw xs j = gw ys j) -> gw xs k < gw ys k -> bval xs < bval ys := by
 intro k hk hj hlt;have up : ∀ m, k + 1 <= m -> bval (xs.take m) < bval (ys.take m) := by
  intro m hm;induction m with
  | zero => omega
  | succ m ih =>
   by_cases e : m = k
   · subst e;rw [bval_take_succ, bval_take_succ];have h1 := bval_lt (hx.take m);rw [List.length_take, Nat.min_eq_left (by omega)] at h1;have h2 : HB ^ m * (gw xs m + 1) <= HB ^ m * gw ys m := Nat.mul_le_mul_left _ hlt;rw [Nat.mul_add] at h2;omega
   · rw [bval_take_succ, bval_take_succ, hj m (by omega)];have := ih (by omega);omega
 have := up xs.length hk;rw [List.take_length, hl, List.take_length] at this;exact this
theorem bval_eq_of {xs ys : List Nat} (hl : xs.length = ys.length) (hj : ∀ j, gw xs j = gw ys j) : bval xs = bval ys := by
 have : xs = ys := List.ext_getElem hl fun j h1 h2 => by
  have := hj j;unfold gw at this;rw [List.getD_eq_getElem?_getD, List.getD_eq_getElem?_getD, List.getElem?_eq_getElem h1, List.getElem?_eq_getElem h2] at this;simpa using this
 rw [this]
def sp2 (w : Nat) : List Nat := [w % HB, w / HB % HB]
theorem sp2_ok (w : Nat) : BOk (sp2 w) := fun x hx => by
 simp only [sp2, List.mem_cons, List.not_mem_nil, or_false] at hx;rcases hx with rfl | rfl <;> exact Nat.mod_lt _ HB_pos
theorem sp2_val {w : Nat} (h : w < W) : bval (sp2 w) = w := by
 simp only [sp2, bval, Nat.mul_zero, Nat.add_zero];unfold W at h; unfold HB; omega
theorem sp2_length (w : Nat) : (sp2 w).length = 2 := rfl
def spb (ws : List Nat) : List Nat := ws.flatMap sp2
theorem spb_cons (w : Nat) (ws : List Nat) : spb (w :: ws) = sp2 w ++ spb ws := by simp [spb]
theorem spb_ok (ws : List Nat) : BOk (spb ws) := by
 induction ws with
 | nil => intro x hx; simp [spb] at hx
 | cons w ws ih => rw [spb_cons]; exact (sp2_ok w).append ih
theorem spb_length (ws : List Nat) : (spb ws).length = 2 * ws.length := by
 induction ws with
 | nil => rfl
 | cons w ws ih => rw [spb_cons, List.length_append, ih, sp2_length, List.length_cons]; omega
theorem spb_val {ws : List Nat} (h : Ok ws) : bval (spb ws) = nval ws := by
 induction ws with
 | nil => rfl
 | cons w ws ih =>
  rw [spb_cons, bval_append, sp2_length, HB_pow, sp2_val h.head, ih h.tail]; rfl
def ch2 (ds : List Nat) (q : Nat) : Nat := bval ((ds.drop (2 * q)).take 2)
theorem ch2_lt {ds : List Nat} (h : BOk ds) (q : Nat) : ch2 ds q < W := by
 unfold ch2;refine Nat.lt_of_lt_of_le (bval_lt ((h.drop _).take _)) ?_;rw [<- HB_pow];exact Nat.pow_le_pow_right HB_pos (by simp; omega)
theorem nval_ch2 : ∀ (n : Nat) (ds : List Nat), ds.length <= 2 * n -> nval ((List.range n).map (ch2 ds)) = bval ds
 | 0, ds, h => by
  have : ds = [] := List.length_eq_zero_iff.1 (by omega);subst this; rfl
 | n + 1, ds, h => by
  have ih := nval_ch2 n (ds.drop 2) (by simp; omega);rw [List.range_succ_eq_map, List.map_cons, List.map_map];have e : (List.range n).map (ch2 ds ∘ Nat.succ) = (List.range n).map (ch2 (ds.drop 2)) := by
   refine List.map_congr_left (fun q _ => ?_);simp only [Function.comp, ch2, List.drop_drop];congr 3; omega
  rw [e, nval, ih];unfold ch2;simp only [Nat.mul_zero, List.drop_zero]
  conv => rhs; rw [<- List.take_append_drop 2 ds, bval_append]
  by_cases h4 : 2 <= ds.length
  · rw [List.length_take, Nat.min_eq_left h4, HB_pow]
  · rw [List.drop_of_length_le (by omega)]; simp [bval]
theorem ch2_ok {ds : List Nat} (h : BOk ds) (n : Nat) : Ok ((List.range n).map (ch2 ds)) := fun x hx => by
 obtain ⟨q, _, rfl⟩ := List.mem_map.1 hx;exact ch2_lt h q
theorem ch2_dig {ds : List Nat} {n m : Nat} (h : Bex m ds) (h1 : ds.length <= 2 * n) (h2 : 2 * n < ds.length + 2) : (List.range n).map (ch2 ds) = dig m := by
 have hok := ch2_ok h.ok n;have hv := nval_ch2 n ds h1;rw [h.val] at hv;have hd := dig_nval hok;rw [hv] at hd;rw [hd];have hl : tlen ((List.range n).map (ch2 ds)) = n := by
  have := tlen_le ((List.range n).map (ch2 ds));rw [List.length_map, List.length_range] at this;rcases Nat.eq_zero_or_pos n with h0 | h0
  · omega
  · have : n - 1 < tlen ((List.range n).map (ch2 ds)) := lt_tlen _ _ (by
     rw [List.getD_eq_getElem?_getD];simp only [List.getElem?_map, List.getElem?_range (show n - 1 < n by omega), Option.map_some, Option.getD_some];unfold ch2;intro e;have h3 : 0 < (ds.drop (2 * (n - 1))).length := by simp; omega
     have h4 : (ds.drop (2 * (n - 1))).length <= 2 := by simp; omega
     rw [List.take_of_length_le h4] at e;have h5 := h.top (by omega);have h6 : bval ds = bval (ds.take (2 * (n - 1))) := by
      conv => lhs; rw [<- List.take_append_drop (2 * (n - 1)) ds, bval_append, e]
      omega
     have h7 := bval_lt (h.ok.take (2 * (n - 1)));rw [<- h6, h.val, List.length_take, Nat.min_eq_left (by omega)] at h7;have h8 : HB ^ (2 * (n - 1)) <= HB ^ (ds.length - 1) := Nat.pow_le_pow_right HB_pos (by omega);omega)
    omega
 rw [List.take_of_length_le (by rw [List.length_map, List.length_range, hl]; exact Nat.le_refl _)]
theorem Bex.wlen_ {m : Nat} {ds : List Nat} (h : Bex m ds) : wlen m = (ds.length + 1) / 2 := by
 have := ch2_dig (n := (ds.length + 1) / 2) h (by omega) (by omega);have h2 := congrArg List.length this;rw [List.length_map, List.length_range] at h2;unfold wlen; exact h2.symm
theorem bval_set : ∀ (l : List Nat) (k v : Nat), k < l.length -> bval (l.set k v) + HB ^ k * gw l k = bval l + HB ^ k * v
 | x :: r, 0, v, _ => by simp only [List.set_cons_zero, bval, gw, List.getD_cons_zero, Nat.pow_zero, Nat.one_mul]; omega
 | x :: r, k + 1, v, h => by
  have ih := bval_set r k v (by simpa using h);have e : gw (x :: r) (k + 1) = gw r k := by simp [gw]
  rw [e];simp only [List.set_cons_succ, bval, Nat.pow_succ];rw [Nat.mul_comm (HB ^ k) HB, Nat.mul_assoc, Nat.mul_assoc, Nat.add_assoc, <- Nat.mul_add, ih, Nat.mul_add];omega
theorem bval_split (l : List Nat) (s : Nat) (hs : s <= l.length) : bval l = bval (l.take s) + HB ^ s * bval (l.drop s) := by
 conv => lhs; rw [<- List.take_append_drop s l, bval_append, List.length_take, Nat.min_eq_left hs]
end Go.Proofs.YtajmkebkgmbfnaaGreat
namespace Go.Proofs.YtajmkebkgmbfnaaGreat
open Go.RowKit
attribute [local go_sem] wv
theorem WAt.ao {w : World} {ao : Option Addr} {ws : List Nat} (h : WAt w ao ws) (hl : 0 < ws.length) : ∃ b o, ao = some ⟨b, o, none⟩ := by
 obtain ⟨b, o, e, _⟩ := h.2 hl; exact ⟨b, o, e⟩
theorem Fr.w {S0 : Nat -> Prop} {w0 w : World} {es : List En} (h : Fr S0 w0 w es) (hn : ∀ e ∈ es, e.wr = false := by simp [En.wr]) {ao : Option Addr} {ws : List Nat} (hx : WAt w ao ws) : Fr S0 w0 w (.wat ao ws :: es) :=
 h.cons hx (fun e' he' => ⟨(fun h => nomatch h), fun hw => by rw [hn e' he'] at hw; cases hw⟩) (fun h => nomatch h)
theorem mulB {a b : Nat} (h : a * b < W) : Value.int .u64 (IntKind.u64.wrap ((a : Int) * b)) = .int .u64 ((a * b : Nat) : Int) := by
 rw [IntKind.wrap_u64, <- Int.natCast_mul]; unfold W at h; congr 1; omega
theorem addB {a b : Nat} (h : a + b < W) : Value.int .u64 (IntKind.u64.wrap ((a : Int) + b)) = .int .u64 ((a + b : Nat) : Int) := by
 rw [IntKind.wrap_u64]; unfold W at h; congr 1; omega
theorem remB (a : Nat) : Value.int .u64 ((a : Int).tmod 4294967296) = .int .u64 ((a % HB : Nat) : Int) := by
 unfold HB; rw [Int.tmod_eq_emod_of_nonneg (by omega)]; rfl
theorem quoB {a : Nat} (h : a < W) : Value.int .u64 (IntKind.u64.wrap ((a : Int) / 4294967296)) = .int .u64 ((a / HB : Nat) : Int) := by
 rw [IntKind.wrap_u64]; unfold W at h; unfold HB; congr 1; omega
theorem incB {a : Nat} (h : a < 9223372036854775807) : Value.int .i64 (IntKind.i64.wrap ((a : Int) + 1)) = .int .i64 ((a + 1 : Nat) : Int) := by
 rw [wrap_small] <;> first | rfl | omega
theorem prodB {a b c : Nat} (ha : a < HB) (hb : b < HB) (hc : c < HB) : a * b + c < W /\ (a * b + c) / HB < HB := by
 have h : a * b <= (HB - 1) * (HB - 1) := Nat.mul_le_mul (by omega) (by omega);have h1 : a * b + c < W := by unfold HB W at *; omega
 exact ⟨h1, by unfold W at h1; unfold HB; omega⟩
structure ScX where
 i : Nat
 c : Nat
 T : List Nat
set_option maxRecDepth 100000 in
set_option maxHeartbeats 4000000 in
theorem TScaled_c (ao : Option Addr) (len cap f : Nat) (ds : List Nat) (w : World) (hA : WAt w ao ds) (hd : BOk ds) (hf : f < HB) (hl : len = ds.length) (hm : len <= 17592186044416) :
 Calls Tryz.prog 187 #[.slice ao len cap, .int .u64 (f : Int)] w fun e w' => (∃ b ts, e = .returned (.slice (some ⟨b, 0, none⟩) (len + 1) (len + 1)) /\ w.heap.size <= b /\ ts.length = len + 1 /\ BOk ts /\ bval ts = bval ds * f /\ RowAt w' b 92 (ts.map wv)) /\ Below w.heap.size w w' := by
 subst hl;have hao := hA.ao;have hw1 : IntKind.i64.wrap ((ds.length : Int) + 1) = ((ds.length + 1 : Nat) : Int) := by rw [wrap_small] <;> omega
 refine funW (S0 := fun _ => False) Tryz.func187 ((Fr.nil _ w).w (hx := hA)) ?_;refine goW ?_;refine rW [] ?_;refine dW ?_;refine eW ?_;refine goW ?_;refine rW [] ?_;refine dW ?_;refine dW ?_;refine dW ?_;refine mW (ds.length + 1) (ds.length + 1) rfl rfl (Nat.le_refl _) (by omega) fun g5 => ?_;refine dW ?_;refine eW ?_;refine goW ?_;refine rW [] ?_;refine dW ?_;refine eW ?_;refine goW ?_;refine rW [] ?_;refine dW ?_;refine eW ?_;refine goW ?_;refine loopW (X := ScX) (fun x => x.i <= ds.length /\ x.T.length = ds.length + 1 /\ BOk x.T /\ x.c < HB /\ bval (x.T.take x.i) + HB ^ x.i * x.c = bval (ds.take x.i) * f) (fun x => ds.length - x.i)
  (fun x => [(7, .int .i64 (x.i : Int)), (6, .int .u64 (x.c : Int)), (5, .slice (some ⟨g5, 0, none⟩) (ds.length + 1) (ds.length + 1)), (1, .int .u64 (f : Int)), (0, .slice ao ds.length cap)])
  (fun x => [.row g5 92 (x.T.map wv), .wat ao ds]) ⟨0, 0, List.replicate (ds.length + 1) 0⟩ ⟨Nat.zero_le _, by simp, BOk.replicate _, (by show 0 < HB; decide), by simp [bval]⟩ fun x hx => ?_
 obtain ⟨h1, h2, h3, h4, h5⟩ := hx;refine goW ?_;refine rW [] ?_;refine dW ?_;refine dW ?_;refine dW ?_;refine dW ?_;refine eW ?_;refine goW ?_;refine condW (fun h => ?_) (fun h => ?_)
 · have hi : x.i < ds.length := by simpa using h
   obtain ⟨b, o, rfl⟩ := hao (by omega);have hi1 : (x.i : Int) < (ds.length : Int) := by omega
   refine goW ?_;have hg := hd.gw_ x.i;have hp := prodB hg hf h4;obtain ⟨X, hX⟩ : ∃ X, gw ds x.i * f + x.c = X := ⟨_, rfl⟩;rw [hX] at hp;have hq : x.i < x.T.length := by omega
   have hi2 : (x.i : Int) < (ds.length : Int) + 1 := by omega
   obtain ⟨R, hR⟩ : ∃ R, X % HB = R := ⟨_, rfl⟩;obtain ⟨Y, hY⟩ : ∃ Y, X / HB = Y := ⟨_, rfl⟩;refine wordW x.i mm1 hi ?_;refine rW [] ?_;refine dW ?_;refine dW ?_;refine dW ?_;refine dW ?_;refine dW ?_;refine dE (mulB (a := gw ds x.i) (b := f) (by omega)) ?_;refine dW ?_;refine dE ((addB (a := gw ds x.i * f) (b := x.c) (by omega)).trans (by rw [hX])) ?_;refine dW ?_;refine eW ?_;refine goW ?_;refine rW [] ?_;refine dW ?_;refine dW ?_;refine dW ?_;refine dE ((remB X).trans (by rw [hR])) ?_;refine dW ?_;refine sU x.i R hq rfl (k' := ?_);refine eW ?_;refine goW ?_;refine rW [] ?_;refine dW ?_;refine dE ((quoB hp.1).trans (by rw [hY])) ?_;refine dW ?_;refine eW ?_;refine goW ?_;refine rW [] ?_;refine dW ?_;refine dE (incB (a := x.i) (by omega)) ?_;refine dW ?_;refine eW ?_;subst hR hY hX;refine backW (⟨x.i + 1, (gw ds x.i * f + x.c) / HB, x.T.set x.i ((gw ds x.i * f + x.c) % HB)⟩ : ScX) ⟨⟨hi, by simpa using h2, h3.set _ _ (Nat.mod_lt _ HB_pos), hp.2, ?_⟩, by show ds.length - (x.i + 1) < ds.length - x.i; omega⟩;show bval ((x.T.set x.i ((gw ds x.i * f + x.c) % HB)).take (x.i + 1)) + HB ^ (x.i + 1) * ((gw ds x.i * f + x.c) / HB) = bval (ds.take (x.i + 1)) * f;rw [bval_take_succ, bval_take_succ, gw_set_same hq, List.take_set_of_le (Nat.le_refl _), Nat.add_mul, <- h5, Nat.pow_succ, Nat.add_assoc, Nat.mul_assoc (HB ^ x.i) HB, <- Nat.mul_add, Nat.mod_add_div, Nat.add_assoc, Nat.mul_add, Nat.mul_assoc];omega
 · have hi : x.i = ds.length := by
    have : ¬ x.i < ds.length := by simpa using h
    omega
   have hi2 : (ds.length : Int) < (ds.length : Int) + 1 := by omega
   have hq : ds.length < x.T.length := by omega
   refine goW ?_;refine rW [] ?_;refine dW ?_;refine dW ?_;refine dW ?_;refine dW ?_;refine dW ?_;refine sU ds.length x.c hq rfl (k' := ?_);refine eW ?_;refine goW ?_;refine rW [] ?_;refine dW ?_;refine dW ?_;refine eW ?_;refine goW ?_;refine fin1 (fun w' H => ?_);refine ⟨_, rvT, ⟨g5, x.T.set ds.length x.c, rfl, (H.own _ (List.mem_cons_self ..) rfl g5 rfl).resolve_left id, by simpa using h2, h3.set _ _ h4, ?_, H.m0⟩, H.below⟩;rw [<- List.take_length (l := x.T.set ds.length x.c), List.length_set, h2, bval_take_succ, gw_set_same hq, List.take_set_of_le (Nat.le_refl _)];rw [hi, List.take_length] at h5;exact h5
set_option maxRecDepth 100000 in
set_option maxHeartbeats 1000000 in
theorem KCopy_c (v : Value) (x : Int) (L : Nat) (w : World) (hA : IntAt w L v x) (hL : L <= 1099511627776) :
 Calls Tryz.prog 46 #[v] w fun e w' => ∃ p : P4, e = .returned (av p) /\ Nw w w' [.at L (av p) x] := by
 obtain ⟨n, ao, len, cap, ws, rfl, hW, rfl, hL1, hc, hx⟩ := hA;refine funW (S0 := fun _ => False) Tryz.func46 (Fr.nil _ w) ?_;refine goW ?_;refine rW [] ?_;refine aW fun g1 => ?_;refine aW fun g2 => ?_;refine eW ?_;refine goW ?_;refine rW [] ?_;refine dW ?_;refine dW ?_;refine bW (m := 0) fun g5 => ?_;refine dW ?_;refine dW ?_;refine appC (fun w' H => hW.below H.below) (by omega) fun o c hoc => ?_;refine dW ?_;refine sW ?_;refine eW ?_;refine goW ?_;refine fin1 fun w' H => ?_;exact ⟨_, rvI H.m2, (n, o, ws.length, c), rfl, H.below, fun e he => by
  rcases List.mem_singleton.1 he with rfl;exact ⟨⟨n, o, _, c, ws, rfl, H.m0, rfl, hL1, hoc, hx⟩, fun _ h => h.elim⟩, List.pairwise_singleton ..⟩
abbrev En.ia (L k : Nat) (ps : List P4) (xs : List Int) : En := .fact true false (fun _ => False) (fun w => ∀ i, i < k -> IntAt w L (av (gp ps i)) (gi xs i)) (fun _ _ h => h.elim) (fun h hc hT _ i hi => hc.int (hT rfl).wordless (h i hi))
theorem gp_set {ps : List P4} {i j : Nat} (h : i < ps.length) (x : P4) : gp (ps.set i x) j = if j = i then x else gp ps j := by
 unfold gp;rw [List.getD_eq_getElem?_getD, List.getElem?_set, List.getD_eq_getElem?_getD];by_cases e : i = j
 · subst e; simp [h]
 · have e2 : ¬ j = i := fun q => e q.symm;simp [e, e2]
theorem lsAt_of {w : World} {L b : Nat} {ps : List P4} {tl : List Value} {xs : List Int} (hr : RowAt w b 44 (rn ps tl)) (hl : ps.length = xs.length) (h : ∀ i, i < xs.length -> IntAt w L (av (gp ps i)) (gi xs i)) : LsAt w L (some ⟨b, 0, none⟩) xs := fun _ =>
 ⟨b, 0, rfl, hr.lt, fun i hi => ⟨gp ps i, by rw [Nat.zero_add]; exact (hr.cell _).trans (rn0 tl (by omega)), by rw [Nat.zero_add]; exact (hr.cell _).trans (rn1 tl (by omega)), by have := h i hi; rwa [gi_eq hi] at this⟩⟩
structure CrX where
 i : Nat
 ps : List P4
set_option maxRecDepth 100000 in
set_option maxHeartbeats 1000000 in
theorem KCopyRow_c (ao : Option Addr) (cap L : Nat) (xs : List Int) (w : World) (hA : LsAt w L ao xs) (hL : L <= 1099511627776) (hn : xs.length <= 8796093022208) :
 Calls Tryz.prog 12 #[.slice ao xs.length cap] w fun e w' => (∃ b, e = .returned (.slice (some ⟨b, 0, none⟩) xs.length xs.length) /\ w.heap.size <= b /\ LsAt w' L (some ⟨b, 0, none⟩) xs) /\ Below w.heap.size w w' := by
 refine funW (S0 := fun _ => False) Tryz.func12 ((Fr.nil _ w).l hA (by simp)) ?_;refine goW ?_;refine rW [] ?_;refine dW ?_;refine eW ?_;refine goW ?_;refine rW [] ?_;refine dW ?_;refine dW ?_;refine mN xs.length xs.length rfl rfl (Nat.le_refl _) hn fun b => ?_;refine dW ?_;refine eW ?_;refine goW ?_;refine rW [] ?_;refine dW ?_;refine eW ?_;refine addW (e := .ia L 0 (List.replicate xs.length p0) xs) (fun _ _ i h => absurd h (Nat.not_lt_zero i)) ?_;refine goW ?_;refine loopW (X := CrX) (fun z => z.i <= xs.length /\ z.ps.length = xs.length) (fun z => xs.length - z.i) (fun z => [(4, .int .i64 (z.i : Int)), (3, .slice (some ⟨b, 0, none⟩) xs.length xs.length), (0, .slice ao xs.length cap)]) (fun z => [.row b 44 (rn z.ps []), .ia L z.i z.ps xs, .ls L ao xs]) ⟨0, List.replicate xs.length p0⟩ ⟨Nat.zero_le _, by simp⟩ fun z hz => ?_;obtain ⟨i, ps⟩ := z;obtain ⟨hi, hp⟩ := hz;have hi : i <= xs.length := hi;have hp : ps.length = xs.length := hp;by_cases h : i < xs.length
 · obtain ⟨bx, ox, rfl⟩ := hA.pos h;have hps : i < ps.length := by omega
   refine goW ?_;refine rW [] ?_;refine dW ?_;refine dW ?_;refine dW ?_;refine dB true ?_;refine eW ?_;refine goW ?_;refine ctW ?_;refine numW (L := L) (xs := xs) (b := bx) (o := ox) i (by simp) h fun p => ?_;refine goW ?_;refine rW [] ?_;refine dW ?_;refine dW ?_;refine dW ?_;refine dW ?_;refine dW ?_;refine dW ?_;refine cG (mk := av) (ens := fun q => [.at L (av q) (gi xs i)]) (fun w' H => KCopy_c (av p) (gi xs i) L w' H.m2 hL) fun q => ?_;refine dW ?_;refine moreW (e := .ia L (i + 1) (ps.set i q) xs) (fun w' H k hk => ?_) ?_
   · rw [gp_set hps];by_cases e : k = i
     · subst e; rw [if_pos rfl]; exact H.m0
     · rw [if_neg e]; exact H.m5 k (by omega)
   refine sN i q hps NoW.nil rfl ?_;refine eW ?_;refine goW ?_;refine rW [] ?_;refine dW ?_;refine dE (incB (a := i) (by omega)) ?_;refine dW ?_;refine eW ?_;refine goW ?_;exact backW (⟨i + 1, ps.set i q⟩ : CrX) ⟨⟨h, by simpa using hp⟩, by show xs.length - (i + 1) < xs.length - i; omega⟩
 · obtain rfl : i = xs.length := by omega
   refine goW ?_;refine rW [] ?_;refine dW ?_;refine dW ?_;refine dW ?_;refine dB false ?_;refine eW ?_;refine goW ?_;refine cfW ?_;refine goW ?_;refine rW [] ?_;refine dW ?_;refine dW ?_;refine eW ?_;refine goW ?_;refine fin1 fun w' H => ?_;exact ⟨_, rvT, ⟨b, rfl, (H.own _ (List.mem_cons_self ..) rfl _ rfl).elim (fun h => h.elim) id, lsAt_of H.m0 hp H.m1⟩, H.below⟩
set_option maxRecDepth 100000 in
set_option maxHeartbeats 1000000 in
theorem KLike_c (v u : Value) (x y : Int) (w : World) (h1 : NumAt w v x) (h2 : NumAt w u y) (hx : wlen x.natAbs <= 17592186044415) (hy : wlen y.natAbs <= 17592186044415) :
 Calls Tryz.prog 30 #[v, u] w fun e w' => e = .returned (.bool (decide (x = y))) /\ Below w.heap.size w w' := by
 obtain ⟨ao1, cap1, rfl, hW1, _⟩ := h1.least;obtain ⟨ao2, cap2, rfl, hW2, _⟩ := h2.least;have hAL := alike_bool x y;obtain ⟨n1, hn1⟩ : ∃ n1, decide (x < 0) = n1 := ⟨_, rfl⟩;obtain ⟨n2, hn2⟩ : ∃ n2, decide (y < 0) = n2 := ⟨_, rfl⟩;obtain ⟨m, hm⟩ : ∃ m, decide (dig x.natAbs = dig y.natAbs) = m := ⟨_, rfl⟩;have hS := fun w' => RSame_c ao1 ao2 (wlen x.natAbs) cap1 (wlen y.natAbs) cap2 (dig x.natAbs) (dig y.natAbs) w';simp only [hm] at hS;obtain ⟨r, hr⟩ : ∃ r, decide (x = y) = r := ⟨_, rfl⟩;rw [hn1, hn2, hm, hr] at hAL;rw [hn1, hn2, hr];refine funW (S0 := fun _ => False) Tryz.func30 (Fr.nil _ w) ?_;refine goW ?_;refine rW [] ?_;refine aW fun g2 => ?_;refine aW fun g3 => ?_;refine dW ?_;refine eW ?_;refine goW ?_;refine rW [] ?_;refine dW ?_;refine dW ?_;refine dW ?_;refine dW ?_;clear hn1 hn2 hm hr;by_cases e : n1 = n2
 · subst e;have hAL : m = r := by simpa using hAL
   subst hAL;refine dB true ?_;refine dW ?_;refine dG ?_;refine dG ?_;refine dG ?_;refine dG ?_;refine cVg (fun w' H => hS w' (hW1.below H.below) (hW2.below H.below) rfl rfl hx hy) ?_;refine dW ?_;refine dW ?_;refine eW ?_;refine goW ?_;refine fin1 fun w' H => ?_;exact ⟨_, rvT, rfl, H.below⟩
 · have hr : r = false := by rw [<- hAL]; cases n1 <;> cases n2 <;> simp_all
   subst hr;refine dB false ?_;refine dW ?_;refine uG ?_;refine uG ?_;refine uG ?_;refine uG ?_;refine uC ?_;refine dW ?_;refine dW ?_;refine eW ?_;refine goW ?_;refine fin1 fun w' H => ?_;exact ⟨_, rvT, rfl, H.below⟩
abbrev En.lsn (ao : Option Addr) (xs : List Int) : En := .fact true false (fun g => 0 < xs.length /\ ∃ o, ao = some ⟨g, o, none⟩) (fun w => LsN w ao xs) (fun h b ⟨hl, o, e⟩ => by
 obtain ⟨b', o', e', hb, _⟩ := h hl;rw [e] at e'; cases e'; exact hb)
 (fun {w w' T} h hc hT hs hl => by
  obtain ⟨b, o, e, hb, hcl⟩ := h hl;refine ⟨b, o, e, Nat.lt_of_lt_of_le hb hc.size, fun i hi => ?_⟩;obtain ⟨p, h0, h1, hn⟩ := hcl i hi;exact ⟨p, (hc.cell (p := ⟨b, o + i * 2, none⟩) hb (hs b ⟨hl, o, e⟩)).trans h0, (hc.cell (p := ⟨b, o + i * 2 + 1, none⟩) hb (hs b ⟨hl, o, e⟩)).trans h1, hc.num (hT rfl).wordless hn⟩)
theorem Fr.ln {S0 : Nat -> Prop} {w0 w : World} {es : List En} (h : Fr S0 w0 w es) {ao : Option Addr} {xs : List Int} (hx : LsN w ao xs) (hS : ∀ e ∈ es, e.wr = false) : Fr S0 w0 w (.lsn ao xs :: es) :=
 h.cons hx (fun e he => ⟨(fun q => nomatch q), fun q => by rw [hS e he] at q; cases q⟩) (fun q => nomatch q)
theorem LsN.pos {w : World} {ao : Option Addr} {xs : List Int} (h : LsN w ao xs) {i : Nat} (hi : i < xs.length) : ∃ b o, ao = some ⟨b, o, none⟩ := by
 obtain ⟨b, o, e, _⟩ := h (by omega);exact ⟨b, o, e⟩
section
variable {P : Program} {Q : Exit -> Act -> World -> Prop} {S0 : Nat -> Prop} {w0 : World} {n : Nat} {ls : List (Nat × Value)} {es : List En} {c : Code}
theorem numNW {xs : List Int} {b o : Nat} (i : Nat) (hm : En.lsn (some ⟨b, o, none⟩) xs ∈ es) (hi : i < xs.length) (k : ∀ p : P4, CW P n S0 w0 c Q ls (.cell ⟨b, o + i * 2, none⟩ (.bool p.1) :: .cell ⟨b, o + i * 2 + 1, none⟩ (.slice p.2.1 p.2.2.1 p.2.2.2) :: .num (av p) (gi xs i) :: es)) : CW P n S0 w0 c Q ls es := fun a w ha hw => by
 have hA : LsN w (some ⟨b, o, none⟩) xs := hw.all _ hm;obtain ⟨b', o', e, hb, hc⟩ := hA (by omega);cases e;obtain ⟨p, h0, h1, hx⟩ := hc i hi;rw [<- gi_eq hi] at hx;have hS : (En.lsn (some ⟨b, o, none⟩) xs).S b := ⟨by omega, o, rfl⟩;exact k p a w ha (((hw.pure (e := .num (av p) (gi xs i)) hx (fun _ h => h)).cellOf (List.mem_cons_of_mem _ hm) rfl hS h1).cellOf (List.mem_cons_of_mem _ (List.mem_cons_of_mem _ hm)) rfl hS h0)
end
set_option maxRecDepth 100000 in
set_option maxHeartbeats 2000000 in
theorem KLikeRow_c (aoA aoB : Option Addr) (cA cB : Nat) (xs ys : List Int) (w : World) (hA : LsN w aoA xs) (hB : LsN w aoB ys) (hmA : xs.length <= 8796093022208) (hmB : ys.length <= 8796093022208)
 (hx : ∀ x ∈ xs, wlen x.natAbs <= 17592186044415) (hy : ∀ x ∈ ys, wlen x.natAbs <= 17592186044415) :
 Calls Tryz.prog 10 #[.slice aoA xs.length cA, .slice aoB ys.length cB] w fun e w' => e = .returned (.bool (decide (xs = ys))) /\ Below w.heap.size w w' := by
 refine funW (S0 := fun _ => False) Tryz.func10 (((Fr.nil _ w).ln hA (by simp)).ln hB (by simp [En.wr, En.lsn])) ?_;refine goW ?_;refine rW [] ?_;refine dW ?_;refine eW ?_;refine goW ?_;refine rW [] ?_;refine dW ?_;refine dW ?_;refine dW ?_;refine dW ?_;by_cases hs : xs.length = ys.length
 · have HS := Lib.hid hs;have hne : ((xs.length : Int) != (ys.length : Int)) = false := by rw [hs]; simp
   clear hs;refine dB false ?_;refine eW ?_;refine goW ?_;refine cfW ?_;refine goW ?_;refine rW [] ?_;refine dW ?_;refine eW ?_;refine goW ?_;refine loopW (X := Nat) (fun i => i <= xs.length /\ ∀ k, k < i -> gi xs k = gi ys k) (fun i => xs.length - i) (fun i => [(5, .int .i64 (i : Int)), (0, .slice aoA xs.length cA), (1, .slice aoB ys.length cB)]) (fun _ => [.lsn aoB ys, .lsn aoA xs]) 0 ⟨Nat.zero_le _, fun k h => absurd h (Nat.not_lt_zero k)⟩ fun i hz => ?_;obtain ⟨hi, hag⟩ := hz;by_cases h : i < xs.length
   · have h' : i < ys.length := by have := HS.out; omega
     obtain ⟨bx, ox, rfl⟩ := hA.pos h;obtain ⟨b_, oy, rfl⟩ := hB.pos h';have HX := Lib.hid (hx _ (gi_mem h));have HY := Lib.hid (hy _ (gi_mem h'));have HH := Lib.hid h;refine goW ?_;refine rW [] ?_;refine dW ?_;refine dW ?_;refine dW ?_;refine dB true ?_;refine eW ?_;refine goW ?_;refine ctW ?_;refine numNW (xs := xs) (b := bx) (o := ox) i (by simp) h fun p => ?_;refine numNW (xs := ys) (b := b_) (o := oy) i (by simp) h' fun q => ?_;refine goW ?_;refine rW [] ?_;refine dW ?_;refine dW ?_;refine dW ?_;refine dW ?_;refine dW ?_;refine dW ?_;refine dW ?_;refine dW ?_;refine cV (fun w' H => KLike_c (av p) (av q) _ _ w' H.m5 H.m2 HX.out HY.out) ?_;by_cases e : gi xs i = gi ys i
     · have HE := Lib.hid e;rw [decide_eq_true e];clear e;refine dW ?_;refine eW ?_;refine goW ?_;refine cfW ?_;refine goW ?_;refine rW [] ?_;refine dW ?_;refine dE (incB (a := i) (by omega)) ?_;refine dW ?_;refine eW ?_;refine goW ?_;exact backW (i + 1) ⟨⟨h, fun k hk => by
        by_cases e : k = i
        · subst e; exact HE.out
        · exact hag k (by omega)⟩, by omega⟩
     · have hd : decide (xs = ys) = false := by
        rw [decide_eq_false_iff_not]; intro h; exact e (by rw [h])
       rw [decide_eq_false e, hd];refine dW ?_;refine eW ?_;refine goW ?_;refine ctW ?_;refine goW ?_;refine rW [] ?_;refine dW ?_;refine eW ?_;refine goW ?_;refine fin1 fun w' H => ?_;exact ⟨_, rvT, rfl, H.below⟩
   · obtain rfl : i = xs.length := by omega
     have hd : decide (xs = ys) = true := by
      rw [decide_eq_true_iff];refine List.ext_getElem HS.out fun j h1 h2 => ?_;have := hag j h1
      rwa [gi_eq h1, gi_eq h2] at this
     rw [hd];refine goW ?_;refine rW [] ?_;refine dW ?_;refine dW ?_;refine dW ?_;refine dB false ?_;refine eW ?_;refine goW ?_;refine cfW ?_;refine goW ?_;refine rW [] ?_;refine dW ?_;refine eW ?_;refine goW ?_;refine fin1 fun w' H => ?_;exact ⟨_, rvT, rfl, H.below⟩
 · have hne : ((xs.length : Int) != (ys.length : Int)) = true := by rw [bne_iff_ne]; omega
   have hd : decide (xs = ys) = false := by
    rw [decide_eq_false_iff_not]; intro h; exact hs (by rw [h])
   rw [hd];clear hs;refine dB true ?_;refine eW ?_;refine goW ?_;refine ctW ?_;refine goW ?_;refine rW [] ?_;refine dW ?_;refine eW ?_;refine goW ?_;refine fin1 fun w' H => ?_;exact ⟨_, rvT, rfl, H.below⟩
set_option maxRecDepth 100000 in
set_option maxHeartbeats 1000000 in
theorem KLikeMat_c (r c : Nat) (aoA aoB : Option Addr) (cA cB : Nat) (xs ys : List Int) (w : World) (hA : LsN w aoA xs) (hB : LsN w aoB ys) (hmA : xs.length <= 8796093022208) (hmB : ys.length <= 8796093022208)
 (hx : ∀ x ∈ xs, wlen x.natAbs <= 17592186044415) (hy : ∀ x ∈ ys, wlen x.natAbs <= 17592186044415) :
 Calls Tryz.prog 17 #[.agg #[.int .i64 (r : Int), .int .i64 (c : Int), .slice aoA xs.length cA], .agg #[.int .i64 (r : Int), .int .i64 (c : Int), .slice aoB ys.length cB]] w fun e w' => e = .returned (.bool (decide (xs = ys))) /\ Below w.heap.size w w' := by
 have hK := fun w' (hA : LsN w' aoA xs) (hB : LsN w' aoB ys) => KLikeRow_c aoA aoB cA cB xs ys w' hA hB hmA hmB hx hy;refine funW (S0 := fun _ => False) Tryz.func17 (Fr.nil _ w) ?_;refine goW ?_;refine rW [] ?_;refine aW fun g2 => ?_;refine aW fun g3 => ?_;refine dW ?_;refine eW ?_;refine goW ?_;refine rW [] ?_;refine dW ?_;refine dW ?_;refine dW ?_;refine dW ?_;refine dB true ?_;refine dW ?_;refine dG ?_;refine dG ?_;refine dG ?_;refine dG ?_;refine dGB true ?_;refine dW ?_;refine dW ?_;refine dG ?_;refine dG ?_;refine dG ?_;refine dG ?_;refine cVg (fun w' H => hK w' (hA.below H.below) (hB.below H.below)) ?_;refine dW ?_;refine dW ?_;refine eW ?_;refine goW ?_;refine fin1 fun w' H => ?_;exact ⟨_, rvT, rfl, H.below⟩
attribute [local go_sem] wv
theorem fin0 {P : Program} {S0 : Nat -> Prop} {w0 : World} {n : Nat} {ls : List (Nat × Value)} {es : List En} {fn : Func} {R : Ending -> World -> Prop} (k : ∀ w, Fr S0 w0 w es -> R (.returned (.tuple #[])) w) (h : fn.results = #[] := by rfl) : QW n S0 w0 (bodyPost P fn R) .normal ls es := fun a w ha hw =>
 bodyPost_end (v := .tuple #[]) (by simp [results, h]) ha.df (k w hw)
theorem subB {a b : Nat} (h : b <= a) (ha : a < W) : Value.int .u64 (IntKind.u64.wrap ((a : Int) - b)) = .int .u64 ((a - b : Nat) : Int) := by
 rw [IntKind.wrap_u64]; unfold W at ha; congr 1; omega
theorem sumI {a b : Nat} (h : a + b < 9223372036854775807) : Value.int .i64 (IntKind.i64.wrap ((a : Int) + b)) = .int .i64 ((a + b : Nat) : Int) := by
 rw [wrap_small] <;> first | rfl | omega
theorem addHB {a : Nat} (h : a + HB < W) : Value.int .u64 (IntKind.u64.wrap ((a : Int) + 4294967296)) = .int .u64 ((a + HB : Nat) : Int) := addB (b := 4294967296) h
theorem add1B {a : Nat} (h : a + 1 < W) : Value.int .u64 (IntKind.u64.wrap ((a : Int) + 1)) = .int .u64 ((a + 1 : Nat) : Int) := addB (b := 1) h
theorem bval_set_add {R : List Nat} {k low v c : Nat} (hk : k < R.length) (hv : v + low = gw R k + c * HB) : bval (R.set k v) + HB ^ k * low = bval R + c * HB ^ (k + 1) := by
 have h := bval_set R k v hk;have h2 : HB ^ k * v + HB ^ k * low = HB ^ k * gw R k + HB ^ k * (c * HB) := by rw [<- Nat.mul_add, hv, Nat.mul_add]
 rw [Nat.pow_succ];have h3 : HB ^ k * (c * HB) = c * (HB ^ k * HB) := Nat.mul_left_comm ..;omega
structure TkX where
 i : Nat
 c : Nat
 T : List Nat
structure TkI (N q s : Nat) (R bs : List Nat) (x : TkX) : Prop where
 h1 : s + x.i <= N
 h2 : x.T.length = N
 h3 : BOk x.T
 h4 : x.c <= q
 h5 : bval x.T + HB ^ s * (q * bval (bs.take x.i)) = bval R + x.c * HB ^ (s + x.i)
theorem TkI.next {N q s : Nat} {R bs : List Nat} {x : TkX} (h : TkI N q s R bs x) (hb : BOk bs) (hq : q < HB) (hi : s + x.i < N) {t v c : Nat} (ht : x.c + q * gw bs x.i = t)
 (hv : if gw x.T (s + x.i) < t % HB then v = gw x.T (s + x.i) + HB - t % HB /\ c = t / HB + 1 else v = gw x.T (s + x.i) - t % HB /\ c = t / HB) : TkI N q s R bs ⟨x.i + 1, c, x.T.set (s + x.i) v⟩ := by
 obtain ⟨h1, h2, h3, h4, h5⟩ := h;have hd := h3.gw_ (s + x.i);have hl : t % HB < HB := Nat.mod_lt _ HB_pos;have hdm := Nat.mod_add_div t HB;have hbi := hb.gw_ x.i;have htq : t <= q * HB := by
  have : q * gw bs x.i <= q * (HB - 1) := Nat.mul_le_mul_left _ (by omega);rw [Nat.mul_sub] at this;have h0 : q <= q * HB := Nat.le_mul_of_pos_right _ HB_pos;omega
 have hcq : t / HB <= q := Nat.div_le_of_le_mul (by rw [Nat.mul_comm]; exact htq);have key : ∃ bo, v + t % HB = gw x.T (s + x.i) + bo * HB /\ c = t / HB + bo /\ v < HB /\ c <= q := by
  split at hv
  · rename_i hlt;refine ⟨1, by omega, hv.2, by omega, ?_⟩;rcases Nat.lt_or_ge (t / HB) q with h | h
    · omega
    · have he : t / HB = q := Nat.le_antisymm hcq h;rw [he, Nat.mul_comm] at hdm;omega
  · exact ⟨0, by omega, hv.2, by omega, by omega⟩
 obtain ⟨bo, k1, k2, k3, k4⟩ := key;refine ⟨hi, by simpa using h2, h3.set _ _ k3, k4, ?_⟩;have e := bval_set_add (R := x.T) (k := s + x.i) (by omega) k1;show bval (x.T.set (s + x.i) v) + HB ^ s * (q * bval (bs.take (x.i + 1))) = bval R + c * HB ^ (s + (x.i + 1));rw [bval_take_succ, k2, <- Nat.add_assoc];have e1 : HB ^ s * (q * (bval (bs.take x.i) + HB ^ x.i * gw bs x.i)) = HB ^ s * (q * bval (bs.take x.i)) + HB ^ (s + x.i) * (q * gw bs x.i) := by
  rw [Nat.mul_add, Nat.mul_add, Nat.pow_add, Nat.mul_left_comm q, Nat.mul_assoc]
 have e2 : HB ^ (s + x.i) * (q * gw bs x.i) + x.c * HB ^ (s + x.i) = HB ^ (s + x.i) * (t % HB) + t / HB * HB ^ (s + x.i + 1) := by
  rw [Nat.mul_comm x.c, <- Nat.mul_add, Nat.add_comm _ x.c, ht, Nat.pow_succ, Nat.mul_left_comm (t / HB), <- Nat.mul_add, Nat.mul_comm (t / HB), hdm]
 rw [e1, Nat.add_mul];omega
theorem TkI.end_ {N q s : Nat} {R bs : List Nat} {x : TkX} (h : TkI N q s R bs x) (hR : BOk R) (hN : R.length = N) (hle : HB ^ s * (q * bval bs) <= bval R) (he : N <= s + x.i ∨ (bs.length <= x.i /\ x.c = 0)) : bval x.T + HB ^ s * (q * bval bs) = bval R := by
 obtain ⟨h1, h2, h3, h4, h5⟩ := h;rcases he with he | ⟨he, hc⟩
 · have e : s + x.i = N := by omega
   rw [e] at h5;have hT := bval_lt h3;rw [h2] at hT;have hRl := bval_lt hR;rw [hN] at hRl;have hq : q * bval bs < HB ^ x.i := by
    refine Nat.lt_of_mul_lt_mul_left (a := HB ^ s) ?_;rw [<- Nat.pow_add, e]; omega
   have hsp : bval bs = bval (bs.take x.i) + HB ^ x.i * bval (bs.drop x.i) := by
    by_cases hl : x.i <= bs.length
    · exact bval_split bs x.i hl
    · rw [List.take_of_length_le (by omega), List.drop_of_length_le (by omega)]; simp [bval]
   have hqd : q * bval (bs.take x.i) = q * bval bs := by
    rcases Nat.eq_zero_or_pos (bval (bs.drop x.i)) with h0 | h0
    · rw [h0] at hsp; rw [hsp]; simp
    · rcases Nat.eq_zero_or_pos q with hq0 | hq0
      · simp [hq0]
      · have : HB ^ x.i * 1 <= HB ^ x.i * bval (bs.drop x.i) := Nat.mul_le_mul_left _ h0;have : 1 * bval bs <= q * bval bs := Nat.mul_le_mul_right _ hq0;omega
   rw [hqd] at h5;have hc : x.c = 0 := by
    rcases Nat.eq_zero_or_pos x.c with h0 | h0
    · exact h0
    · have : 1 * HB ^ N <= x.c * HB ^ N := Nat.mul_le_mul_right _ h0;omega
   rw [hc] at h5; omega
 · rw [hc, List.take_of_length_le he] at h5; omega
set_option maxRecDepth 100000 in
set_option maxHeartbeats 4000000 in
theorem TTakeOff_c (br N cr : Nat) (R : List Nat) (bo : Option Addr) (lb cb q s : Nat) (bs : List Nat) (w : World) (hR : RowAt w br 92 (R.map wv)) (hA : WAt w bo bs) (hbr : 0 < bs.length -> ∀ o, bo = some o -> o.block ≠ br) (hok : BOk R) (hokb : BOk bs) (hN : R.length = N) (hlb : lb = bs.length) (hq : q < HB) (hs : s <= N) (hm : N <= 35184372088832) (hmb : lb <= 35184372088832) (hle : HB ^ s * (q * bval bs) <= bval R) :
 Calls Tryz.prog 189 #[.slice (some ⟨br, 0, none⟩) N cr, .slice bo lb cb, .int .u64 (q : Int), .int .i64 (s : Int)] w fun e w' => ∃ R' : List Nat, e = .returned (.tuple #[]) /\ R'.length = N /\ BOk R' /\ bval R' + HB ^ s * (q * bval bs) = bval R /\ RowAt w' br 92 (R'.map wv) /\ Chg (· = br) w w' := by
 subst hlb;have hao := hA.ao;refine funW (S0 := (· = br)) Tryz.func189 (es := [.row br 92 (R.map wv), .wat bo bs]) (((Fr.nil _ w).cons (e := .wat bo bs) hA (fun _ h => (List.not_mem_nil h).elim) (fun h => nomatch h)).cons hR (fun e he => ?_) (fun _ b h => .inl h)) ?_
 · rw [List.mem_singleton] at he; subst he;refine ⟨fun _ b hb hb' => ?_, (fun h => nomatch h)⟩;obtain ⟨hl, o, e⟩ := hb';exact hbr hl _ e hb
 refine goW ?_;refine rW [] ?_;refine dW ?_;refine eW ?_;refine goW ?_;refine rW [] ?_;refine dW ?_;refine eW ?_;refine goW ?_;refine loopW (X := TkX) (TkI N q s R bs) (fun x => N - x.i)
  (fun x => [(9, .int .i64 (x.i : Int)), (8, .int .u64 (x.c : Int)), (3, .int .i64 (s : Int)), (2, .int .u64 (q : Int)), (1, .slice bo bs.length cb), (0, .slice (some ⟨br, 0, none⟩) N cr)])
  (fun x => [.row br 92 (x.T.map wv), .wat bo bs]) ⟨0, 0, R⟩ ⟨hs, hN, hok, Nat.zero_le _, by simp [bval]⟩ fun x hx => ?_
 have h1 := hx.h1;have fin : (N <= s + x.i ∨ (bs.length <= x.i /\ x.c = 0)) -> ∀ w', Fr (· = br) w w' [.row br 92 (x.T.map wv), .wat bo bs] -> ∃ R' : List Nat, (Ending.returned (.tuple #[])) = .returned (.tuple #[]) /\ R'.length = N /\ BOk R' /\ bval R' + HB ^ s * (q * bval bs) = bval R /\ RowAt w' br 92 (R'.map wv) /\ Chg (· = br) w w' := fun he w' H => ⟨x.T, rfl, hx.h2, hx.h3, hx.end_ hok hN hle he, H.m0, H.bs⟩;refine seqW (joinW (X := Unit) (fun _ => s + x.i < N /\ (x.i < bs.length ∨ 0 < x.c)) (fun _ => [(9, .int .i64 (x.i : Int)), (8, .int .u64 (x.c : Int)), (3, .int .i64 (s : Int)), (2, .int .u64 (q : Int)), (1, .slice bo bs.length cb), (0, .slice (some ⟨br, 0, none⟩) N cr)]) (fun _ => [.row br 92 (x.T.map wv), .wat bo bs]) ?_ fun _ hz => ?_)
 · by_cases hi : s + x.i < N
   · have hi' : (s : Int) + (x.i : Int) < (N : Int) := by omega
     by_cases hb : x.i < bs.length
     · have hb' : (x.i : Int) < (bs.length : Int) := by omega
       refine goW ?_;refine rW [] ?_;refine dW ?_;refine dW ?_;refine dE (sumI (a := s) (b := x.i) (by omega)) ?_;refine dW ?_;refine dW ?_;refine dB true ?_;refine dW ?_;refine dG ?_;refine dG ?_;refine dG ?_;refine dGB true ?_;refine dG ?_;refine uG ?_;refine uG ?_;refine dG ?_;refine dW ?_;refine eW ?_;refine goW ?_;refine ctW ?_;refine skipW ?_;exact joinE () ⟨hi, .inl hb⟩
     · have hb' : ¬ (x.i : Int) < (bs.length : Int) := by omega
       by_cases hc : 0 < x.c
       · have hc' : 0 < (x.c : Int) := by omega
         refine goW ?_;refine rW [] ?_;refine dW ?_;refine dW ?_;refine dE (sumI (a := s) (b := x.i) (by omega)) ?_;refine dW ?_;refine dW ?_;refine dB true ?_;refine dW ?_;refine dG ?_;refine dG ?_;refine dG ?_;refine dGB false ?_;refine dG ?_;refine dG ?_;refine dGB true ?_;refine dG ?_;refine dW ?_;refine eW ?_;refine goW ?_;refine ctW ?_;refine skipW ?_;exact joinE () ⟨hi, .inr hc⟩
       · have hc' : ¬ 0 < (x.c : Int) := by omega
         refine goW ?_;refine rW [] ?_;refine dW ?_;refine dW ?_;refine dE (sumI (a := s) (b := x.i) (by omega)) ?_;refine dW ?_;refine dW ?_;refine dB true ?_;refine dW ?_;refine dG ?_;refine dG ?_;refine dG ?_;refine dGB false ?_;refine dG ?_;refine dG ?_;refine dGB false ?_;refine dG ?_;refine dW ?_;refine eW ?_;refine goW ?_;refine cfW ?_;refine goW ?_;exact fin0 (fin (.inr ⟨by omega, by omega⟩))
   · have hi' : (N : Int) <= (s : Int) + (x.i : Int) := by omega
     refine goW ?_;refine rW [] ?_;refine dW ?_;refine dW ?_;refine dE (sumI (a := s) (b := x.i) (by omega)) ?_;refine dW ?_;refine dW ?_;refine dB false ?_;refine dW ?_;refine uG ?_;refine uG ?_;refine uG ?_;refine uG ?_;refine uG ?_;refine uU ?_;refine uU ?_;refine uG ?_;refine dW ?_;refine eW ?_;refine goW ?_;refine cfW ?_;refine goW ?_;exact fin0 (fin (.inl (by omega)))
 · obtain ⟨hi, hor⟩ := hz;have hi' : (s : Int) + (x.i : Int) < (N : Int) := by omega
   have hk := gw_some (ws := x.T) (i := s + x.i) (by rw [hx.h2]; exact hi);have hbi := hokb.gw_ x.i;have hrd := hx.h3.gw_ (s + x.i);have hcq := hx.h4;have hqg : q * gw bs x.i <= q * (HB - 1) := Nat.mul_le_mul_left _ (by omega);have hqW : q * HB < W := by unfold HB W at *; omega
   rw [Nat.mul_sub, Nat.mul_one] at hqg;have hq0 : q <= q * HB := Nat.le_mul_of_pos_right _ HB_pos;obtain ⟨B, hB⟩ : ∃ B, gw bs x.i = B := ⟨_, rfl⟩;obtain ⟨D, hD⟩ : ∃ D, gw x.T (s + x.i) = D := ⟨_, rfl⟩;obtain ⟨t, ht⟩ : ∃ t, x.c + q * B = t := ⟨_, rfl⟩;rw [hB] at hqg;have htW : t < W := by omega
   have hqB : q * B < W := by omega
   obtain ⟨L, hL⟩ : ∃ L, t % HB = L := ⟨_, rfl⟩;obtain ⟨Y, hY⟩ : ∃ Y, t / HB = Y := ⟨_, rfl⟩;have nx := fun v c hv => hx.next hokb hq hi (t := t) (v := v) (c := c) (by rw [hB]; exact ht) hv;rw [hD, hL, hY] at nx;rw [hD] at hk;obtain ⟨K, hK⟩ : ∃ K, s + x.i = K := ⟨_, rfl⟩;rw [hK] at nx hk hi;have hHW : HB + HB < W := by decide
   have hY1 : Y < HB := by rw [<- hY]; exact Nat.div_lt_of_lt_mul (show t < HB * HB from htW)
   rw [hD] at hrd;have hL1 : L < HB := by rw [<- hL]; exact Nat.mod_lt _ HB_pos
   have hKN : (K : Int) < (N : Int) := by omega
   refine goW ?_;refine rW [] ?_;refine dW ?_;refine dW ?_;refine eW ?_;refine nextW (seqW (joinW (X := Unit) (fun _ => True) (fun _ => [(10, .int .u64 (t : Int)), (9, .int .i64 (x.i : Int)), (8, .int .u64 (x.c : Int)), (3, .int .i64 (s : Int)), (2, .int .u64 (q : Int)), (1, .slice bo bs.length cb), (0, .slice (some ⟨br, 0, none⟩) N cr)]) (fun _ => [.row br 92 (x.T.map wv), .wat bo bs]) ?_ fun _ _ => ?_))
   · by_cases hb : x.i < bs.length
     · have hb' : (x.i : Int) < (bs.length : Int) := by omega
       obtain ⟨b, o, rfl⟩ := hao (by omega);refine goW ?_;refine rW [] ?_;refine dW ?_;refine dW ?_;refine dW ?_;refine dB true ?_;refine eW ?_;refine goW ?_;refine ctW ?_;refine wordW x.i mm1 hb ?_;rw [hB];refine rW [] ?_;refine dW ?_;refine dW ?_;refine dW ?_;refine dW ?_;refine dW ?_;refine dW ?_;refine dE (mulB (a := q) (b := B) hqB) ?_;refine dE ((addB (a := x.c) (b := q * B) (by rw [ht]; exact htW)).trans (by rw [ht])) ?_;refine dW ?_;refine eW ?_;exact joinE () trivial
     · have hb' : ¬ (x.i : Int) < (bs.length : Int) := by omega
       have ht0 : x.c = t := by rw [<- ht, <- hB]; unfold gw; simp [List.getElem?_eq_none (show bs.length <= x.i by omega)]
       rw [ht0];refine goW ?_;refine rW [] ?_;refine dW ?_;refine dW ?_;refine dW ?_;refine dB false ?_;refine eW ?_;refine goW ?_;refine cfW ?_;refine skipW ?_;exact joinE () trivial
   · refine goW ?_;refine rW [] ?_;refine dW ?_;refine dE ((remB t).trans (by rw [hL])) ?_;refine dW ?_;refine eW ?_;refine goW ?_;refine rW [] ?_;refine dW ?_;refine dE ((quoB (a := t) htW).trans (by rw [hY])) ?_;refine dW ?_;refine eW ?_;refine goW ?_;refine rW [] ?_;refine dW ?_;refine dW ?_;refine dW ?_;refine dE ((sumI (a := s) (b := x.i) (by omega)).trans (by rw [hK])) ?_;refine dW ?_;refine dW ?_;refine dW ?_;refine dW ?_;refine eW ?_;refine goW ?_;refine condW (fun h => ?_) (fun h => ?_)
     · have hlt : D < L := by have h := of_decide_eq_true h; omega
       refine goW ?_;refine rW [] ?_;refine dW ?_;refine dW ?_;refine dW ?_;refine dE ((sumI (a := s) (b := x.i) (by omega)).trans (by rw [hK])) ?_;refine dW ?_;refine dW ?_;refine dW ?_;refine dE ((sumI (a := s) (b := x.i) (by omega)).trans (by rw [hK])) ?_;refine dW ?_;refine dW ?_;refine dE (addHB (a := D) (by omega)) ?_;refine dW ?_;refine dE (subB (a := D + HB) (b := L) (by omega) (by omega)) ?_;refine dW ?_;refine sU K (D + HB - L) (by rw [hx.h2]; exact hi) rfl (k' := ?_);refine eW ?_;refine goW ?_;refine rW [] ?_;refine dW ?_;refine dE (add1B (a := Y) (by omega)) ?_;refine dW ?_;refine eW ?_;refine goW ?_;refine rW [] ?_;refine dW ?_;refine dE (incB (a := x.i) (by omega)) ?_;refine dW ?_;refine eW ?_;exact backW (⟨x.i + 1, Y + 1, x.T.set K (D + HB - L)⟩ : TkX) ⟨nx _ _ (by rw [if_pos hlt]; exact ⟨rfl, rfl⟩), by show N - (x.i + 1) < N - x.i; omega⟩
     · have hlt : ¬ D < L := by have h := of_decide_eq_false h; omega
       refine goW ?_;refine rW [] ?_;refine dW ?_;refine dW ?_;refine dW ?_;refine dE ((sumI (a := s) (b := x.i) (by omega)).trans (by rw [hK])) ?_;refine dW ?_;refine dW ?_;refine dW ?_;refine dE ((sumI (a := s) (b := x.i) (by omega)).trans (by rw [hK])) ?_;refine dW ?_;refine dW ?_;refine dW ?_;refine dE (subB (a := D) (b := L) (by omega) (by omega)) ?_;refine dW ?_;refine sU K (D - L) (by rw [hx.h2]; exact hi) rfl (k' := ?_);refine eW ?_;refine goW ?_;refine rW [] ?_;refine dW ?_;refine dE (incB (a := x.i) (by omega)) ?_;refine dW ?_;refine eW ?_;exact backW (⟨x.i + 1, Y, x.T.set K (D - L)⟩ : TkX) ⟨nx _ _ (by rw [if_neg hlt]; exact ⟨rfl, rfl⟩), by show N - (x.i + 1) < N - x.i; omega⟩
theorem remGW (a b : Nat) : Value.int .u64 ((a : Int).tmod (b : Int)) = .int .u64 ((a % b : Nat) : Int) := by
 rw [Int.tmod_eq_emod_of_nonneg (Int.natCast_nonneg a), Int.natCast_emod]
theorem digOne {n : Nat} (h0 : 0 < n) (h : n < W) : dig n = [n] := by
 have e := dig_nval (Ok.one h);have hv : nval [n] = n := by simp [nval]
 have hw : wlen n = 1 := by
  have e1 : wlen n ≠ 0 := fun e => by have := wlen_eq_zero.1 e; omega
  have e2 : wlen n <= 1 := wlen_le_of_lt (by simpa using h);omega
 have ht := wlen_nval (Ok.one h);rw [hv, hw] at ht;rw [hv, <- ht] at e;simpa using e
theorem wlenOne {n : Nat} (h0 : 0 < n) (h : n < W) : wlen n = 1 := by
 have e1 : wlen n ≠ 0 := fun e => by have := wlen_eq_zero.1 e; omega
 have e2 : wlen n <= 1 := wlen_le_of_lt (by simpa using h);omega
structure WdX where
 x : Nat
 y : Nat
structure WdI (g : Nat) (z : WdX) : Prop where
 hx : z.x < W
 hy : z.y < W
 h0 : 0 < g
 gcd : Nat.gcd z.x z.y = g
set_option maxRecDepth 100000 in
set_option maxHeartbeats 1000000 in
theorem DWords_c (x y : Nat) (w : World) (hx : x < W) (hy : y < W) (h0 : 0 < Nat.gcd x y) :
 Calls Tryz.prog 147 #[.int .u64 (x : Int), .int .u64 (y : Int)] w fun e w' => (∃ o c, e = .returned (.slice o (wlen (Nat.gcd x y)) c) /\ OwnW w' w.heap.size o (wlen (Nat.gcd x y)) c (dig (Nat.gcd x y))) /\ Below w.heap.size w w' := by
 obtain ⟨g, hg⟩ : ∃ g, Nat.gcd x y = g := ⟨_, rfl⟩;rw [hg] at h0 ⊢;refine funW (S0 := fun _ => False) Tryz.func147 (Fr.nil _ w) ?_;refine goW ?_;refine rW [] ?_;refine dW ?_;refine eW ?_;refine goW ?_;refine loopW (X := WdX) (WdI g) (fun z => z.y) (fun z => [(0, .int .u64 (z.x : Int)), (1, .int .u64 (z.y : Int))]) (fun _ => []) ⟨x, y⟩ ⟨hx, hy, h0, hg⟩ fun z hz => ?_;obtain ⟨x, y⟩ := z;obtain ⟨hx, hy, h0, hg⟩ := hz;have hx : x < W := hx;have hy : y < W := hy;have hg : Nat.gcd x y = g := hg;by_cases hy0 : y = 0
 · subst hy0;obtain rfl : x = g := by rw [<- hg, Nat.gcd_zero_right]
   refine goW ?_;refine rW [] ?_;refine dW ?_;refine dB false ?_;refine eW ?_;refine goW ?_;refine cfW ?_;refine goW ?_;refine rW [] ?_;refine dW ?_;refine bW (m := 1) fun g12 => ?_;refine dW ?_;refine eW ?_;refine goW ?_;refine fin1 fun w' H => ?_;rw [wlenOne h0 hx, digOne h0 hx];exact ⟨_, rvT, ⟨_, _, rfl, RowAt.own (ws := [x]) H.m0 (Ok.one hx) (H.own _ (List.mem_cons_self ..) rfl _ rfl |>.elim (fun h => h.elim) id) (by simp) rfl (by unfold maxLen; simp)⟩, H.below⟩
 · refine goW ?_;refine rW [] ?_;refine dW ?_;refine dB true ?_;refine eW ?_;refine goW ?_;refine ctW ?_;refine goW ?_;refine rW [] ?_;refine dW ?_;refine dW ?_;refine dW ?_;refine dE (remGW x y) ?_;refine dW ?_;refine dW ?_;refine eW ?_;refine goW ?_;exact backW (⟨y, x % y⟩ : WdX) ⟨⟨hy, Nat.lt_of_lt_of_le (Nat.mod_lt _ (by omega)) (Nat.le_of_lt hy), h0, by show Nat.gcd y (x % y) = g; rw [<- hg, Nat.gcd_comm x y, Nat.gcd_rec y x, Nat.gcd_comm]⟩, Nat.mod_lt _ (by omega)⟩
structure GcX where
 xo : Option Addr
 cx : Nat
 x : Nat
 yo : Option Addr
 cy : Nat
 y : Nat
structure GcI (g : Nat) (z : GcX) : Prop where
 hx : wlen z.x <= 17592186044415
 hy : wlen z.y <= 17592186044415
 gcd : Nat.gcd z.x z.y = g
set_option maxRecDepth 100000 in
set_option maxHeartbeats 4000000 in
theorem DGcd_c (ao bo : Option Addr) (la lb ca cb : Nat) (us vs : List Nat) (w : World) (hA : WAt w ao us) (hB : WAt w bo vs) (hla : la = us.length) (hlb : lb = vs.length) (hma : la <= 17592186044415) (hmb : lb <= 17592186044415) :
 Calls Tryz.prog 99 #[.slice ao la ca, .slice bo lb cb] w fun e w' => (∃ o c, e = .returned (.slice o (wlen (Nat.gcd (nval us) (nval vs))) c) /\ OwnW w' w.heap.size o (wlen (Nat.gcd (nval us) (nval vs))) c (dig (Nat.gcd (nval us) (nval vs)))) /\ Below w.heap.size w w' := by
 obtain ⟨g, hg⟩ : ∃ g, Nat.gcd (nval us) (nval vs) = g := ⟨_, rfl⟩;have wx : wlen (nval us) <= 17592186044415 := Nat.le_trans (wlen_nval_le hA.ok) (hla ▸ hma);have wy : wlen (nval vs) <= 17592186044415 := Nat.le_trans (wlen_nval_le hB.ok) (hlb ▸ hmb);rw [hg];refine funW (S0 := fun _ => False) Tryz.func99 (Fr.nil _ w) ?_;refine goW ?_;refine rW [] ?_;refine dW ?_;refine eW ?_;refine goW ?_;refine rW [] ?_;refine dW ?_;refine cW1 (fun w' H => Least_c ao la ca us w' (hA.below H.below) hla (by omega)) fun xo cx => ?_;refine dW ?_;refine cW1 (fun w' H => Least_c bo lb cb vs w' (hB.below H.below) hlb (by omega)) fun yo cy => ?_;refine dW ?_;refine dW ?_;refine eW ?_;refine goW ?_;refine loopW (X := GcX) (GcI g) (fun z => z.y) (fun z => [(6, .slice z.yo (wlen z.y) z.cy), (5, .slice z.xo (wlen z.x) z.cx)]) (fun z => [.ow w.heap.size z.xo z.x z.cx, .wat z.xo (dig z.x), .ow w.heap.size z.yo z.y z.cy, .wat z.yo (dig z.y)]) ⟨xo, cx, nval us, yo, cy, nval vs⟩ ⟨wx, wy, hg⟩ fun z hz => ?_;clear hg wx wy;obtain ⟨xo, cx, x, yo, cy, y⟩ := z;obtain ⟨hx, hy, hg⟩ := hz;have hx : wlen x <= 17592186044415 := hx;have hy : wlen y <= 17592186044415 := hy;have hg : Nat.gcd x y = g := hg;by_cases hy0 : y = 0
 · subst hy0;obtain rfl : x = g := by rw [<- hg, Nat.gcd_zero_right]
   clear hg;have hz := wlen_zero;refine goW ?_;refine rW [] ?_;refine dW ?_;refine dW ?_;refine dB false ?_;refine eW ?_;refine goW ?_;refine cfW ?_;refine goW ?_;refine rW [] ?_;refine dW ?_;refine dW ?_;refine eW ?_;refine goW ?_;refine fin1 fun w' H => ?_;exact ⟨_, rvT, ⟨_, _, rfl, H.m0⟩, H.below⟩
 · have hyl : 0 < wlen y := by
    rcases Nat.eq_zero_or_pos (wlen y) with h | h
    · exact absurd (wlen_eq_zero.1 h) hy0
    · exact h
   have HG := Lib.hid hg;clear hg;refine goW ?_;refine rW [] ?_;refine dW ?_;refine dW ?_;refine dB true ?_;refine eW ?_;refine goW ?_;refine ctW ?_;by_cases h1 : wlen x = 1 /\ wlen y = 1
   · obtain ⟨h1, h2⟩ := h1;have hxW : x < W := by have := lt_pow_wlen x; rw [h1] at this; simpa using this
     have hyW : y < W := by have := lt_pow_wlen y; rw [h2] at this; simpa using this
     have hx0 : 0 < x := by
      rcases Nat.eq_zero_or_pos x with h | h
      · subst h; rw [wlen_zero] at h1; omega
      · exact h
     have ex := digOne hx0 hxW;have ey := digOne (Nat.pos_of_ne_zero hy0) hyW;rw [ex, ey, h1, h2];refine goW ?_;refine rW [] ?_;refine dW ?_;refine dW ?_;refine dW ?_;refine dW ?_;refine dG ?_;refine dG ?_;refine dG ?_;refine dW ?_;refine eW ?_;refine goW ?_;refine ctW ?_;refine posW (ao := xo) (ws := [x]) (by simp) (by simp) fun bx ox e => ?_;subst e;refine posW (ao := yo) (ws := [y]) (by simp) (by simp) fun b_ oy e => ?_;subst e;refine word00W (ws := [x]) (b := bx) (o := ox) (by simp) (by simp) ?_;refine word00W (ws := [y]) (b := b_) (o := oy) (by simp) (by simp) ?_;rw [show gw [x] 0 = x by simp [gw], show gw [y] 0 = y by simp [gw]];refine goW ?_;refine rW [] ?_;refine dW ?_;refine dW ?_;refine dW ?_;refine dW ?_;refine dW ?_;refine dW ?_;refine cW1 (m := g) (fun w' H => by have := DWords_c x y w' hxW hyW (Nat.gcd_pos_of_pos_left _ hx0); rw [HG.out] at this; exact this) fun o c => ?_;refine dW ?_;refine eW ?_;refine goW ?_;refine fin1 fun w' H => ?_;exact ⟨_, rvT, ⟨_, _, rfl, H.m0⟩, H.below⟩
   · refine goW ?_;refine rW [] ?_;refine dW ?_;refine dW ?_;rcases (Decidable.em (wlen x = 1)) with h2 | h2
     case' inl =>
      have h3 : ¬ wlen y = 1 := fun h => h1 ⟨h2, h⟩;refine dB true ?_;refine dW ?_;refine dG ?_;refine dG ?_;refine dGB false ?_;refine dW ?_
     case' inr =>
      refine dB false ?_;refine dW ?_;refine uG ?_;refine uG ?_;refine uG ?_;refine dW ?_
     all_goals
      refine eW ?_;refine goW ?_;refine cfW ?_;refine goW ?_;refine rW [] ?_;refine dW ?_;refine dW ?_;refine cW2 (m := x / y) (q := x % y) (fun w' H => by
       have := DivMod_c xo yo (wlen x) (wlen y) cx cy (dig x) (dig y) w' H.m1 H.m3 (dig_length x).symm (dig_length y).symm hx hy (by rw [nval_dig]; exact hy0);simp only [nval_dig] at this;exact this) fun qo cq ro cr => ?_
      refine dW ?_;refine dW ?_;refine dW ?_;refine dW ?_;refine dW ?_;refine dW ?_;refine dW ?_;refine eW ?_;refine goW ?_;refine rW [] ?_;refine dW ?_;refine dW ?_;refine dW ?_;refine dW ?_;refine eW ?_;refine goW ?_;exact backW (⟨yo, cy, y, ro, cr, x % y⟩ : GcX) ⟨⟨hy, Nat.le_trans (wlen_mono (Nat.mod_le ..)) hx, by show Nat.gcd y (x % y) = g; rw [<- HG.out, Nat.gcd_comm x y, Nat.gcd_rec y x, Nat.gcd_comm]⟩, Nat.mod_lt _ (by omega)⟩
set_option maxRecDepth 100000 in
set_option maxHeartbeats 1000000 in
theorem BGcd_c (v u : Value) (x y : Int) (w : World) (hA : IntAt w 17592186044415 v x) (hB : IntAt w 17592186044415 u y) :
 Calls Tryz.prog 44 #[v, u] w fun e w' => (∃ v', e = .returned v' /\ OwnI w' w.heap.size v' (Int.gcd x y : Int)) /\ Below w.heap.size w w' := by
 obtain ⟨n, ao, len, cap, ws, rfl, hW, hl, hL1, hc, hx⟩ := hA;obtain ⟨n2, ao2, len2, cap2, ws2, rfl, hW2, hl2, hL2, hc2, hx2⟩ := hB;have hg : Int.gcd x y = Nat.gcd (nval ws) (nval ws2) := by rw [hx, hx2]; unfold Int.gcd; rw [zi_abs, zi_abs]
 rw [hg];refine funW (S0 := fun _ => False) Tryz.func44 (Fr.nil _ w) ?_;refine goW ?_;refine rW [] ?_;refine aW fun g2 => ?_;refine aW fun g3 => ?_;refine aW fun g4 => ?_;refine eW ?_;refine goW ?_;refine rW [] ?_;refine dW ?_;refine dW ?_;refine dW ?_;refine dW ?_;refine cW1 (fun w' H => DGcd_c ao ao2 len len2 cap cap2 ws ws2 w' (hW.below H.below) (hW2.below H.below) hl hl2 hL1 hL2) fun o c => ?_;refine dW ?_;refine sW ?_;refine eW ?_;refine goW ?_;refine fin1 fun w' H => ?_;exact ⟨_, rvI H.m2, ⟨_, rfl, ow_own H.m0⟩, H.below⟩
theorem zsign_zero {x : Int} : zsign x = 0 ↔ x = 0 := by
 unfold zsign;constructor
 · intro h; split at h <;> first | omega | (split at h <;> omega)
 · rintro rfl; rfl
theorem lcm_int (x y : Int) : ((x / (Int.gcd x y : Int) * y).natAbs : Int) = (Int.lcm x y : Int) := by
 congr 1;have hd : (Int.gcd x y : Int) ∣ x := Int.gcd_dvd_left ..;rw [Int.natAbs_mul, Int.natAbs_ediv_of_dvd hd, Int.natAbs_natCast];unfold Int.lcm Nat.lcm;have h2 : Int.gcd x y ∣ x.natAbs := Nat.gcd_dvd_left ..;show _ = x.natAbs * y.natAbs / Int.gcd x y;rw [Nat.mul_comm x.natAbs, Nat.mul_div_assoc _ h2, Nat.mul_comm]
set_option maxRecDepth 100000 in
set_option maxHeartbeats 1000000 in
theorem BLcm_c (v u : Value) (x y : Int) (L : Nat) (w : World) (hA : IntAt w L v x) (hB : IntAt w L u y) (hL : L <= 8796093022207) :
 Calls Tryz.prog 45 #[v, u] w fun e w' => (∃ v', e = .returned v' /\ OwnI w' w.heap.size v' (Int.lcm x y : Int)) /\ Below w.heap.size w w' := by
 have hlx := hA.wlen;obtain ⟨p, rfl⟩ := hA.parts;obtain ⟨q, rfl⟩ := hB.parts;have hd : (Int.gcd x y : Int) ∣ x := Int.gcd_dvd_left ..;have hlc := lcm_int x y;have h00 : (Int.gcd x y : Int) = 0 -> Int.lcm x y = 0 := fun h => by
  have : Int.gcd x y = 0 := by omega
  have h1 := (Int.gcd_eq_zero_iff.1 this).1;subst h1; simp
 have hgl : wlen (Int.gcd x y) <= 17592186044415 := by
  rcases Nat.eq_zero_or_pos x.natAbs with h | h
  · have : x = 0 := by omega
    subst this;rw [Int.gcd_zero_left]; have := hB.wlen; omega
  · exact Nat.le_trans (wlen_mono (Nat.gcd_le_left _ h)) (by omega)
 have hql : wlen (x / (Int.gcd x y : Int)).natAbs <= L := Nat.le_trans (wlen_mono (by rw [Int.natAbs_ediv_of_dvd hd]; exact Nat.div_le_self ..)) hlx;have hml : wlen (x / (Int.gcd x y : Int) * y).natAbs <= 17592186044415 := by
  rw [Int.natAbs_mul]; exact Nat.le_trans (wlen_mul ..) (by have := hB.wlen; omega)
 refine funW (S0 := fun _ => False) Tryz.func45 (((Fr.nil _ w).i hB).i hA) ?_;refine goW ?_;refine rW [] ?_;refine aW fun g2 => ?_;refine aW fun g3 => ?_;refine aW fun g4 => ?_;refine eW ?_;refine goW ?_;refine rW [] ?_;refine dW ?_;refine dW ?_;refine cN (fun w H => BGcd_c _ _ x y w (H.m3.mono (by omega)) (H.m4.mono (by omega))) fun p10 => ?_;refine aW fun g5 => ?_;refine sG ?_;refine eW ?_;refine goW ?_;refine rW [] ?_;refine dW ?_;refine cV (fun w H => ISign_c _ _ w (OwnI.int H.m1 hgl)) ?_;obtain ⟨g, hg⟩ : ∃ g : Int, (Int.gcd x y : Int) = g := ⟨_, rfl⟩;have hgl' : wlen g.natAbs <= 17592186044415 := by rw [<- hg]; exact hgl
 rw [hg] at hd hlc h00 hql hml ⊢;clear hg hgl;by_cases h0 : g = 0
 · have hz : zsign g = 0 := zsign_zero.2 h0;rw [h00 h0];refine dB true ?_;refine eW ?_;refine goW ?_;refine ctW ?_;refine goW ?_;refine rW [] ?_;refine dW ?_;refine sW ?_;refine eW ?_;refine goW ?_;refine fin1 fun w' H => ?_;exact ⟨_, rvI H.m2, ⟨_, rfl, OwnI.zero _ _⟩, H.below⟩
 · have hz : ¬ zsign g = 0 := fun h => h0 (zsign_zero.1 h);rw [<- hlc];refine dB false ?_;refine eW ?_;refine goW ?_;refine cfW ?_;refine goW ?_;refine rW [] ?_;refine dW ?_;refine dW ?_;refine cN1 (fun w H => IExact_c _ _ x g w (H.m5.mono (by omega)) (OwnI.int H.m1 hgl') h0 hd) fun p18 => ?_;refine dW ?_;refine dW ?_;refine dW ?_;refine aW fun g6 => ?_;refine sG ?_;refine dW ?_;refine eW ?_;refine goW ?_;refine rW [] ?_;refine dW ?_;refine dW ?_;refine cN (fun w H => IMul_c _ _ _ y L L w (OwnI.int H.m1 hql) H.m8 (by omega)) fun p23 => ?_;refine cN (fun w H => IAbs_c _ _ w (OwnI.int H.m0 hml)) fun p24 => ?_;refine sW ?_;refine eW ?_;refine goW ?_;refine fin1 fun w' H => ?_;exact ⟨_, rvI H.m6, ⟨_, rfl, H.m0⟩, H.below⟩
theorem mulI {a b : Nat} (h : a * b < 9223372036854775808) : Value.int .i64 (IntKind.i64.wrap ((a : Int) * b)) = .int .i64 ((a * b : Nat) : Int) := by
 rw [<- Int.natCast_mul, wrap_small (by omega) (by omega)]
theorem minI (a b : Nat) : Value.int .i64 (min (a : Int) b) = .int .i64 ((min a b : Nat) : Int) := by congr 1; omega
theorem idxL {r c i j : Nat} (hi : i < r) (hj : j < c) : i * c + j < r * c := by
 have h1 : (i + 1) * c <= r * c := Nat.mul_le_mul_right _ hi;have h2 : (i + 1) * c = i * c + c := Nat.succ_mul i c;omega
section
variable {P : Program} {ops : Array Oper} {Q : Exit -> Act -> World -> Prop} {S0 : Nat -> Prop} {w0 : World} {E0 : List En} {n j s sg g : Nat} {l : List Nat} {G E : List En} {ls : List (Nat × Value)} {op : Op} {ty : TypeId} {pos : String} {af : Array Edge} {v v' : Value} {want : Bool}
theorem dGE (hv : v' = v) (k : RWs ⟨P, ops, Q, S0, w0, E0, []⟩ n l G E ((s, v) :: ls))
 (ho : ops[j]? = some ⟨some s, op, ty, pos, af, some (g, want)⟩ := by rfl) (hk : (isDet op && chkO ls op && Nat.blt s n) = true := by kernel_rfl)
 (hg : (ops[g]?).bind (·.dst) = some sg := by rfl) (hi : inLs ls (.tmp sg) = true := by kernel_rfl) (hb : evl ls (.tmp sg) = .bool want := by (simp only [evlN, Nat.reduceEqDiff, ↓reduceIte]) <;> first | rfl | simp [*])
 (hr : ∀ w, (isLd op = true -> Fr S0 w0 w E0) -> (execOp (evl ls) ⟨some s, op, ty, pos, af, some (g, want)⟩).run P w = .ok (.value v') w := by intro w H; (first | (have c := (H rfl).c; try simp only [celN, cl, List.cons_append, List.nil_append] at c) | skip); clear H; go_simp <;> with_reducible rfl) : RWs ⟨P, ops, Q, S0, w0, E0, []⟩ n (j :: l) G E ls :=
 dG k ho hk hg hi hb (by rw [<- hv]; exact hr)
end
theorem Fr.cl {S0 : Nat -> Prop} {w0 w : World} {es : List En} (h : Fr S0 w0 w es) {a : Addr} {v : Value} (hc : w.cell? a = some v) (hS : ∀ e ∈ es, e.wr = false) : Fr S0 w0 w (.cell a v :: es) :=
 h.cons (e := .cell a v) hc (fun e he => ⟨(fun q => nomatch q), fun q => by rw [hS e he] at q; cases q⟩) (fun q => nomatch q)
def diagL (c k : Nat) (xs : List Int) : List Int := (List.range k).map fun i => gi xs (i * c + i)
theorem diagL_length (c k : Nat) (xs : List Int) : (diagL c k xs).length = k := by simp [diagL]
theorem gi_diagL {c k : Nat} {xs : List Int} {i : Nat} (h : i < k) : gi (diagL c k xs) i = gi xs (i * c + i) := by
 rw [gi_eq (by rw [diagL_length]; exact h)]; simp [diagL]
structure L1X where
 i : Nat
 ps : List P4
 zs : List Int
structure L1I (xs : List Int) (c k : Nat) (z : L1X) : Prop where
 hi : z.i <= k
 hp : z.ps.length = k
 hz : z.zs.length = k
 ok : ∀ q, q < z.i -> gi z.zs q = gi xs (q * c + q)
set_option maxRecDepth 100000 in
set_option maxHeartbeats 2000000 in
theorem SList_c (r c : Nat) (ao : Option Addr) (cap L : Nat) (xs : List Int) (w : World) (hr : r <= 64) (hc : c <= 64) (hA : LsAt w L ao xs) (hL : L <= 17592186044415) (hs : xs.length = r * c) :
 Calls Tryz.prog 54 #[.agg #[.int .i64 (r : Int), .int .i64 (c : Int), .slice ao xs.length cap]] w fun e w' => (∃ b, e = .returned (.slice (some ⟨b, 0, none⟩) (min r c) (min r c)) /\ w.heap.size <= b /\ RowN w' b (diagL c (min r c) xs)) /\ Below w.heap.size w w' := by
 have hkr : min r c <= r := Nat.min_le_left ..;have hkc : min r c <= c := Nat.min_le_right ..;have HS0 : Hid (xs.length = r * c) := Lib.hid hs;clear hs;refine funW (S0 := fun _ => False) Tryz.func54 ((Fr.nil _ w).l hA (by simp)) ?_;refine goW ?_;refine rW [] ?_;refine aW fun g1 => ?_;refine dW ?_;refine eW ?_;refine goW ?_;refine rW [] ?_;refine dW ?_;refine dW ?_;refine dW ?_;refine dW ?_;refine dE (minI r c) ?_;obtain ⟨k, hk⟩ : ∃ k, min r c = k := ⟨_, rfl⟩;rw [hk] at hkr hkc ⊢;refine mN k k rfl rfl (Nat.le_refl _) (by omega) fun b => ?_;refine dW ?_;refine eW ?_;refine addW (e := .ns (List.replicate k p0) (List.replicate k 0)) (fun w' _ => NsAt.zeros w' k) ?_;refine goW ?_;refine rW [] ?_;refine dW ?_;refine dW ?_;refine dW ?_;refine eW ?_;refine goW ?_;refine loopW (X := L1X) (L1I xs c k) (fun z => k - z.i) (fun z => [(13, .int .i64 (z.i : Int)), (12, .int .i64 (k : Int)), (1, .pointer (some ⟨g1, 0, none⟩)), (3, .slice (some ⟨b, 0, none⟩) k k)]) (fun z => [.row b 44 (rn z.ps []), .row g1 28 [.int .i64 (r : Int), .int .i64 (c : Int), .slice ao xs.length cap], .ns z.ps z.zs, .ls L ao xs]) ⟨0, List.replicate k p0, List.replicate k 0⟩ ⟨Nat.zero_le _, by simp, by simp, fun q h => absurd h (Nat.not_lt_zero q)⟩ fun z hz => ?_;obtain ⟨i, ps, zs⟩ := z;obtain ⟨hi, hp, hz, hok⟩ := hz
 replace hi : i <= k := hi
 replace hp : ps.length = k := hp
 replace hz : zs.length = k := hz
 replace hok : ∀ q, q < i -> gi zs q = gi xs (q * c + q) := hok
 have HZ : Hid (ps.length = k /\ zs.length = k /\ ∀ q, q < i -> gi zs q = gi xs (q * c + q)) := Lib.hid ⟨hp, hz, hok⟩;have HS : Hid (xs.length = r * c /\ min r c = k) := Lib.hid ⟨HS0.out, hk⟩;clear hp hz hok hk;by_cases h : i < k
 · have h01 : (i : Int) < (k : Int) := by omega
   have hlt := idxL (r := r) (c := c) (i := i) (j := i) (by omega) (by omega);have hrc : r * c <= 4096 := Nat.mul_le_mul hr hc;obtain ⟨bx, ox, rfl⟩ := hA.pos (i := i * c + i) (by rw [HS.out.1]; exact hlt);obtain ⟨A, hA'⟩ : ∃ A, i * c = A := ⟨_, rfl⟩;obtain ⟨B, hB⟩ : ∃ B, A + i = B := ⟨_, rfl⟩;have hBl : B < xs.length := by rw [HS.out.1, <- hB, <- hA']; exact hlt
   have hBl' : (B : Int) < (xs.length : Int) := by omega
   have hAs : i * c < 9223372036854775808 := by omega
   have hgl : A + i < 9223372036854775807 := by omega
   have HAB : Hid (i * c + i = B) := Lib.hid (by rw [hA', hB]);refine goW ?_;refine rW [] ?_;refine dB true ?_;refine eW ?_;refine goW ?_;refine ctW ?_;refine numW (L := L) (xs := xs) (b := bx) (o := ox) B (by simp) hBl fun p => ?_;clear hBl hlt hrc;refine goW ?_;refine rW [] ?_;refine dW ?_;refine dW ?_;refine eW ?_;refine goW ?_;refine rW [] ?_;refine dW ?_;refine dW ?_;refine dW ?_;refine dW ?_;refine dW ?_;refine dW ?_;refine dW ?_;refine dE ((mulI (a := i) (b := c) hAs).trans (by rw [hA'])) ?_;refine dW ?_;refine dE ((sumI (a := A) (b := i) hgl).trans (by rw [hB])) ?_;clear hA' hB hAs;refine dW ?_;refine dW ?_;refine cN (fun w' H => ILeast_c (av p) _ w' (H.m2.mono hL)) fun q => ?_;refine dW ?_;refine moreW (e := .ns (ps.set i q) (zs.set i (gi xs B))) (fun w' H => NsAt.set H.m6 i H.m0.num) ?_;refine sN (ps := ps) i q (by rw [HZ.out.1]; exact h) NoW.nil rfl ?_;refine eW ?_;refine goW ?_;refine rW [] ?_;refine dE (incB (a := i) (by omega)) ?_;refine dW ?_;refine eW ?_;refine goW ?_;refine backW (⟨i + 1, ps.set i q, zs.set i (gi xs B)⟩ : L1X) ⟨⟨h, by simpa using HZ.out.1, by simpa using HZ.out.2.1, fun q hq => ?_⟩, by show k - (i + 1) < k - i; omega⟩;show gi (zs.set i (gi xs B)) q = _;rw [gi_set (by rw [HZ.out.2.1]; exact h)];by_cases e : q = i
   · subst e; rw [if_pos rfl, HAB.out]
   · rw [if_neg e]; exact HZ.out.2.2 q (by have : q < i + 1 := hq; omega)
 · obtain rfl : i = k := by omega
   have hzs : zs = diagL c i xs := by
    refine List.ext_getElem (by rw [HZ.out.2.1, diagL_length]) fun q h1 h2 => ?_;have hq : q < i := by rw [HZ.out.2.1] at h1; exact h1
    have := HZ.out.2.2 q hq;rw [<- gi_diagL hq, gi_eq h1, gi_eq h2] at this; exact this
   subst hzs;refine goW ?_;refine rW [] ?_;refine dB false ?_;refine eW ?_;refine goW ?_;refine cfW ?_;refine goW ?_;refine rW [] ?_;refine dW ?_;refine dW ?_;refine eW ?_;refine goW ?_;refine fin1 fun w' H => ?_;exact ⟨_, rvT, ⟨b, rfl, (H.own _ (List.mem_cons_self ..) rfl _ rfl).elim (fun h => h.elim) id, RowN.mk' H.m0 NoW.nil H.m2⟩, H.below⟩
def IsDg (r c : Nat) (xs : List Int) : Prop := ∀ i j, i < r -> j < c -> i ≠ j -> gi xs (i * c + j) = 0
set_option maxRecDepth 100000 in
set_option maxHeartbeats 2000000 in
theorem SDiag_c (r c : Nat) (ao : Option Addr) (cap L : Nat) (xs : List Int) (w : World) (hr : r <= 64) (hc : c <= 64) (hA : LsAt w L ao xs) (hL : L <= 17592186044415) (hs : xs.length = r * c) (hd : IsDg r c xs) :
 Calls Tryz.prog 51 #[.agg #[.int .i64 (r : Int), .int .i64 (c : Int), .slice ao xs.length cap]] w fun e w' => e = .returned (.bool true) /\ Below w.heap.size w w' := by
 have HD : Hid (IsDg r c xs /\ xs.length = r * c) := Lib.hid ⟨hd, hs⟩;clear hd hs;refine funW (S0 := fun _ => False) Tryz.func51 ((Fr.nil _ w).l hA (by simp)) ?_;refine goW ?_;refine rW [] ?_;refine aW fun g1 => ?_;refine dW ?_;refine eW ?_;refine goW ?_;refine rW [] ?_;refine dW ?_;refine dW ?_;refine dW ?_;refine eW ?_;refine goW ?_;refine loopW (X := Nat) (fun i => i <= r) (fun i => r - i) (fun i => [(7, .int .i64 (i : Int)), (6, .int .i64 (r : Int)), (1, .pointer (some ⟨g1, 0, none⟩))]) (fun _ => [.row g1 28 [.int .i64 (r : Int), .int .i64 (c : Int), .slice ao xs.length cap], .ls L ao xs]) 0 (Nat.zero_le _) fun i hi => ?_;by_cases h : i < r
 · have h01 : (i : Int) < (r : Int) := by omega
   refine goW ?_;refine rW [] ?_;refine dB true ?_;refine eW ?_;refine goW ?_;refine ctW ?_;refine goW ?_;refine rW [] ?_;refine dW ?_;refine dW ?_;refine eW ?_;refine goW ?_;refine rW [] ?_;refine dW ?_;refine dW ?_;refine dW ?_;refine eW ?_;refine goW ?_;refine loopW (X := Nat) (fun j => j <= c) (fun j => c - j) (fun j => [(12, .int .i64 (j : Int)), (11, .int .i64 (c : Int)), (7, .int .i64 (i : Int)), (6, .int .i64 (r : Int)), (3, .int .i64 (i : Int)), (1, .pointer (some ⟨g1, 0, none⟩))]) (fun _ => [.row g1 28 [.int .i64 (r : Int), .int .i64 (c : Int), .slice ao xs.length cap], .ls L ao xs]) 0 (Nat.zero_le _) fun j hj => ?_;by_cases h' : j < c
   · have h02 : (j : Int) < (c : Int) := by omega
     have hlt := idxL h h';have hrc : r * c <= 4096 := Nat.mul_le_mul hr hc;obtain ⟨bx, ox, rfl⟩ := hA.pos (i := i * c + j) (by rw [HD.out.2]; exact hlt);obtain ⟨A, hA'⟩ : ∃ A, i * c = A := ⟨_, rfl⟩;obtain ⟨B, hB⟩ : ∃ B, A + j = B := ⟨_, rfl⟩;have hBl : B < xs.length := by rw [HD.out.2, <- hB, <- hA']; exact hlt
     have hBl' : (B : Int) < (xs.length : Int) := by omega
     have hAs : i * c < 9223372036854775808 := by omega
     have hz : i ≠ j -> zsign (gi xs B) = 0 := fun e => by rw [<- hB, <- hA', HD.out.1 i j h h' e]; rfl
     have hgl : A + j < 9223372036854775807 := by omega
     refine goW ?_;refine rW [] ?_;refine dB true ?_;refine eW ?_;refine goW ?_;refine ctW ?_;refine numW (L := L) (xs := xs) (b := bx) (o := ox) B (by simp) hBl fun p => ?_;clear hBl hlt hrc;refine goW ?_;refine rW [] ?_;refine dW ?_;refine dW ?_;refine eW ?_;refine goW ?_;refine rW [] ?_;refine dW ?_;refine dW ?_;rcases Decidable.em (i = j) with e | e
     case' inl =>
      refine dB false ?_;refine dW ?_;refine uG ?_;refine uG ?_;refine uG ?_;refine uG ?_;refine uG ?_;refine uG ?_;refine uG ?_;refine uG ?_;refine uG ?_;refine uG ?_;refine uC ?_;refine uG ?_;refine dW ?_
     case' inr =>
      have hz := hz e;refine dB true ?_;refine dW ?_;refine dG ?_;refine dG ?_;refine dG ?_;refine dG ?_;refine dG ?_;refine dGE ((mulI (a := i) (b := c) hAs).trans (by rw [hA'])) ?_;refine dG ?_;refine dGE ((sumI (a := A) (b := j) hgl).trans (by rw [hB])) ?_;refine dG ?_;refine dG ?_;refine cVg (fun w' H => ISign_c (av p) _ w' (H.m2.mono hL)) ?_;refine dGB false ?_;refine dW ?_
     all_goals
      refine eW ?_;refine goW ?_;refine cfW ?_;refine goW ?_;refine rW [] ?_;refine dE (incB (a := j) (by omega)) ?_;refine dW ?_;refine eW ?_;refine goW ?_;exact backW (j + 1) ⟨h', by show c - (j + 1) < c - j; omega⟩
   · obtain rfl : j = c := by omega
     refine goW ?_;refine rW [] ?_;refine dB false ?_;refine eW ?_;refine goW ?_;refine cfW ?_;refine goW ?_;refine rW [] ?_;refine dE (incB (a := i) (by omega)) ?_;refine dW ?_;refine eW ?_;refine goW ?_;exact backW (i + 1) ⟨h, by show r - (i + 1) < r - i; omega⟩
 · obtain rfl : i = r := by omega
   refine goW ?_;refine rW [] ?_;refine dB false ?_;refine eW ?_;refine goW ?_;refine cfW ?_;refine goW ?_;refine rW [] ?_;refine dW ?_;refine eW ?_;refine goW ?_;refine fin1 fun w' H => ?_;exact ⟨_, rvT, rfl, H.below⟩
end Go.Proofs.YtajmkebkgmbfnaaGreat
namespace Go.Proofs.YtajmkebkgmbfnaaGreat
def tabK (c : Nat) (f : Nat -> Nat -> Int) (k : Nat) : List Int := (List.range k).map fun q => f (q / c) (q % c)
theorem tabK_succ {c i j : Nat} (f : Nat -> Nat -> Int) (hj : j < c) : tabK c f (i * c + j + 1) = tabK c f (i * c + j) ++ [f i j] := by
 have h1 : (i * c + j) / c = i := by rw [Nat.mul_comm, Nat.mul_add_div (by omega), Nat.div_eq_of_lt hj]; rfl
 have h2 : (i * c + j) % c = j := by rw [Nat.mul_comm, Nat.mul_add_mod, Nat.mod_eq_of_lt hj]
 unfold tabK;rw [List.range_succ, List.map_append];simp [h1, h2]
end Go.Proofs.YtajmkebkgmbfnaaGreat
namespace Go.Proofs.YtajmkebkgmbfnaaGreat
open Go.RowKit
def diagF (xs : List Int) (i j : Nat) : Int := if i = j /\ i < xs.length then gi xs i else 0
set_option maxRecDepth 100000 in
set_option maxHeartbeats 1000000 in
theorem Diag1_c (i j g : Nat) (la : Option Addr) (cap L : Nat) (xs : List Int) (w : World) (hg : w.cell? ⟨g, 0, none⟩ = some (.slice la xs.length cap)) (hA : LsAt w L la xs) (hL : L <= 17592186044415) :
 Calls Tryz.prog 110 #[.int .i64 (i : Int), .int .i64 (j : Int), .pointer (some ⟨g, 0, none⟩)] w fun e w' => (∃ v, e = .returned v /\ OwnI w' w.heap.size v (diagF xs i j)) /\ Below w.heap.size w w' := by
 refine funW (S0 := fun _ => False) Tryz.func110 (((Fr.nil _ w).l hA (by simp)).cl hg (by simp [En.wr])) ?_;refine goW ?_;refine rW [] ?_;refine aW fun g5 => ?_;refine eW ?_;by_cases h : i = j /\ i < xs.length
 · obtain ⟨rfl, h2⟩ := h;have e0 : diagF xs i i = gi xs i := by rw [diagF, if_pos ⟨rfl, h2⟩]
   rw [e0];obtain ⟨bx, ox, rfl⟩ := hA.pos h2;refine goW ?_;refine rW [] ?_;refine dW ?_;refine dW ?_;refine dB true ?_;refine dW ?_;refine dG ?_;refine dG ?_;refine dG ?_;refine dGB true ?_;refine dW ?_;refine eW ?_;refine goW ?_;refine ctW ?_;refine numW (L := L) (xs := xs) (b := bx) (o := ox) i (by simp) h2 fun p => ?_;refine goW ?_;refine rW [] ?_;refine dW ?_;refine dW ?_;refine dW ?_;refine dW ?_;refine cN (fun w' H => ILeast_c (av p) _ w' (H.m2.mono hL)) fun q => ?_;refine sW ?_;refine eW ?_;refine goW ?_;refine fin1 fun w' H => ?_;exact ⟨_, rvI H.m4, ⟨_, rfl, H.m0⟩, H.below⟩
 · have e0 : diagF xs i j = 0 := by rw [diagF, if_neg h]
   rw [e0];refine goW ?_;refine rW [] ?_;refine dW ?_;refine dW ?_;rcases Decidable.em (i = j) with e | e
   case' inl =>
    have hlt : ¬ i < xs.length := fun q => h ⟨e, q⟩;subst e;clear h;refine dB true ?_;refine dW ?_;refine dG ?_;refine dG ?_;refine dG ?_;refine dGB false ?_
   case' inr =>
    clear h;refine dB false ?_;refine dW ?_;refine uG ?_;refine uG ?_;refine uG ?_;refine uG ?_
   all_goals
    refine dW ?_;refine eW ?_;refine goW ?_;refine cfW ?_;refine goW ?_;refine rW [] ?_;refine dW ?_;refine sW ?_;refine eW ?_;refine goW ?_;refine fin1 fun w' H => ?_;exact ⟨_, rvI H.m0, ⟨_, rfl, OwnI.zero _ _⟩, H.below⟩
theorem mkLst {P : Program} {Q : Exit -> Act -> World -> Prop} {S0 : Nat -> Prop} {w0 : World} {n b N : Nat} {ls : List (Nat × Value)} {es : List En} {c : Code} (k : CW P n S0 w0 c Q ls (.lst (some ⟨b, 0, none⟩) 0 N [] :: es)) : CW P n S0 w0 c Q ls (.row b 44 (rn (List.replicate N p0) []) :: es) := fun a w ha hw =>
 k a w ha (hw.conv (fun hr => ⟨rfl, Nat.zero_le _, .inr ⟨b, rn (List.replicate N p0) [], rfl, NoW.rn NoW.nil, hr, by show (rn (List.replicate N p0) []).length = _; rw [rn, List.append_nil, flat_length]; simp; omega⟩⟩) (fun g ⟨o, e⟩ => by cases e; rfl) (fun _ => rfl))
structure B1X where
 i : Nat
 K : Nat
 ao : Option Addr
 cap : Nat
 ps : List P4
structure B1I (r c : Nat) (z : B1X) : Prop where
 hi : z.i <= r
 hK : z.i * c = z.K
structure B2X where
 j : Nat
 K : Nat
 ao : Option Addr
 cap : Nat
 ps : List P4
structure B2I (c i : Nat) (z : B2X) : Prop where
 hj : z.j <= c
 hK : i * c + z.j = z.K
set_option maxRecDepth 100000 in
set_option maxHeartbeats 4000000 in
theorem BuildD_c (r c g : Nat) (f : Nat -> Nat -> Int) (w : World) (hr : r <= 64) (hc : c <= 64)
 (hf : ∀ (i j : Nat) (w' : World), i < r -> j < c -> Below w.heap.size w w' -> Calls Tryz.prog 110 #[.int .i64 (i : Int), .int .i64 (j : Int), .pointer (some ⟨g, 0, none⟩)] w' fun e w'' => (∃ v, e = .returned v /\ OwnI w'' w'.heap.size v (f i j)) /\ Below w'.heap.size w' w'') :
 Calls Tryz.prog 109 #[.int .i64 (r : Int), .int .i64 (c : Int), .func (.func 110) #[] #[.pointer (some ⟨g, 0, none⟩)]] w fun e w' => (∃ ao cap, e = .returned (.agg #[.int .i64 (r : Int), .int .i64 (c : Int), .slice ao (r * c) cap]) /\ LsN w' ao (tabK c f (r * c)) /\ r * c <= cap /\ ∀ b o, ao = some ⟨b, o, none⟩ -> w.heap.size <= b) /\ Below w.heap.size w w' := by
 have hnc : r * c <= 4096 := Nat.mul_le_mul hr hc;have hms : r * c < 9223372036854775808 := by omega
 refine funW (S0 := fun _ => False) Tryz.func109 (Fr.nil _ w) ?_;refine goW ?_;refine rW [] ?_;refine aW fun g6 => ?_;refine eW ?_;refine goW ?_;refine rW [] ?_;refine dW ?_;refine dW ?_;refine dW ?_;refine dW ?_;refine dE (mulI (a := r) (b := c) hms) ?_;obtain ⟨N, hN⟩ : ∃ N, r * c = N := ⟨_, rfl⟩;rw [hN] at hnc ⊢;have HN : Hid (r * c = N) := Lib.hid hN;clear hms hN;refine mN 0 N rfl rfl (Nat.zero_le _) (by omega) fun b => ?_;refine dW ?_;refine aW fun g7 => ?_;refine sG ?_;refine eW ?_;refine pickW (es' := [.row b 44 (rn (List.replicate N p0) []), .row g7 28 [.int .i64 (r : Int), .int .i64 (c : Int), .slice (some ⟨b, 0, none⟩) 0 N], .row g6 28 [.int .i64 0, .int .i64 0, .slice none 0 0]]) ?_;refine mkLst ?_;refine addW (e := .ns [] (tabK c f 0)) (fun w' _ => NsAt.nil w') ?_;refine pickW (es' := [.row g7 28 [.int .i64 (r : Int), .int .i64 (c : Int), .slice (some ⟨b, 0, none⟩) 0 N], .row g6 28 [.int .i64 0, .int .i64 0, .slice none 0 0], .lst (some ⟨b, 0, none⟩) 0 N [], .ns [] (tabK c f 0)]) ?_;refine goW ?_;refine rW [] ?_;refine dW ?_;refine dW ?_;refine eW ?_;refine goW ?_;refine loopW (X := B1X) (B1I r c) (fun z => r - z.i) (fun z => [(18, .int .i64 (z.i : Int)), (17, .int .i64 (r : Int)), (1, .int .i64 (c : Int)), (2, .func (.func 110) #[] #[.pointer (some ⟨g, 0, none⟩)]), (7, .pointer (some ⟨g7, 0, none⟩)), (6, .pointer (some ⟨g6, 0, none⟩))])
  (fun z => [.row g7 28 [.int .i64 (r : Int), .int .i64 (c : Int), .slice z.ao z.K z.cap], .row g6 28 [.int .i64 0, .int .i64 0, .slice none 0 0], .lst z.ao z.K z.cap z.ps, .ns z.ps (tabK c f z.K)]) ⟨0, 0, some ⟨b, 0, none⟩, N, []⟩ ⟨Nat.zero_le _, Nat.zero_mul _⟩ fun z hz => ?_
 obtain ⟨i, K, ao, cap, ps⟩ := z;obtain ⟨hi, hK⟩ := hz
 replace hi : i <= r := hi
 replace hK : i * c = K := hK
 by_cases h : i < r
 · have h01 : (i : Int) < (r : Int) := by omega
   have HK : Hid (i * c + 0 = K) := Lib.hid hK;clear hK;refine goW ?_;refine rW [] ?_;refine dB true ?_;refine eW ?_;refine goW ?_;refine ctW ?_;refine goW ?_;refine rW [] ?_;refine dW ?_;refine dW ?_;refine eW ?_;refine goW ?_;refine rW [] ?_;refine dW ?_;refine dW ?_;refine eW ?_;refine goW ?_;refine loopW (X := B2X) (B2I c i) (fun z => c - z.j) (fun z => [(22, .int .i64 (z.j : Int)), (21, .int .i64 (c : Int)), (8, .int .i64 (i : Int)), (18, .int .i64 (i : Int)), (17, .int .i64 (r : Int)), (1, .int .i64 (c : Int)), (2, .func (.func 110) #[] #[.pointer (some ⟨g, 0, none⟩)]), (7, .pointer (some ⟨g7, 0, none⟩)), (6, .pointer (some ⟨g6, 0, none⟩))])
    (fun z => [.row g7 28 [.int .i64 (r : Int), .int .i64 (c : Int), .slice z.ao z.K z.cap], .row g6 28 [.int .i64 0, .int .i64 0, .slice none 0 0], .lst z.ao z.K z.cap z.ps, .ns z.ps (tabK c f z.K)]) ⟨0, K, ao, cap, ps⟩ ⟨Nat.zero_le _, HK.out⟩ fun z hz => ?_
   clear HK;obtain ⟨j, K, ao, cap, ps⟩ := z;obtain ⟨hj, hK⟩ := hz
   replace hj : j <= c := hj
   replace hK : i * c + j = K := hK
   by_cases h' : j < c
   · have h02 : (j : Int) < (c : Int) := by omega
     have hlt := idxL h h';have ht := tabK_succ (i := i) f h';have hKN : K <= 100000000 := by have := HN.out; omega
     rw [hK] at ht;have HT : Hid (tabK c f (K + 1) = tabK c f K ++ [f i j] /\ i * c + j = K) := Lib.hid ⟨ht, hK⟩;clear ht hK hlt;refine goW ?_;refine rW [] ?_;refine dB true ?_;refine eW ?_;refine goW ?_;refine ctW ?_;refine goW ?_;refine rW [] ?_;refine dW ?_;refine dW ?_;refine eW ?_;refine goW ?_;refine rW [] ?_;refine dW ?_;refine dW ?_;refine dW ?_;refine dW ?_;refine dW ?_;refine cN (fun w' H => hf i j w' h h' H.below) fun q => ?_;refine bW (m := 1) fun g31 => ?_;refine moreW (e := .ns (ps ++ [q]) (tabK c f (K + 1))) (fun w' H => by rw [HT.out.1]; exact NsAt.snoc H.m5 H.m1.num) ?_;refine appN (g := g31) (t := 44) (c := 1) (ao := ao) (k := K) (cap := cap) (ps := ps) q hKN (by simp) fun z => ?_;refine dW ?_;refine sW ?_;refine eW ?_;refine goW ?_;refine rW [] ?_;refine dE (incB (a := j) (by omega)) ?_;refine dW ?_;refine eW ?_;refine goW ?_;exact backW (⟨j + 1, K + 1, z.1, z.2, ps ++ [q]⟩ : B2X) ⟨⟨h', by show i * c + (j + 1) = K + 1; have := HT.out.2; omega⟩, by show c - (j + 1) < c - j; omega⟩
   · obtain rfl : j = c := by omega
     have HK : Hid ((i + 1) * j = K) := Lib.hid (by rw [Nat.succ_mul]; exact hK);clear hK;refine goW ?_;refine rW [] ?_;refine dB false ?_;refine eW ?_;refine goW ?_;refine cfW ?_;refine goW ?_;refine rW [] ?_;refine dE (incB (a := i) (by omega)) ?_;refine dW ?_;refine eW ?_;refine goW ?_;exact backW (⟨i + 1, K, ao, cap, ps⟩ : B1X) ⟨⟨h, HK.out⟩, by show r - (i + 1) < r - i; omega⟩
 · obtain rfl : i = r := by omega
   obtain rfl : K = N := by rw [<- hK]; exact HN.out
   clear hK;refine goW ?_;refine rW [] ?_;refine dB false ?_;refine eW ?_;refine goW ?_;refine cfW ?_;refine goW ?_;refine rW [] ?_;refine dW ?_;refine sW ?_;refine eW ?_;refine goW ?_;refine fin1 fun w' H => ?_;exact ⟨_, rvM H.m1, ⟨ao, cap, rfl, lst_lsN H.m2 H.m3, (show LstF ao K cap ps w' from H.m2).2.1, fun b o e => (H.own (.lst ao K cap ps) (by simp) rfl b ⟨o, e⟩).elim (fun h => h.elim) id⟩, H.below⟩
abbrev En.pr (A : Prop) : En := .fact false false (fun _ => False) (fun _ => A) (fun _ _ h => h.elim) (fun h _ _ _ => h)
theorem prW {A : Prop} {P : Program} {Q : Exit -> Act -> World -> Prop} {S0 : Nat -> Prop} {w0 : World} {n : Nat} {ls : List (Nat × Value)} {es : List En} {c : Code} (hm : En.pr A ∈ es) (k : A -> CW P n S0 w0 c Q ls es) : CW P n S0 w0 c Q ls es := fun a w ha hw => k (hw.all _ hm) a w ha hw
section
variable {P : Program} {ops : Array Oper} {Q : Exit -> Act -> World -> Prop} {S0 : Nat -> Prop} {w0 : World} {E0 : List En} {hd : List (List Nat)} {n j s : Nat} {l : List Nat} {G E : List En} {ls : List (Nat × Value)} {op : Op} {ty : TypeId} {pos : String} {af : Array Edge} {v : Value} {f : FuncId} {args : Array Value}
theorem fW (k : RWs ⟨P, ops, Q, S0, w0, E0, hd⟩ n l G E ((s, v) :: ls))
 (ho : ops[j]? = some ⟨some s, op, ty, pos, af, none⟩ := by rfl) (hk : (!isDet op && !isNew op && chkO ls op && Nat.blt s n) = true := by kernel_rfl)
 (hr : ∀ w, (execOp (evl ls) ⟨some s, op, ty, pos, af, none⟩).run P w = .ok (.value v) w := by intro w; (try simp only [av]); go_simp <;> with_reducible rfl)
 (hst : okSt ops hd j [] = true := by kernel_rfl) : RWs ⟨P, ops, Q, S0, w0, E0, hd⟩ n (j :: l) G E ls := fun a ha => by
 simp only [Bool.and_eq_true, Bool.not_eq_true'] at hk;refine ⟨_, ho, .inr (.inr ⟨hk.1.1.1, hk.1.1.2, Unit, fun _ => v, fun _ => G, fun _ => E, [], ⟨()⟩, fun X w hX hw => ?_, hst, fun _ _ _ => rfl, fun _ => k _ (ha.put (Nat.le_of_ble_eq_true hk.2) _)⟩)⟩;refine ifw rfl ?_;show wpR P _ ((execOp a.eval _).run P w);rw [ha.exec hk.1.2, hr w];exact ⟨(), rfl, hw⟩
theorem cLn {α : Type} {mk : α -> Value} {ao : α -> Option Addr} {xs : α -> List Int} {A : α -> Prop} (c : ∀ w, Fr S0 w0 w (G ++ E) -> Calls P f args w fun e w' => (∃ p, e = .returned (mk p) /\ LsN w' (ao p) (xs p) /\ A p /\ ∀ b o, ao p = some ⟨b, o, none⟩ -> w.heap.size <= b) /\ Below w.heap.size w w')
 (k : ∀ p, RWs ⟨P, ops, Q, S0, w0, E0, hd⟩ n l (.lsn (ao p) (xs p) :: .pr (A p /\ ∀ b o, ao p = some ⟨b, o, none⟩ -> w0.heap.size <= b) :: G) E ((s, mk p) :: ls))
 (ho : ops[j]? = some ⟨some s, op, ty, pos, af, none⟩ := by rfl) (hk : (!isDet op && !isNew op && chkO ls op && Nat.blt s n) = true := by kernel_rfl)
 (hr : ∀ w, (execOp (evl ls) ⟨some s, op, ty, pos, af, none⟩).run P w = .ok (.enter f args) w := by intro w; (try simp only [av]); go_simp <;> with_reducible rfl) (hne : Nonempty α := by infer_instance)
 (hst : okSt ops hd j [] = true := by kernel_rfl) : RWs ⟨P, ops, Q, S0, w0, E0, hd⟩ n (j :: l) G E ls := by
 refine cG (mk := mk) (ens := fun p => [.lsn (ao p) (xs p), .pr (A p /\ ∀ b o, ao p = some ⟨b, o, none⟩ -> w0.heap.size <= b)]) (fun w hw => (c w hw).mono ?_) k ho hk hr hne hst;rintro e w' ⟨⟨p, rfl, hl, hA, hS⟩, hb⟩;exact ⟨p, rfl, hb, fun e he => by
  rcases List.mem_cons.1 he with rfl | he
  · exact ⟨hl, fun b ⟨_, o, e⟩ => hS b o e⟩
  · rcases List.mem_singleton.1 he with rfl;exact ⟨⟨hA, fun b o e => Nat.le_trans hw.size (hS b o e)⟩, fun _ h => h.elim⟩, List.pairwise_pair.2 ⟨(fun h => nomatch h), (fun h => nomatch h)⟩⟩
end
set_option maxRecDepth 100000 in
set_option maxHeartbeats 2000000 in
theorem MDiag_c (r c : Nat) (la : Option Addr) (cap L : Nat) (xs : List Int) (w : World) (hr : r <= 64) (hc : c <= 64) (hx : xs.length <= min r c) (hA : LsAt w L la xs) (hL : L <= 17592186044415) :
 Calls Tryz.prog 53 #[.int .i64 (r : Int), .int .i64 (c : Int), .slice la xs.length cap] w fun e w' => (∃ p : Option Addr × Nat, e = .returned (.tuple #[.agg #[.int .i64 (r : Int), .int .i64 (c : Int), .slice p.1 (r * c) p.2], .int .i64 0]) /\ LsN w' p.1 (tabK c (diagF xs) (r * c)) /\ True /\ ∀ b o, p.1 = some ⟨b, o, none⟩ -> w.heap.size <= b) /\ Below w.heap.size w w' := by
 have s1 : sideOk (r : Int) = true := by unfold sideOk; simp; omega
 have s2 : sideOk (c : Int) = true := by unfold sideOk; simp; omega
 have hS1 : ∀ w', Calls Tryz.prog 108 #[.int .i64 (r : Int)] w' fun e w'' => e = .returned (.bool true) /\ Below w'.heap.size w' w'' := fun w' => (side_c r w').mono fun e w'' ⟨h1, h2⟩ => ⟨by rw [h1, s1], h2 ▸ Below.refl _ _⟩;have hS2 : ∀ w', Calls Tryz.prog 108 #[.int .i64 (c : Int)] w' fun e w'' => e = .returned (.bool true) /\ Below w'.heap.size w' w'' := fun w' => (side_c c w').mono fun e w'' ⟨h1, h2⟩ => ⟨by rw [h1, s2], h2 ▸ Below.refl _ _⟩;clear s1 s2;refine funW (S0 := fun _ => False) Tryz.func53 ((Fr.nil _ w).l hA (by simp)) ?_;refine goW ?_;refine rW [] ?_;refine aW fun g5 => ?_;refine aW fun g6 => ?_;refine dW ?_;refine eW ?_;refine goW ?_;refine rW [] ?_;refine dW ?_;refine cV (fun w' H => hS1 w') ?_;refine dW ?_;refine dW ?_;refine dG ?_;refine cVg (fun w' H => hS2 w') ?_;refine dG ?_;refine dW ?_;refine eW ?_;refine goW ?_;refine cfW ?_;refine goW ?_;refine rW [] ?_;refine dW ?_;refine dW ?_;refine dW ?_;refine dW ?_;refine dE (minI r c) ?_;obtain ⟨k, hk⟩ : ∃ k, min r c = k := ⟨_, rfl⟩;rw [hk] at hx ⊢;clear hk;refine dB false ?_;refine eW ?_;refine goW ?_;refine cfW ?_;refine goW ?_;refine rW [] ?_;refine dW ?_;refine dW ?_;refine fW ?_;refine cLn (α := Option Addr × Nat) (mk := fun p => .agg #[.int .i64 (r : Int), .int .i64 (c : Int), .slice p.1 (r * c) p.2]) (ao := fun p => p.1) (xs := fun _ => tabK c (diagF xs) (r * c)) (A := fun _ => True)
  (fun w' H => (BuildD_c r c g5 (diagF xs) w' hr hc (fun i j w2 hi hj hb => by
   have h1 : RowAt w' g5 22 [.slice la xs.length cap] := H.m1;have h2 : LsAt w' L la xs := H.m2;exact Diag1_c i j g5 la cap L xs w2 ((h1.below hb h1.lt).cell 0) (h2.below hb) hL)).mono (by
    rintro e w3 ⟨⟨ao, cap', rfl, hl, _, hS⟩, hb⟩;exact ⟨⟨(ao, cap'), rfl, hl, trivial, hS⟩, hb⟩)) fun q => ?_
 refine sW ?_;refine dW ?_;refine eW ?_;refine goW ?_;refine fin2 fun w' H => ?_;exact ⟨_, _, rvM H.m2, rvT, ⟨q, rfl, H.m0, trivial, (show True /\ ∀ b o, q.1 = some ⟨b, o, none⟩ -> w.heap.size <= b from H.m1).2⟩, H.below⟩
end Go.Proofs.YtajmkebkgmbfnaaGreat
namespace Go.Proofs.YtajmkebkgmbfnaaGreat
def chPass : Nat -> List Nat -> Nat × List Nat
 | g, [] => (g, [])
 | g, y :: l => ((chPass (Nat.gcd g y) l).1, Nat.lcm g y :: (chPass (Nat.gcd g y) l).2)
theorem chPass_length : ∀ (l : List Nat) (g : Nat), (chPass g l).2.length = l.length
 | [], _ => rfl
 | y :: l, g => by simp [chPass, chPass_length l]
def chProg : List Nat -> List Nat
 | [] => []
 | x :: l => (chPass x l).1 :: chProg (chPass x l).2
termination_by l => l.length
decreasing_by simp [chPass_length]
def chPut : Nat -> List Nat -> List Nat
 | x, [] => [x]
 | x, c :: cs => Nat.gcd c x :: chPut (Nat.lcm c x) cs
def chRef (l : List Nat) : List Nat := l.foldl (fun c x => chPut x c) []
theorem chPass_append : ∀ (l : List Nat) (g x : Nat), chPass g (l ++ [x]) = (Nat.gcd (chPass g l).1 x, (chPass g l).2 ++ [Nat.lcm (chPass g l).1 x])
 | [], g, x => by simp [chPass]
 | y :: l, g, x => by
  simp only [List.cons_append, chPass, chPass_append l (Nat.gcd g y) x]
theorem chProg_append : ∀ (n : Nat) (l : List Nat) (x : Nat), l.length = n -> chProg (l ++ [x]) = chPut x (chProg l) := by
 intro n;induction n with
 | zero =>
  intro l x h;obtain rfl := List.eq_nil_of_length_eq_zero h;simp [chProg, chPass, chPut]
 | succ n ih =>
  intro l x h;cases l with
  | nil => simp at h
  | cons y l =>
   rw [List.cons_append, chProg, chPass_append, chProg];simp only [chPut];rw [ih (chPass y l).2 _ (by rw [chPass_length]; simpa using h)]
theorem chProg_ref (l : List Nat) : chProg l = chRef l := by
 have key : ∀ n (l : List Nat), l.length = n -> chProg l = chRef l := by
  intro n;induction n with
  | zero => intro l h; obtain rfl := List.eq_nil_of_length_eq_zero h; simp [chProg, chRef]
  | succ n ih =>
   intro l h;have hne : l ≠ [] := by intro e; subst e; simp at h
   have e := List.dropLast_concat_getLast hne;have hl : l.dropLast.length = n := by simp [h]
   rw [<- e, chProg_append _ _ _ rfl, ih _ hl];simp [chRef, List.foldl_append]
 exact key _ l rfl
def chFin (pre : List Nat) (g : Nat) (mid suf : List Nat) : List Nat := pre ++ (chPass g suf).1 :: chProg (mid ++ (chPass g suf).2)
theorem chFin_start (pre : List Nat) (x : Nat) (l : List Nat) : chFin pre x [] l = pre ++ chProg (x :: l) := by rw [chFin, chProg]; rfl
theorem chFin_step (pre : List Nat) (g y : Nat) (mid suf : List Nat) : chFin pre (Nat.gcd g y) (mid ++ [Nat.lcm g y]) suf = chFin pre g mid (y :: suf) := by simp [chFin, chPass]
theorem chFin_end (pre : List Nat) (g : Nat) (mid : List Nat) : chFin pre g mid [] = (pre ++ [g]) ++ chProg mid := by simp [chFin, chPass]
def prodNZ : List Nat -> Nat
 | [] => 1
 | x :: l => (if x = 0 then 1 else x) * prodNZ l
def Dv (P x : Nat) : Prop := x = 0 ∨ x ∣ P
theorem prodNZ_pos : ∀ l : List Nat, 0 < prodNZ l
 | [] => Nat.one_pos
 | x :: l => Nat.mul_pos (by split <;> omega) (prodNZ_pos l)
theorem Dv.of_mem : ∀ {l : List Nat} {x : Nat}, x ∈ l -> Dv (prodNZ l) x
 | y :: l, x, h => by
  rcases List.mem_cons.1 h with rfl | h
  · by_cases h0 : x = 0
    · exact .inl h0
    · rw [prodNZ, if_neg h0]; exact .inr (Nat.dvd_mul_right ..)
  · rcases Dv.of_mem h with h0 | h0
    · exact .inl h0
    · exact .inr (Nat.dvd_trans h0 (Nat.dvd_mul_left ..))
theorem Dv.gcd {P x y : Nat} (h : Dv P x) (k : Dv P y) : Dv P (Nat.gcd x y) := by
 rcases h with rfl | h
 · rw [Nat.gcd_zero_left]; exact k
 · exact .inr (Nat.dvd_trans (Nat.gcd_dvd_left ..) h)
theorem Dv.lcm {P x y : Nat} (h : Dv P x) (k : Dv P y) : Dv P (Nat.lcm x y) := by
 rcases h with rfl | h
 · rw [Nat.lcm_zero_left]; exact .inl rfl
 · rcases k with rfl | k
   · rw [Nat.lcm_zero_right]; exact .inl rfl
   · exact .inr (Nat.lcm_dvd h k)
theorem Dv.le {P x : Nat} (hP : 0 < P) (h : Dv P x) : x <= P := by
 rcases h with rfl | h
 · omega
 · exact Nat.le_of_dvd hP h
theorem prodNZ_lt (L : Nat) : ∀ l : List Nat, (∀ x ∈ l, x < W ^ L) -> prodNZ l <= W ^ (L * l.length)
 | [], _ => by simp [prodNZ]
 | x :: l, h => by
  have h1 := prodNZ_lt L l fun y hy => h y (List.mem_cons_of_mem _ hy);have h2 := h x (List.mem_cons_self ..);rw [prodNZ, List.length_cons, Nat.mul_succ, Nat.pow_add, Nat.mul_comm (W ^ (L * l.length))];refine Nat.mul_le_mul ?_ h1;split <;> omega
theorem chRef_take {l : List Nat} {i : Nat} (h : i < l.length) : chRef (l.take (i + 1)) = chPut (l.getD i 0) (chRef (l.take i)) := by
 have e : l.take (i + 1) = l.take i ++ [l.getD i 0] := by
  rw [List.take_add_one, List.getElem?_eq_getElem h]; simp [h]
 rw [chRef, e, List.foldl_append]; rfl
theorem chRef_length : ∀ l : List Nat, (chRef l).length = l.length := fun l => by
 rw [<- chProg_ref];have key : ∀ n (l : List Nat), l.length = n -> (chProg l).length = n := by
  intro n;induction n with
  | zero => intro l h; obtain rfl := List.eq_nil_of_length_eq_zero h; simp [chProg]
  | succ n ih =>
   intro l h;cases l with
   | nil => simp at h
   | cons x l =>
    rw [chProg, List.length_cons, ih (chPass x l).2 (by rw [chPass_length]; simpa using h)]
 exact key _ l rfl
theorem chPass_dv {P : Nat} : ∀ (l : List Nat) (g : Nat), Dv P g -> (∀ y ∈ l, Dv P y) -> Dv P (chPass g l).1 /\ ∀ y ∈ (chPass g l).2, Dv P y
 | [], g, hg, _ => ⟨hg, fun y hy => by cases hy⟩
 | x :: l, g, hg, h => by
  have hx := h x (List.mem_cons_self ..);obtain ⟨h1, h2⟩ := chPass_dv l (Nat.gcd g x) (hg.gcd hx) fun y hy => h y (List.mem_cons_of_mem _ hy);refine ⟨h1, fun y hy => ?_⟩;rcases List.mem_cons.1 hy with rfl | hy
  · exact hg.lcm hx
  · exact h2 y hy
theorem chProg_dv {P : Nat} {l : List Nat} (h : ∀ y ∈ l, Dv P y) : ∀ y ∈ chProg l, Dv P y := by
 have key : ∀ n (l : List Nat), l.length = n -> (∀ y ∈ l, Dv P y) -> ∀ y ∈ chProg l, Dv P y := by
  intro n;induction n with
  | zero => intro l h; obtain rfl := List.eq_nil_of_length_eq_zero h; simp [chProg]
  | succ n ih =>
   intro l h hd;cases l with
   | nil => simp at h
   | cons x l =>
    obtain ⟨h1, h2⟩ := chPass_dv l x (hd x (List.mem_cons_self ..)) fun y hy => hd y (List.mem_cons_of_mem _ hy);intro y hy;rw [chProg] at hy;rcases List.mem_cons.1 hy with rfl | hy
    · exact h1
    · exact ih _ (by rw [chPass_length]; simpa using h) h2 y hy
 exact key _ l rfl h
end Go.Proofs.YtajmkebkgmbfnaaGreat
namespace Go.Proofs.YtajmkebkgmbfnaaGreat
open Go.RowKit
def nt (l : List Nat) : List Int := l.map fun n : Nat => (n : Int)
theorem nt_length (l : List Nat) : (nt l).length = l.length := by simp [nt]
theorem gi_nt (l : List Nat) (i : Nat) : gi (nt l) i = ((l.getD i 0 : Nat) : Int) := by
 unfold gi nt;rw [List.getD_eq_getElem?_getD, List.getElem?_map, List.getD_eq_getElem?_getD];cases l[i]? <;> rfl
theorem nt_set (l : List Nat) (i v : Nat) : (nt l).set i (v : Int) = nt (l.set i v) := by simp [nt, List.map_set]
theorem NsAt.nat {w : World} {ps : List P4} {l : List Nat} (h : NsAt w ps (nt l)) {i : Nat} (hi : i < l.length) : NumAt w (av (gp ps i)) ((l.getD i 0 : Nat) : Int) := by
 have := h.2 i (by rw [h.1, nt_length]; exact hi)
 rwa [gi_nt] at this
structure C1X where
 i : Nat
 ps : List P4
 zs : List Int
structure C1I (xs : List Int) (n : Nat) (z : C1X) : Prop where
 hi : z.i <= n
 hp : z.ps.length = n
 hz : z.zs.length = n
 ok : ∀ k, k < n -> gi z.zs k = if k < z.i then (((gi xs k).natAbs : Nat) : Int) else 0
structure C2X where
 i : Nat
 pre : List Nat
 suf : List Nat
 ps : List P4
structure C2I (R : List Nat) (P n : Nat) (z : C2X) : Prop where
 hi : z.pre.length = z.i
 hp : z.ps.length = n
 hl : (z.pre ++ z.suf).length = n
 fin : z.pre ++ chProg z.suf = R
 dv : ∀ y ∈ z.pre ++ z.suf, Dv P y
structure C3X where
 j : Nat
 g : Nat
 mid : List Nat
 suf : List Nat
 ps : List P4
structure C3I (R : List Nat) (P n i : Nat) (pre : List Nat) (z : C3X) : Prop where
 hj : i + 1 + z.mid.length = z.j
 hp : z.ps.length = n
 hl : (pre ++ z.g :: (z.mid ++ z.suf)).length = n
 fin : chFin pre z.g z.mid z.suf = R
 dv : ∀ y ∈ pre ++ z.g :: (z.mid ++ z.suf), Dv P y
theorem getD_at (a : List Nat) (x : Nat) (b : List Nat) : (a ++ x :: b).getD a.length 0 = x := by simp
theorem set_at (a : List Nat) (x y : Nat) (b : List Nat) : (a ++ x :: b).set a.length y = a ++ y :: b := by simp
set_option maxRecDepth 100000 in
set_option maxHeartbeats 4000000 in
theorem SChain_c (ao : Option Addr) (cap L : Nat) (xs : List Int) (w : World) (hA : LsAt w L ao xs) (hL : L <= 17592186044415) (hn : xs.length <= 8796093022208) (hP : wlen (prodNZ (xs.map Int.natAbs)) <= 8796093022207) :
 Calls Tryz.prog 11 #[.slice ao xs.length cap] w fun e w' => (∃ b, e = .returned (.slice (some ⟨b, 0, none⟩) xs.length xs.length) /\ w.heap.size <= b /\ RowN w' b (nt (chProg (xs.map Int.natAbs)))) /\ Below w.heap.size w w' := by
 obtain ⟨R, hR⟩ : ∃ R, chProg (xs.map Int.natAbs) = R := ⟨_, rfl⟩;have hdv0 : ∀ y ∈ xs.map Int.natAbs, Dv (prodNZ (xs.map Int.natAbs)) y := fun y hy => Dv.of_mem hy;have hP0 := prodNZ_pos (xs.map Int.natAbs);obtain ⟨P, hPP⟩ : ∃ P, prodNZ (xs.map Int.natAbs) = P := ⟨_, rfl⟩;obtain ⟨n, hnn⟩ : ∃ n, xs.length = n := ⟨_, rfl⟩;rw [hPP] at hdv0 hP hP0;rw [hR, hnn];rw [hnn] at hn;have hb : ∀ y, Dv P y -> wlen y <= 8796093022207 := fun y hy => Nat.le_trans (wlen_mono (hy.le hP0)) hP;have HB := Lib.hid hb;have HN := Lib.hid hnn;have HR := Lib.hid hR;have HD := Lib.hid hdv0;clear hb hnn hR hPP hP hP0 hdv0;refine funW (S0 := fun _ => False) Tryz.func11 ((Fr.nil _ w).l hA (by simp)) ?_;refine goW ?_;refine rW [] ?_;refine dW ?_;refine eW ?_;refine goW ?_;refine rW [] ?_;refine dW ?_;refine dW ?_;refine mN n n rfl rfl (Nat.le_refl _) hn fun b => ?_;refine dW ?_;refine eW ?_;refine addW (e := .ns (List.replicate n p0) (List.replicate n 0)) (fun w' _ => NsAt.zeros w' n) ?_;refine goW ?_;refine rW [] ?_;refine dW ?_;refine dW ?_;refine dW ?_;refine eW ?_;refine goW ?_;refine loopW (X := C1X) (C1I xs n) (fun z => n - z.i) (fun z => [(14, .int .i64 (z.i : Int)), (13, .int .i64 (n : Int)), (12, .slice ao n cap), (3, .slice (some ⟨b, 0, none⟩) n n)]) (fun z => [.ns z.ps z.zs, .row b 44 (rn z.ps []), .ls L ao xs]) ⟨0, List.replicate n p0, List.replicate n 0⟩ ⟨Nat.zero_le _, by simp, by simp, fun k hk => by rw [gi_eq (by simpa using hk)]; simp⟩ fun z hz => ?_;obtain ⟨i, ps, zs⟩ := z;obtain ⟨hi, hp, hz, hok⟩ := hz
 replace hi : i <= n := hi
 replace hp : ps.length = n := hp
 replace hz : zs.length = n := hz
 replace hok : ∀ k, k < n -> gi zs k = if k < i then (((gi xs k).natAbs : Nat) : Int) else 0 := hok
 have HZ := Lib.hid (And.intro hp hz);clear hp hz;by_cases h : i < n
 · obtain ⟨bx, ox, rfl⟩ := hA.pos (i := i) (by rw [HN.out]; exact h);have h01 : (i : Int) < (n : Int) := by omega
   refine goW ?_;refine rW [] ?_;refine dB true ?_;refine eW ?_;refine goW ?_;refine ctW ?_;refine numW (L := L) (xs := xs) (b := bx) (o := ox) i (by simp) (by rw [HN.out]; exact h) fun p => ?_;refine goW ?_;refine rW [] ?_;refine dW ?_;refine dW ?_;refine dW ?_;refine aW fun g5 => ?_;refine dW ?_;refine sG ?_;refine eW ?_;refine goW ?_;refine rW [] ?_;refine dW ?_;refine dW ?_;refine dW ?_;refine cN (fun w' H => IAbs_c (av p) _ w' (H.m3.mono hL)) fun q => ?_;refine dW ?_;refine moreW (e := .ns (ps.set i q) (zs.set i ((gi xs i).natAbs : Nat))) (fun w' H => NsAt.set H.m5 i H.m0.num) ?_;refine sN i q (by rw [HZ.out.1]; exact h) NoW.nil rfl ?_;refine eW ?_;refine goW ?_;refine rW [] ?_;refine dE (incB (a := i) (by omega)) ?_;refine dW ?_;refine eW ?_;refine goW ?_;refine backW (⟨i + 1, ps.set i q, zs.set i ((gi xs i).natAbs : Nat)⟩ : C1X) ⟨⟨h, by simpa using HZ.out.1, by simpa using HZ.out.2, fun k hk => ?_⟩, by show n - (i + 1) < n - i; omega⟩;show gi (zs.set i ((gi xs i).natAbs : Nat)) k = if k < i + 1 then (((gi xs k).natAbs : Nat) : Int) else 0;rw [gi_set (by rw [HZ.out.2]; exact h)];by_cases e : k = i
   · subst e; rw [if_pos rfl, if_pos (by omega)]
   · rw [if_neg e, hok k hk];by_cases e2 : k < i
     · rw [if_pos e2, if_pos (by omega)]
     · rw [if_neg e2, if_neg (by omega)]
 · obtain rfl : i = n := by omega
   have hzs : zs = nt (xs.map Int.natAbs) := by
    refine List.ext_getElem (by rw [HZ.out.2, nt_length, List.length_map, HN.out]) fun k h1 h2 => ?_;have hk : k < i := by rw [HZ.out.2] at h1; exact h1
    have := hok k hk;rw [if_pos hk, gi_eq h1, gi_eq (by rw [HN.out]; exact hk)] at this;rw [this]; simp [nt]
   subst hzs;clear hok hi;refine goW ?_;refine rW [] ?_;refine dB false ?_;refine eW ?_;refine goW ?_;refine cfW ?_;refine goW ?_;refine rW [] ?_;refine dW ?_;refine dW ?_;refine dW ?_;refine eW ?_;refine goW ?_;refine loopW (X := C2X) (C2I R P i) (fun z => i - z.i) (fun z => [(27, .int .i64 (z.i : Int)), (26, .int .i64 (i : Int)), (3, .slice (some ⟨b, 0, none⟩) i i)]) (fun z => [.row b 44 (rn z.ps []), .ns z.ps (nt (z.pre ++ z.suf))]) ⟨0, [], xs.map Int.natAbs, ps⟩ ⟨rfl, HZ.out.1, by simp [HN.out], HR.out, HD.out⟩ fun z hz => ?_;clear HZ HD HR;obtain ⟨I, pre, suf, ps⟩ := z;obtain ⟨hI, hp, hl, hfin, hdv⟩ := hz
   replace hI : pre.length = I := hI
   replace hp : ps.length = i := hp
   replace hl : (pre ++ suf).length = i := hl
   replace hfin : pre ++ chProg suf = R := hfin
   replace hdv : ∀ y ∈ pre ++ suf, Dv P y := hdv
   cases suf with
   | nil =>
    have e : I = i := by simpa [hI] using hl
    have hfin : pre = R := by simpa [chProg] using hfin
    subst e hfin;clear hl hI hp;refine goW ?_;refine rW [] ?_;refine dB false ?_;refine eW ?_;refine goW ?_;refine cfW ?_;refine goW ?_;refine rW [] ?_;refine dW ?_;refine dW ?_;refine eW ?_;refine goW ?_;refine fin1 fun w' H => ?_;exact ⟨_, rvT, ⟨b, rfl, (H.own _ (List.mem_cons_self ..) rfl _ rfl).elim (fun h => h.elim) id, RowN.mk' H.m0 NoW.nil (by have := H.m1; rw [List.append_nil] at this; exact this)⟩, H.below⟩
   | cons x suf =>
    have hIn : I < i := by simp at hl; omega
    have h01 : (I : Int) < (i : Int) := by omega
    have HL := Lib.hid (And.intro hI (And.intro hp hl));clear hI hp hl;refine goW ?_;refine rW [] ?_;refine dB true ?_;refine eW ?_;refine goW ?_;refine ctW ?_;refine goW ?_;refine rW [] ?_;refine dW ?_;refine dW ?_;refine eW ?_;refine goW ?_;refine rW [] ?_;refine dW ?_;refine dE (incB (a := I) (by omega)) ?_;refine dW ?_;refine eW ?_;refine goW ?_;refine loopW (X := C3X) (C3I R P i I pre) (fun z => z.suf.length) (fun z => [(7, .int .i64 (z.j : Int)), (6, .int .i64 (I : Int)), (27, .int .i64 (I : Int)), (26, .int .i64 (i : Int)), (3, .slice (some ⟨b, 0, none⟩) i i)]) (fun z => [.row b 44 (rn z.ps []), .ns z.ps (nt (pre ++ z.g :: (z.mid ++ z.suf)))]) ⟨I + 1, x, [], suf, ps⟩ ⟨rfl, HL.out.2.1, HL.out.2.2, by rw [chFin_start]; exact hfin, hdv⟩ fun z hz => ?_;have HI := Lib.hid HL.out.1;clear HL hfin hdv;obtain ⟨J, g, mid, suf', ps⟩ := z;obtain ⟨hJ, hp, hl, hfin, hdv⟩ := hz
    replace hJ : I + 1 + mid.length = J := hJ
    replace hp : ps.length = i := hp
    replace hl : (pre ++ g :: (mid ++ suf')).length = i := hl
    replace hfin : chFin pre g mid suf' = R := hfin
    replace hdv : ∀ y ∈ pre ++ g :: (mid ++ suf'), Dv P y := hdv
    cases suf' with
    | nil =>
     have e : J = i := by have := HI.out; simp at hl; omega
     subst e;refine goW ?_;refine rW [] ?_;refine dW ?_;refine dW ?_;refine dW ?_;refine dB false ?_;refine eW ?_;refine goW ?_;refine cfW ?_;refine goW ?_;refine rW [] ?_;refine dE (incB (a := I) (by omega)) ?_;refine dW ?_;refine eW ?_;refine goW ?_;refine backW (⟨I + 1, pre ++ [g], mid, ps⟩ : C2X) ⟨⟨by simp [HI.out], hp, by simpa using hl, by rw [<- hfin, chFin_end], by simpa using hdv⟩, by show J - (I + 1) < J - I; omega⟩ (he := fun w' H => by simpa using H)
    | cons y suf' =>
     obtain ⟨l, hle⟩ : ∃ l, pre ++ g :: (mid ++ y :: suf') = l := ⟨_, rfl⟩;have hll : l.length = i := by rw [<- hle]; exact hl
     have e1 : (pre ++ g :: mid).length = J := by have := HI.out; simp; omega
     have e2 : pre ++ g :: (mid ++ y :: suf') = (pre ++ g :: mid) ++ y :: suf' := by simp
     have eI : l.getD I 0 = g := by rw [<- hle, <- HI.out]; exact getD_at ..
     have eJ : l.getD J 0 = y := by rw [<- hle, e2, <- e1]; exact getD_at ..
     have eS : (l.set J (Nat.lcm g y)).set I (Nat.gcd g y) = pre ++ Nat.gcd g y :: ((mid ++ [Nat.lcm g y]) ++ suf') := by
      rw [<- hle, e2, <- e1, set_at, <- HI.out, List.append_assoc, List.cons_append, set_at]; simp
     have hJn : J < i := by simp at hl; have := HI.out; omega
     have hIJ : I < J := by omega
     have hg : wlen g <= 8796093022207 := HB.out g (hdv g (by simp));have hy : wlen y <= 8796093022207 := HB.out y (hdv y (by simp));have hdv' : ∀ z ∈ pre ++ Nat.gcd g y :: ((mid ++ [Nat.lcm g y]) ++ suf'), Dv P z := by
      have dg := hdv g (by simp);have dy := hdv y (by simp);intro z hz;simp only [List.mem_append, List.mem_cons, List.not_mem_nil, or_false] at hz;rcases hz with hz | rfl | (hz | rfl) | hz
      · exact hdv z (by simp [hz])
      · exact dg.gcd dy
      · exact hdv z (by simp [hz])
      · exact dg.lcm dy
      · exact hdv z (by simp [hz])
     have rI : ∀ w, NsAt w ps (nt l) -> IntAt w 8796093022207 (av (gp ps I)) (g : Int) := fun w h => by
      have := h.nat (i := I) (by rw [hll]; omega);rw [eI] at this; exact this.int hg
     have rJ : ∀ w, NsAt w ps (nt l) -> IntAt w 8796093022207 (av (gp ps J)) (y : Int) := fun w h => by
      have := h.nat (i := J) (by rw [hll]; omega);rw [eJ] at this; exact this.int hy
     have sIJ : ∀ w (p q : P4), NsAt w ps (nt l) -> NumAt w (av p) ((Nat.gcd g y : Nat) : Int) -> NumAt w (av q) ((Nat.lcm g y : Nat) : Int) -> NsAt w ((ps.set J q).set I p) (nt (pre ++ Nat.gcd g y :: ((mid ++ [Nat.lcm g y]) ++ suf'))) := fun w p q h hp hq => by
      have := (h.set J hq).set I hp;rw [nt_set, nt_set, eS] at this; exact this
     have k0 := rn0 [] (ps := ps) (i := I) (by omega);have k1 := rn1 [] (ps := ps) (i := I) (by omega);have k2 := rn0 [] (ps := ps) (i := J) (by omega);have k3 := rn1 [] (ps := ps) (i := J) (by omega);have hfin' := chFin_step pre g y mid suf';rw [hfin] at hfin';have h01 : (I : Int) < (i : Int) := by omega
     have h02 : (J : Int) < (i : Int) := by omega
     have HQ := Lib.hid (And.intro hp (And.intro hfin' (And.intro hdv' (And.intro hJ hl))));rw [show pre ++ (⟨J, g, mid, y :: suf', ps⟩ : C3X).g :: ((⟨J, g, mid, y :: suf', ps⟩ : C3X).mid ++ (⟨J, g, mid, y :: suf', ps⟩ : C3X).suf) = l from hle];clear hp hfin hfin' hdv hdv' hJ hl e1 e2 eI eJ eS hle hll;refine goW ?_;refine rW [] ?_;refine dW ?_;refine dW ?_;refine dW ?_;refine dB true ?_;refine eW ?_;refine goW ?_;refine ctW ?_;refine goW ?_;refine rW [] ?_;refine dW ?_;refine dW ?_;refine dW ?_;refine dW ?_;refine dW ?_;refine dW ?_;refine dW ?_;refine dW ?_;refine cN (x := ((Nat.gcd g y : Nat) : Int)) (fun w' H => BGcd_c (av (gp ps I)) (av (gp ps J)) g y w' ((rI w' H.m1).mono (by omega)) ((rJ w' H.m1).mono (by omega))) fun p46 => ?_;refine aW fun g8 => ?_;refine sG ?_;refine eW ?_;refine goW ?_;refine rW [] ?_;refine dW ?_;refine dW ?_;refine dW ?_;refine dW ?_;refine dW ?_;refine dW ?_;refine dW ?_;refine dW ?_;refine dW ?_;refine dW ?_;refine cN (x := ((Nat.lcm g y : Nat) : Int)) (fun w' H => BLcm_c (av (gp ps I)) (av (gp ps J)) g y 8796093022207 w' (rI w' H.m3) (rJ w' H.m3) (Nat.le_refl _)) fun p57 => ?_;refine dW ?_;refine sN J p57 (by rw [HQ.out.1]; omega) NoW.nil rfl ?_;refine eW ?_;refine goW ?_;refine rW [] ?_;refine dW ?_;refine dW ?_;refine dW ?_;refine dW ?_;refine moreW (e := .ns ((ps.set J p57).set I p46) (nt (pre ++ Nat.gcd g y :: ((mid ++ [Nat.lcm g y]) ++ suf')))) (fun w' H => sIJ w' p46 p57 H.m4 H.m2.num H.m0.num) ?_;refine sN (ps := ps.set J p57) I p46 (by rw [List.length_set, HQ.out.1]; omega) NoW.nil rfl ?_;refine eW ?_;refine goW ?_;refine rW [] ?_;refine dW ?_;refine dE (incB (a := J) (by omega)) ?_;refine dW ?_;refine eW ?_;refine goW ?_;refine backW (⟨J + 1, Nat.gcd g y, mid ++ [Nat.lcm g y], suf', (ps.set J p57).set I p46⟩ : C3X) ⟨⟨by have := HQ.out.2.2.2.1; simp; omega, by simpa using HQ.out.1, by have := HQ.out.2.2.2.2; simp at this ⊢; omega, HQ.out.2.1, HQ.out.2.2.1⟩, by simp⟩
theorem lead_ne : ∀ {xs : List Int} {j : Nat} (_ : lead xs = j) (hj : j < xs.length), xs[j] ≠ 0
 | x :: xs, j, h, hj => by
  unfold lead at h;by_cases h0 : x = 0
  · rw [if_pos h0] at h;subst h;simpa using lead_ne (xs := xs) rfl (by simpa using hj)
  · rw [if_neg h0] at h;subst h;simpa using h0
theorem NumAt.sign {w : World} {p : P4} {x : Int} (h : NumAt w (av p) x) (hx : x ≠ 0) : p.1 = decide (x < 0) := by
 obtain ⟨n, ao, len, cap, ws, he, hW, hl, hL, hc, rfl⟩ := h.1;unfold av at he;have : p.1 = n := by injection he with he; simp at he; exact he.1
 rw [this];exact zi_neg_iff hx
def turnT (R : List Hd) (i : Nat) : List Hd := if h : i < R.length then turnR R i h else R
def swapT (R : List Hd) (i j : Nat) : List Hd := if h : i < R.length /\ j < R.length then swapR R i j h.1 h.2 else R
theorem turnT_eq {R : List Hd} {i : Nat} (hi : i < R.length) : turnT R i = turnR R i hi := by unfold turnT; rw [dif_pos hi]
theorem swapT_eq {R : List Hd} {i j : Nat} (hi : i < R.length) (hj : j < R.length) : swapT R i j = swapR R i j hi hj := by unfold swapT; rw [dif_pos ⟨hi, hj⟩]
theorem turnT_length (R : List Hd) (i : Nat) : (turnT R i).length = R.length := by
 unfold turnT; split
 · unfold turnR; rw [setXs_length]
 · rfl
theorem swapT_length (R : List Hd) (i j : Nat) : (swapT R i j).length = R.length := by
 unfold swapT; split
 · exact swapR_length ..
 · rfl
theorem mixT_length (R : List Hd) (i j : Nat) (a b c d : Int) : (mixT R i j a b c d).length = R.length := by
 unfold mixT; split
 · unfold mixR; rw [setXs_length, setXs_length]
 · rfl
theorem meetT_length (R : List Hd) (k n j : Nat) : (meetT R k n j).length = R.length := by
 unfold meetT meetA; split
 · exact addT_length ..
 · rw [mixT_length]; exact addT_length ..
def swapsT (at_ : Nat) : Nat -> List Hd -> List Hd
 | 0, R => R
 | i + 1, R => if i + 1 <= at_ then R else swapsT at_ i (swapT R (i + 1) i)
inductive PutT (B c n : Nat) : Nat -> Int -> List Hd -> Bool -> List Hd -> Prop
 | zero {at_ : Nat} {last : Int} {R R' : List Hd} (hF : Fit B c R) (h : leadOf R n = c ∨ (leadOf R n : Int) <= last) (hs : SOut B c (leadsOf R n) n n R R') : PutT B c n at_ last R false R'
 | stop {at_ : Nat} {last : Int} {R R' : List Hd} (hF : Fit B c R) (h1 : leadOf R n < c) (h2 : last < leadOf R n) (a : Nat) (ha : at_ <= a) (hn : a <= n) (hlt : ∀ i, at_ <= i -> i < a -> leadOf R i < leadOf R n) (hb : a = n ∨ leadOf R n < leadOf R a)
  (hF2 : Fit B c (swapsT a n (if ent R n (leadOf R n) < 0 then turnT R n else R)))
  (hs : SOut B c (leadsOf (swapsT a n (if ent R n (leadOf R n) < 0 then turnT R n else R)) (n + 1)) (n + 1) (n + 1) (swapsT a n (if ent R n (leadOf R n) < 0 then turnT R n else R)) R') : PutT B c n at_ last R true R'
 | meet {at_ : Nat} {last : Int} {R R' : List Hd} {b : Bool} (hF : Fit B c R) (h1 : leadOf R n < c) (h2 : last < leadOf R n) (a : Nat) (ha : at_ <= a) (hn : a < n) (hlt : ∀ i, at_ <= i -> i < a -> leadOf R i < leadOf R n) (hj : leadOf R a = leadOf R n)
  (hp : ent R a (leadOf R n) ≠ 0) (hF1 : Fit B c (meetA R a n (leadOf R n))) (hp1 : ent (meetA R a n (leadOf R n)) a (leadOf R n) ≠ 0)
  (hs : PutT B c n a (leadOf R n) (meetT R a n (leadOf R n)) b R') : PutT B c n at_ last R b R'
theorem own_turnT (S : LSt) (i k : Nat) : (S.withR (turnT S.R i)).own k ↔ S.own k := by
 unfold turnT; split
 · exact own_setXs S i _ k
 · exact Iff.rfl
theorem own_addT (S : LSt) (i j : Nat) (x : Int) (k : Nat) : (S.withR (addT S.R i j x)).own k ↔ S.own k := by
 unfold addT; split
 · exact own_setXs S i _ k
 · exact Iff.rfl
theorem own_mixT (S : LSt) (i j : Nat) (a b c d : Int) (k : Nat) : (S.withR (mixT S.R i j a b c d)).own k ↔ S.own k := by
 unfold mixT; split
 · exact (own_setXs (S.withR (setXs S.R i _)) j _ k).trans (own_setXs S i _ k)
 · exact Iff.rfl
theorem own_meetT (S : LSt) (a n j k : Nat) : (S.withR (meetT S.R a n j)).own k ↔ S.own k := by
 unfold meetT meetA; split
 · exact own_addT S n a _ k
 · exact (own_mixT (S.withR (addT S.R n a _)) a n _ _ _ _ k).trans (own_addT S n a _ k)
theorem own_swapT (S : LSt) (i j k : Nat) : (S.withR (swapT S.R i j)).own k ↔ S.own k := by
 unfold swapT; split
 · rename_i h;exact or_congr (rws_blk (fun b => swapR_blk h.1 h.2 b) k) Iff.rfl
 · exact Iff.rfl
set_option maxRecDepth 100000 in
set_option maxHeartbeats 8000000 in
theorem Put_c (S : LSt) (n B c : Nat) (res : Bool) (R' : List Hd) (w : World) (h : LadAt w S) (hn : n < S.R.length) (hB : B <= 4000000000000) (hP : PutT B c n 0 (-1) S.R res R') (hR : S.R.length <= 100000) (hc : c <= 1000000) (hT : S.sat B c) :
 Calls Tryz.prog 192 #[.pointer (some ⟨S.lb, 0, none⟩), .int .i64 (n : Int)] w fun e w' => e = .returned (.bool res) /\ LadAt w' (S.withR R') /\ Chg S.own w w' := by
 have HT := Lib.hid hT; clear hT;have HL := Lib.hid h; clear h;have HP := Lib.hid hP; clear hP;go_enter Tryz.func192, Tryz.ntmps192;go_wp2;go_loopw [5, 6] (fun a_ l_ wr => ∃ (at_ : Nat) (last : Int) (R : List Hd), at_ <= n /\ (-1 <= last /\ last <= (c : Int)) /\ a_ = .int .i64 (at_ : Int) /\ l_ = .int .i64 last /\ Hid (R.length = S.R.length) /\ Hid (PutT B c n at_ last R res R') /\ Hid (LadAt wr (S.withR R)) /\ Hid (Chg S.own w wr) /\ Hid (∀ k, (S.withR R).own k ↔ S.own k)) (fun _ l_ _ => ((c : Int) - intOf l_).toNat)
 case atStart => exact ⟨0, -1, S.R, Nat.zero_le _, ⟨by omega, by omega⟩, rfl, rfl, rfl, HP, HL, Chg.refl .., fun _ => Iff.rfl⟩
 case round =>
  obtain ⟨at_, last, R, hat, ⟨hl1, hl2⟩, rfl, rfl, hRl, hPt, hL, hC, hO⟩ := hrel;have hnR : n < R.length := by have := hRl.out; omega
  have hF : Hid (Fit B c R) := by
   have := hPt.out;cases this with
   | zero hF _ _ => exact hF
   | stop hF _ _ _ _ _ _ _ _ _ => exact hF
   | meet hF _ _ _ _ _ _ _ _ _ _ _ => exact hF
  have hcn : R[n].xs.length = c := hF.out.len _ (List.getElem_mem hnR);have hlead : leadOf R n = lead R[n].xs := leadOf_eq hnR;have hle := lead_le R[n].xs;have hn1 : (n : Int) < (R.length : Int) := by omega
  have cb : wr.cell? ⟨S.lb, 0, none⟩ = some (.slice (some ⟨S.o, 0, none⟩) R.length S.cap) := hL.out.lad.cell 0;have cn : wr.cell? ⟨S.o, n, none⟩ = some (.slice (some ⟨R[n].blk, 0, none⟩) R[n].xs.length R[n].cap) := hL.out.mat.hdr (i := n) hnR;rw [hcn] at cn hle;have Hcn := Lib.hid hcn; clear hcn;have Hlead := Lib.hid hlead; clear hlead;go_wp2_with fail
  have hLd := Lead_c R[n].blk R[n].cap R[n].xs wr (hL.out.mat.row _ (List.getElem_mem (l := R) hnR)) (fun x hx => by have := hF.out.fit _ (List.getElem_mem hnR) x hx; omega) (by rw [Hcn.out]; omega);rw [Hcn.out] at hLd;refine hLd.mono ?_;rintro e w2 ⟨rfl, hb2⟩;have L2 := Lib.hid (hL.out.below hb2);have C2 := Lib.hid (hC.out.below hb2);clear hLd hL hC hb2 cb cn;have cb : w2.cell? ⟨S.lb, 0, none⟩ = some (.slice (some ⟨S.o, 0, none⟩) R.length S.cap) := L2.out.lad.cell 0;have cn : w2.cell? ⟨S.o, n, none⟩ = some (.slice (some ⟨R[n].blk, 0, none⟩) R[n].xs.length R[n].cap) := L2.out.mat.hdr (i := n) hnR;rw [Hcn.out] at cn;obtain ⟨jj, hjj⟩ : ∃ jj, lead R[n].xs = jj := ⟨_, rfl⟩;rw [hjj] at hle ⊢;have hPj := hPt.out;have hld := Hlead.out;rw [hjj] at hld;have Hld := Lib.hid hld; clear hld;by_cases hz : jj = c ∨ (jj : Int) <= last
  · have hfin : res = false /\ SOut B c (leadsOf R n) n n R R' := by
     cases hPj with
     | zero _ _ hs => exact ⟨rfl, hs⟩
     | stop _ h1 h2 _ _ _ _ _ _ _ => rw [Hld.out] at h1 h2; omega
     | meet _ h1 h2 _ _ _ _ _ _ _ _ _ => rw [Hld.out] at h1 h2; omega
    obtain ⟨rfl, hs⟩ := hfin;have HSO := Lib.hid hs; clear hs;clear hPj hPt;by_cases hz1 : jj = c
    · have hz2 : ((jj : Int) == (c : Int)) = true := by rw [hz1]; simp
      obtain ⟨j2, hj2⟩ : ∃ j2, j2 = jj := ⟨_, rfl⟩;have hz3 : (jj : Int) = (c : Int) := by omega
      have Hz1 := Lib.hid hz1;clear hz hz1 hz2 hj2;go_wp2_with fail
      refine (Settle_c (S.withR R) n B c R' _ L2.out (Nat.le_of_lt hnR) (by omega) hF.out HSO.out (by show R.length <= 1000000; have := hRl.out; omega) hc HT.out).mono ?_;rintro e w3 ⟨rfl, hL3, hC3⟩;have CF := Lib.hid (C2.out.trans (hC3.mono (fun q _ e => (hO.out q).1 e)));have LF := Lib.hid hL3;clear hL3 hC3;go_wp2;go_ret;exact ⟨rfl, LF.out, CF.out⟩
    · have hz3 : ¬ (jj : Int) = (c : Int) := by omega
      have hz2 : ((jj : Int) == (c : Int)) = false := beq_eq_false_iff_ne.2 hz3;have hz4 : (jj : Int) <= last := by omega
      have Hz1 := Lib.hid hz1;clear hz hz1;go_wp2_with fail
      refine (Settle_c (S.withR R) n B c R' _ L2.out (Nat.le_of_lt hnR) (by omega) hF.out HSO.out (by show R.length <= 1000000; have := hRl.out; omega) hc HT.out).mono ?_;rintro e w3 ⟨rfl, hL3, hC3⟩;have CF := Lib.hid (C2.out.trans (hC3.mono (fun q _ e => (hO.out q).1 e)));have LF := Lib.hid hL3;clear hL3 hC3;go_wp2;go_ret;exact ⟨rfl, LF.out, CF.out⟩
  · have hz3 : ¬ (jj : Int) = (c : Int) := by omega
    have hz2 : ((jj : Int) == (c : Int)) = false := beq_eq_false_iff_ne.2 hz3;have hz4 : ¬ (jj : Int) <= last := by omega
    have hjc : jj < c := by omega
    have hjl : last < (jj : Int) := by omega
    have Hjj := Lib.hid hjj; clear hjj;clear hz hPj;go_wp2;clear hz2 hz3 hz4 cb cn;go_loopw [5] (fun a_ wq => ∃ a : Nat, at_ <= a /\ a <= n /\ a_ = .int .i64 (a : Int) /\ Hid (∀ i, at_ <= i -> i < a -> leadOf R i < jj) /\ Hid (LadAt wq (S.withR R)) /\ Hid (Chg S.own w wq)) (fun a_ _ => n - (intOf a_).toNat)
    case atStart => exact ⟨at_, Nat.le_refl _, hat, rfl, fun i h1 h2 => by omega, L2, C2⟩
    case round =>
     obtain ⟨a, ha1, ha2, rfl, hlt, hLq, hCq⟩ := hrel;by_cases han : a < n
     · have haR : a < R.length := by omega
       have han1 : (a : Int) < (n : Int) := by omega
       have haR1 : (a : Int) < (R.length : Int) := by omega
       have cb : wr.cell? ⟨S.lb, 0, none⟩ = some (.slice (some ⟨S.o, 0, none⟩) R.length S.cap) := hLq.out.lad.cell 0;have ca : wr.cell? ⟨S.o, a, none⟩ = some (.slice (some ⟨R[a].blk, 0, none⟩) R[a].xs.length R[a].cap) := hLq.out.mat.hdr (i := a) haR;go_wp2_with fail
       refine (Lead_c R[a].blk R[a].cap R[a].xs _ (hLq.out.mat.row _ (List.getElem_mem (l := R) haR)) (fun x hx => by have := hF.out.fit _ (List.getElem_mem haR) x hx; omega) (by rw [hF.out.len _ (List.getElem_mem haR)]; omega)).mono ?_;rintro e w3 ⟨rfl, hb3⟩;have L3 := Lib.hid (hLq.out.below hb3);have C3 := Lib.hid (hCq.out.below hb3);clear hLq hCq hb3 cb ca;obtain ⟨la, hla⟩ : ∃ la, lead R[a].xs = la := ⟨_, rfl⟩;have hla2 : leadOf R a = la := (leadOf_eq haR).trans hla;rw [hla];have Hla := Lib.hid hla2; clear hla hla2;by_cases hlj : la < jj
       · have hlj1 : (la : Int) < (jj : Int) := by omega
         go_wp2;go_roundw
         case rel => exact ⟨a + 1, by omega, by omega, by go_num, Lib.hid (fun i h1 h2 => (Nat.lt_succ_iff_lt_or_eq.1 h2).elim (fun h => hlt.out i h1 h) (fun h => by subst h; rw [Hla.out]; exact hlj)), L3, C3⟩
         case measure => simp [intOf]; omega
       · have hlj1 : ¬ (la : Int) < (jj : Int) := by omega
         have haR2 : (a : Int) < (R.length : Int) := by omega
         have cb : w3.cell? ⟨S.lb, 0, none⟩ = some (.slice (some ⟨S.o, 0, none⟩) R.length S.cap) := L3.out.lad.cell 0;have ca : w3.cell? ⟨S.o, a, none⟩ = some (.slice (some ⟨R[a].blk, 0, none⟩) R[a].xs.length R[a].cap) := L3.out.mat.hdr (i := a) haR;have hanb : ((a : Int) == (n : Int)) = false := beq_eq_false_iff_ne.2 (by omega);have hane : ¬ (a : Int) = (n : Int) := by omega
         go_wp2_with fail
         refine (Lead_c R[a].blk R[a].cap R[a].xs _ (L3.out.mat.row _ (List.getElem_mem (l := R) haR)) (fun x hx => by have := hF.out.fit _ (List.getElem_mem haR) x hx; omega) (by rw [hF.out.len _ (List.getElem_mem haR)]; omega)).mono ?_;rintro e w4 ⟨rfl, hb4⟩;have L4 := Lib.hid (L3.out.below hb4);have C4 := Lib.hid (C3.out.below hb4);clear L3 C3 hb4 cb ca;have hla3 : lead R[a].xs = la := (leadOf_eq haR).symm.trans Hla.out;rw [hla3];clear hla3;by_cases hlaj : la = jj
         · have hcase : ent R a jj ≠ 0 /\ Fit B c (meetA R a n jj) /\ ent (meetA R a n jj) a jj ≠ 0 /\ PutT B c n a (jj : Int) (meetT R a n jj) res R' := by
            have hPj := hPt.out;have hx := hlt.out;have hl := Hla.out;have hd := Hld.out;cases hPj with
            | zero _ h _ => rw [hd] at h; omega
            | stop _ h1 h2 a' ha' hn' hlt' hb' _ _ =>
             rw [hd] at hlt' hb';rcases Nat.lt_trichotomy a' a with h | h | h
             · have := hx a' ha' h; omega
             · subst h; omega
             · have := hlt' a ha1 h; omega
            | meet _ h1 h2 a' ha' hn' hlt' hj' hp hF1 hp1 hs =>
             rw [hd] at hlt' hj' hp hF1 hp1 hs;have haa : a' = a := by
              rcases Nat.lt_trichotomy a' a with h | h | h
              · have := hx a' ha' h; omega
              · exact h
              · have := hlt' a ha1 h; omega
             subst haa;exact ⟨hp, hF1, hp1, hs⟩
           obtain ⟨m1, m2, m3, m4⟩ := hcase;have M4 := Lib.hid m4; clear m4;have hlb : ((la : Int) != (jj : Int)) = false := by rw [hlaj]; simp
           have hle2 : (la : Int) = (jj : Int) := by omega
           have Hlaj := Lib.hid hlaj; clear hlaj;have hmt := Meet_c (S.withR R) a n jj B c w4 L4.out haR hnR (by omega) hjc hB hF.out m2 m1 m3 (by show R.length <= 1000000; have := hRl.out; omega) hc HT.out;have HMt := Lib.hid hmt;clear m1 m2 m3 hmt;go_wp2_with fail
           refine HMt.out.mono ?_;rintro e w5 ⟨rfl, hL5, hC5⟩;have L5 := Lib.hid hL5;have C5 := Lib.hid (C4.out.trans (hC5.mono (fun q _ e => (hO.out q).1 e)));clear hL5 hC5 hlb hle2 hanb hane;go_wp2;go_roundw
           case rel => exact ⟨a, (jj : Int), meetT R a n jj, by omega, ⟨by omega, by omega⟩, by go_num, by go_num, Lib.hid ((meetT_length ..).trans hRl.out), M4, L5, C5, Lib.hid (fun q => (own_meetT (S.withR R) a n jj q).trans (hO.out q))⟩
           case measure =>
            simp only [intOf];omega
         · have hbr : a = n ∨ jj < leadOf R a := by have := Hla.out; omega
           have Hbr := Lib.hid hbr; clear hbr;have hlb : ((la : Int) != (jj : Int)) = true := by rw [bne_iff_ne]; omega
           have hle2 : ¬ (la : Int) = (jj : Int) := by omega
           clear hlaj;have hstop : res = true /\ Fit B c (swapsT a n (if ent R n jj < 0 then turnT R n else R)) /\ SOut B c (leadsOf (swapsT a n (if ent R n jj < 0 then turnT R n else R)) (n + 1)) (n + 1) (n + 1) (swapsT a n (if ent R n jj < 0 then turnT R n else R)) R' := by
            have hPj := hPt.out;have hx := hlt.out;have hd := Hld.out;have hbr := Hbr.out;cases hPj with
            | zero _ h _ => rw [hd] at h; omega
            | stop _ h1 h2 a' ha' hn' hlt' hb' hF2 hs =>
             rw [hd] at hlt' hb' hF2 hs;have haa : a' = a := by
              rcases Nat.lt_trichotomy a' a with h | h | h
              · have := hx a' ha' h; omega
              · exact h
              · have := hlt' a ha1 h; omega
             subst haa;exact ⟨rfl, hF2, hs⟩
            | meet _ h1 h2 a' ha' hn' hlt' hj' hp hF1 hp1 hs =>
             rw [hd] at hlt' hj';rcases Nat.lt_trichotomy a' a with h | h | h
             · have := hx a' ha' h; omega
             · subst h; omega
             · have := hlt' a ha1 h; omega
           obtain ⟨rfl, hF2, hs2⟩ := hstop;have HF2 := Lib.hid hF2; clear hF2;have HS2 := Lib.hid hs2; clear hs2;have hXn := L4.out.mat.row _ (List.getElem_mem (l := R) hnR);have hjn : jj < R[n].xs.length := by rw [Hcn.out]; exact hjc
           obtain ⟨pn, cp0, cp1, hpn⟩ := hXn.get hjn;have hx0 : R[n].xs[jj] ≠ 0 := lead_ne Hjj.out hjn;have hsg := hpn.sign hx0;have heN := ent_eq hnR hjn;have HXn := Lib.hid hXn; clear hXn;have Hsg := Lib.hid hsg; clear hsg;have HeN := Lib.hid heN; clear heN;clear hpn hx0;have cb : w4.cell? ⟨S.lb, 0, none⟩ = some (.slice (some ⟨S.o, 0, none⟩) R.length S.cap) := L4.out.lad.cell 0;have cn : w4.cell? ⟨S.o, n, none⟩ = some (.slice (some ⟨R[n].blk, 0, none⟩) R[n].xs.length R[n].cap) := L4.out.mat.hdr (i := n) hnR;have sb1 := HXn.out.lt;have sb3 : S.lb < w4.heap.size := L4.out.lad.lt;have sb4 : S.o < w4.heap.size := L4.out.mat.out.lt;have hjn1 : (jj : Int) < (R[n].xs.length : Int) := by omega
           go_wp2;refine wp_region_J ⟨18, fun q_ => [73, 74, 75, 76, 77, 78, 79, 80, 81, 82, 83, 84, 85, 86, 87, 88, 89, 90].getD q_ 0,
            fun q_ => [.val (.pointer (some ⟨S.lb, 0, none⟩)), .val (.pointer (some ⟨S.lb, 0, none⟩)), .val (.pointer (some ⟨S.lb, 0, none⟩)), .val (.slice (some ⟨S.o, 0, none⟩) R.length S.cap), .val (.int .i64 (n : Int)), .val (.pointer (some ⟨S.o, n, none⟩)), .val (.slice (some ⟨R[n].blk, 0, none⟩) R[n].xs.length R[n].cap), .val (.pointer (some ⟨S.lb, 0, none⟩)), .val (.pointer (some ⟨S.lb, 0, none⟩)), .val (.pointer (some ⟨S.lb, 0, none⟩)), .val (.slice (some ⟨S.o, 0, none⟩) R.length S.cap), .val (.int .i64 (n : Int)), .val (.pointer (some ⟨S.o, n, none⟩)), .val (.slice (some ⟨R[n].blk, 0, none⟩) R[n].xs.length R[n].cap), .val (.int .i64 (jj : Int)), .val (.pointer (some ⟨R[n].blk, jj * 2, none⟩)), .val (.pointer (some ⟨R[n].blk, jj * 2, none⟩)), .val (.bool pn.1)].getD q_ .any,
            [],
            [],
            [],
            [], [(⟨S.lb, 0, none⟩, .slice (some ⟨S.o, 0, none⟩) R.length S.cap), (⟨S.o, n, none⟩, .slice (some ⟨R[n].blk, 0, none⟩) R[n].xs.length R[n].cap), (⟨R[n].blk, jj * 2, none⟩, .bool pn.1)], []⟩ [73, 74, 75, 76, 77, 78, 79, 80, 81, 82, 83, 84, 85, 86, 87, 88, 89, 90] (w4.heap.size) (by kernel_rfl) (by kernel_rfl) (by kernel_rfl) (by kernel_rfl) ?_ ?_ ?_ ?_ ?_ ?_
           · intro p hp;cases hp
           · intro p hp;cases hp
           · intro p hp;rcases mc hp with rfl | hp
             · refine ⟨cb, by show S.lb < w4.heap.size; omega, ?_⟩;intro t ht;cases ht
             rcases mc hp with rfl | hp
             · refine ⟨cn, by show S.o < w4.heap.size; omega, ?_⟩;intro t ht;cases ht
             rcases mc hp with rfl | hp
             · refine ⟨cp0, by show R[n].blk < w4.heap.size; omega, ?_⟩;intro t ht;cases ht
             cases hp
           · intro t ht;cases ht
           · refine allc ?_ (allc ?_ (allc ?_ (allc ?_ (allc ?_ (allc ?_ (allc ?_ (allc ?_ (allc ?_ (allc ?_ (allc ?_ (allc ?_ (allc ?_ (allc ?_ (allc ?_ (allc ?_ (allc ?_ (allc ?_ alln)))))))))))))))));any_goals (first | (intro L fx w' hJ hL hp hcl; have _ := hp0 hp (by decide +kernel); refine wps rfl fun K hK => ?_; go_simp; exact hJ.q hK (by kernel_rfl) rfl) | fail)
             · intro L fx w' hJ hL hp hcl;have e0 := hJ.pt 0 73 (.pointer (some ⟨S.lb, 0, none⟩)) rfl rfl rfl (hp 0 (by decide));rw [e0] at hJ ⊢; clear e0;refine wps rfl fun K hK => ?_;go_simp;exact hJ.q hK (by kernel_rfl) rfl
             · intro L fx w' hJ hL hp hcl;have e1 := hJ.pt 1 74 (.pointer (some ⟨S.lb, 0, none⟩)) rfl rfl rfl (hp 1 (by decide));rw [e1] at hJ ⊢; clear e1;refine wps rfl fun K hK => ?_;go_simp;exact hJ.q hK (by kernel_rfl) rfl
             · intro L fx w' hJ hL hp hcl;have e2 := hJ.pt 2 75 (.pointer (some ⟨S.lb, 0, none⟩)) rfl rfl rfl (hp 2 (by decide));rw [e2] at hJ ⊢; clear e2;refine wps rfl fun K hK => ?_;have cl0 := (hJ.cells _ mm0).1;try dsimp only at cl0
               go_simp;exact hJ.q hK (by kernel_rfl) rfl
             · intro L fx w' hJ hL hp hcl;have e3 := hJ.pt 3 76 (.slice (some ⟨S.o, 0, none⟩) R.length S.cap) rfl rfl rfl (hp 3 (by decide));rw [e3] at hJ ⊢; clear e3;have e4 := hJ.pt 4 77 (.int .i64 (n : Int)) rfl rfl rfl (hp 4 (by decide));rw [e4] at hJ ⊢; clear e4;refine wps rfl fun K hK => ?_;go_simp;exact hJ.q hK (by kernel_rfl) rfl
             · intro L fx w' hJ hL hp hcl;have e5 := hJ.pt 5 78 (.pointer (some ⟨S.o, n, none⟩)) rfl rfl rfl (hp 5 (by decide));rw [e5] at hJ ⊢; clear e5;refine wps rfl fun K hK => ?_;have cl0 := (hJ.cells _ mm1).1;try dsimp only at cl0
               go_simp;exact hJ.q hK (by kernel_rfl) rfl
             · intro L fx w' hJ hL hp hcl;have e7 := hJ.pt 7 80 (.pointer (some ⟨S.lb, 0, none⟩)) rfl rfl rfl (hp 7 (by decide));rw [e7] at hJ ⊢; clear e7;refine wps rfl fun K hK => ?_;go_simp;exact hJ.q hK (by kernel_rfl) rfl
             · intro L fx w' hJ hL hp hcl;have e8 := hJ.pt 8 81 (.pointer (some ⟨S.lb, 0, none⟩)) rfl rfl rfl (hp 8 (by decide));rw [e8] at hJ ⊢; clear e8;refine wps rfl fun K hK => ?_;go_simp;exact hJ.q hK (by kernel_rfl) rfl
             · intro L fx w' hJ hL hp hcl;have e9 := hJ.pt 9 82 (.pointer (some ⟨S.lb, 0, none⟩)) rfl rfl rfl (hp 9 (by decide));rw [e9] at hJ ⊢; clear e9;refine wps rfl fun K hK => ?_;have cl0 := (hJ.cells _ mm0).1;try dsimp only at cl0
               go_simp;exact hJ.q hK (by kernel_rfl) rfl
             · intro L fx w' hJ hL hp hcl;have e10 := hJ.pt 10 83 (.slice (some ⟨S.o, 0, none⟩) R.length S.cap) rfl rfl rfl (hp 10 (by decide));rw [e10] at hJ ⊢; clear e10;have e11 := hJ.pt 11 84 (.int .i64 (n : Int)) rfl rfl rfl (hp 11 (by decide));rw [e11] at hJ ⊢; clear e11;refine wps rfl fun K hK => ?_;go_simp;exact hJ.q hK (by kernel_rfl) rfl
             · intro L fx w' hJ hL hp hcl;have e12 := hJ.pt 12 85 (.pointer (some ⟨S.o, n, none⟩)) rfl rfl rfl (hp 12 (by decide));rw [e12] at hJ ⊢; clear e12;refine wps rfl fun K hK => ?_;have cl0 := (hJ.cells _ mm1).1;try dsimp only at cl0
               go_simp;exact hJ.q hK (by kernel_rfl) rfl
             · intro L fx w' hJ hL hp hcl;have e13 := hJ.pt 13 86 (.slice (some ⟨R[n].blk, 0, none⟩) R[n].xs.length R[n].cap) rfl rfl rfl (hp 13 (by decide));rw [e13] at hJ ⊢; clear e13;refine wps rfl fun K hK => ?_;go_simp;go_at_call 228;refine (Lead_c R[n].blk R[n].cap R[n].xs _ (RowN.below (w := w4.drew) HXn.out hJ.fr) (fun x hx => by have := hF.out.fit _ (List.getElem_mem hnR) x hx; omega) (by rw [Hcn.out]; omega)).mono ?_;rintro e w4 ⟨rfl, hb4⟩;try dsimp only
               rw [Hjj.out];exact hK _ _ ⟨_, by kernel_rfl, hJ.gC 14 rfl (by kernel_rfl) hb4 rfl (by omega)⟩
             · intro L fx w' hJ hL hp hcl;have e6 := hJ.pt 6 79 (.slice (some ⟨R[n].blk, 0, none⟩) R[n].xs.length R[n].cap) rfl rfl rfl (hp 6 (by decide));rw [e6] at hJ ⊢; clear e6;have e14 := hJ.pt 14 87 (.int .i64 (jj : Int)) rfl rfl rfl (hp 14 (by decide));rw [e14] at hJ ⊢; clear e14;refine wps rfl fun K hK => ?_;go_simp;exact hJ.q hK (by kernel_rfl) rfl
             · intro L fx w' hJ hL hp hcl;have e15 := hJ.pt 15 88 (.pointer (some ⟨R[n].blk, jj * 2, none⟩)) rfl rfl rfl (hp 15 (by decide));rw [e15] at hJ ⊢; clear e15;refine wps rfl fun K hK => ?_;go_simp;exact hJ.q hK (by kernel_rfl) rfl
             · intro L fx w' hJ hL hp hcl;have e16 := hJ.pt 16 89 (.pointer (some ⟨R[n].blk, jj * 2, none⟩)) rfl rfl rfl (hp 16 (by decide));rw [e16] at hJ ⊢; clear e16;refine wps rfl fun K hK => ?_;have cl0 := (hJ.cells _ mm2).1;try dsimp only at cl0
               go_simp;exact hJ.q hK (by kernel_rfl) rfl
           · intro L' x1 w7 hL hJ;have hfr : Below w4.drew.heap.size w4.drew w7 := hJ.fr;have e17 : x1 90 = .bool pn.1 := hJ.slot 17 (by show 17 < 18; decide) (hL 17 (by show 17 < 18; decide));rw [patchX (x := x1) (d := 90) (v := .bool pn.1) e17];clear hJ hL e17 cb cn cp0 cp1;have L7 := Lib.hid (LadAt.below (w := w4.drew) L4.out.drew hfr);have C7 := Lib.hid (C4.out.drew.below hfr);clear hfr;simp only [pN, Nat.reduceEqDiff, ↓reduceIte];cases hneg : pn.1
             · have hif : (if ent R n jj < 0 then turnT R n else R) = R := if_neg (by
                have := Hsg.out; rw [hneg] at this; rw [HeN.out]; simpa using this.symm)
               have HRF := Lib.hid HF2.out; have HSF := Lib.hid HS2.out;rw [hif] at HRF HSF;clear hif;obtain ⟨RF, hRF⟩ : ∃ RF, swapsT a n R = RF := ⟨_, rfl⟩;rw [hRF] at HRF HSF;have HRFe := Lib.hid hRF; clear hRF;go_wp2;go_loopw [8] (fun i_ wq => ∃ (i : Nat) (R8 : List Hd), i <= n /\ a <= i /\ i_ = .int .i64 (i : Int) /\ Hid (swapsT a i R8 = RF) /\ Hid (R8.length = S.R.length) /\ Hid (LadAt wq (S.withR R8)) /\ Hid (Chg S.own w wq) /\ Hid (∀ k, (S.withR R8).own k ↔ S.own k)) (fun i_ _ => (intOf i_).toNat)
               case atStart => exact ⟨n, R, Nat.le_refl _, ha2, rfl, HRFe, hRl, L7, C7, hO⟩
               case round =>
                obtain ⟨i, R8, hin, hai, rfl, hSw, hR8, hL8, hC8, hO8⟩ := hrel;by_cases hia : a < i
                · obtain ⟨i', rfl⟩ : ∃ i', i = i' + 1 := ⟨i - 1, by omega⟩;have hi8 : i' + 1 < R8.length := by have := hR8.out; have := hRl.out; omega
                  have hi8' : i' < R8.length := by omega
                  have hia1 : (a : Int) < ((i' + 1 : Nat) : Int) := by omega
                  have hcast : ((i' + 1 : Nat) : Int) - 1 = (i' : Int) := by omega
                  have hms := MSwap_c (S.withR R8) (i' + 1) i' wr hL8.out hi8 hi8' (by omega) (HT.out.good R8);have HMs := Lib.hid hms; clear hms;have hcast2 : ((i' + 1 : Nat) : Int) = (i' : Int) + 1 := by omega
                  rw [hcast2] at hia1 hcast HMs ⊢;clear hcast2;have hia2 : (a : Int) < (i' : Int) + 1 := hia1;have hcast3 : (i' : Int) + 1 - 1 = (i' : Int) := by omega
                  go_wp2_with fail
                  refine HMs.out.mono ?_;rintro e w9 ⟨rfl, hL9, hC9⟩;have L9 := Lib.hid hL9;have C9 := Lib.hid (hC8.out.trans (hC9.mono (fun q _ e => (hO8.out q).1 e)));clear hL9 hC9;go_wp2;go_roundw
                  case rel =>
                   refine ⟨i', swapT R8 (i' + 1) i', by omega, by omega, by go_num, ?_, Lib.hid ((swapT_length ..).trans hR8.out), ?_, C9, Lib.hid (fun q => (own_swapT (S.withR R8) (i' + 1) i' q).trans (hO8.out q))⟩
                   · have := hSw.out;unfold swapsT at this;rw [if_neg (by omega)] at this;exact this
                   · rw [swapT_eq hi8 hi8']; exact L9
                  case measure => simp only [intOf]; omega
                · obtain rfl : i = a := by omega
                  have hR8F : R8 = RF := by
                   have := hSw.out;cases i with
                   | zero => exact this
                   | succ q => unfold swapsT at this; rw [if_pos (Nat.le_refl _)] at this; exact this
                  subst hR8F;have hset := Settle_c (S.withR R8) (n + 1) B c R' wr hL8.out (by show n + 1 <= R8.length; have := hR8.out; omega) (by omega) HRF.out HSF.out (by show R8.length <= 1000000; have := hR8.out; omega) hc HT.out;have HSet := Lib.hid hset; clear hset;have hcn1 : ((n + 1 : Nat) : Int) = (n : Int) + 1 := by omega
                  rw [hcn1] at HSet;clear hcn1;have hgt : ¬ (i : Int) > (i : Int) := by omega
                  go_wp2_with fail
                  refine HSet.out.mono ?_;rintro e w9 ⟨rfl, hL9, hC9⟩;have L9 := Lib.hid hL9;have C9 := Lib.hid (hC8.out.trans (hC9.mono (fun q _ e => (hO8.out q).1 e)));clear hL9 hC9;go_wp2;go_ret;exact ⟨rfl, L9.out, C9.out⟩
             · have hif : (if ent R n jj < 0 then turnT R n else R) = turnT R n := if_pos (by
                have := Hsg.out; rw [hneg] at this; rw [HeN.out]; simpa using this.symm)
               have hlenN : R[n].xs.length <= 4611686018427387903 := by rw [Hcn.out]; omega
               have hmt := MTurn_c (S.withR R) n w7 L7.out hnR (fun x hx => by have := hF.out.fit _ (List.getElem_mem hnR) x hx; omega) hlenN (HT.out.good R) (HT.out.okR hF.out);have HMt := Lib.hid hmt; clear hmt;go_wp2_with fail
               refine HMt.out.mono ?_;rintro e w8 ⟨rfl, hL8, hC8⟩;have C8 := Lib.hid (C7.out.trans (hC8.mono (fun q _ e => (hO.out q).1 e)));have L8 : Hid (LadAt w8 (S.withR (turnT R n))) := by rw [turnT_eq hnR]; exact hL8
               have O8 : Hid (∀ k, (S.withR (turnT R n)).own k ↔ S.own k) := fun q => (own_turnT (S.withR R) n q).trans (hO.out q);have N8 : Hid ((turnT R n).length = S.R.length) := (turnT_length ..).trans hRl.out;clear hL8 hC8;have HRF := Lib.hid HF2.out; have HSF := Lib.hid HS2.out;rw [hif] at HRF HSF;clear hif;obtain ⟨RF, hRF⟩ : ∃ RF, swapsT a n (turnT R n) = RF := ⟨_, rfl⟩;rw [hRF] at HRF HSF;have HRFe := Lib.hid hRF; clear hRF;go_wp2;go_loopw [8] (fun i_ wq => ∃ (i : Nat) (R8 : List Hd), i <= n /\ a <= i /\ i_ = .int .i64 (i : Int) /\ Hid (swapsT a i R8 = RF) /\ Hid (R8.length = S.R.length) /\ Hid (LadAt wq (S.withR R8)) /\ Hid (Chg S.own w wq) /\ Hid (∀ k, (S.withR R8).own k ↔ S.own k)) (fun i_ _ => (intOf i_).toNat)
               case atStart => exact ⟨n, (turnT R n), Nat.le_refl _, ha2, rfl, HRFe, N8, L8, C8, O8⟩
               case round =>
                obtain ⟨i, R8, hin, hai, rfl, hSw, hR8, hL8, hC8, hO8⟩ := hrel;by_cases hia : a < i
                · obtain ⟨i', rfl⟩ : ∃ i', i = i' + 1 := ⟨i - 1, by omega⟩;have hi8 : i' + 1 < R8.length := by have := hR8.out; have := hRl.out; omega
                  have hi8' : i' < R8.length := by omega
                  have hia1 : (a : Int) < ((i' + 1 : Nat) : Int) := by omega
                  have hcast : ((i' + 1 : Nat) : Int) - 1 = (i' : Int) := by omega
                  have hms := MSwap_c (S.withR R8) (i' + 1) i' wr hL8.out hi8 hi8' (by omega) (HT.out.good R8);have HMs := Lib.hid hms; clear hms;have hcast2 : ((i' + 1 : Nat) : Int) = (i' : Int) + 1 := by omega
                  rw [hcast2] at hia1 hcast HMs ⊢;clear hcast2;have hia2 : (a : Int) < (i' : Int) + 1 := hia1;have hcast3 : (i' : Int) + 1 - 1 = (i' : Int) := by omega
                  go_wp2_with fail
                  refine HMs.out.mono ?_;rintro e w9 ⟨rfl, hL9, hC9⟩;have L9 := Lib.hid hL9;have C9 := Lib.hid (hC8.out.trans (hC9.mono (fun q _ e => (hO8.out q).1 e)));clear hL9 hC9;go_wp2;go_roundw
                  case rel =>
                   refine ⟨i', swapT R8 (i' + 1) i', by omega, by omega, by go_num, ?_, Lib.hid ((swapT_length ..).trans hR8.out), ?_, C9, Lib.hid (fun q => (own_swapT (S.withR R8) (i' + 1) i' q).trans (hO8.out q))⟩
                   · have := hSw.out;unfold swapsT at this;rw [if_neg (by omega)] at this;exact this
                   · rw [swapT_eq hi8 hi8']; exact L9
                  case measure => simp only [intOf]; omega
                · obtain rfl : i = a := by omega
                  have hR8F : R8 = RF := by
                   have := hSw.out;cases i with
                   | zero => exact this
                   | succ q => unfold swapsT at this; rw [if_pos (Nat.le_refl _)] at this; exact this
                  subst hR8F;have hset := Settle_c (S.withR R8) (n + 1) B c R' wr hL8.out (by show n + 1 <= R8.length; have := hR8.out; omega) (by omega) HRF.out HSF.out (by show R8.length <= 1000000; have := hR8.out; omega) hc HT.out;have HSet := Lib.hid hset; clear hset;have hcn1 : ((n + 1 : Nat) : Int) = (n : Int) + 1 := by omega
                  rw [hcn1] at HSet;clear hcn1;have hgt : ¬ (i : Int) > (i : Int) := by omega
                  go_wp2_with fail
                  refine HSet.out.mono ?_;rintro e w9 ⟨rfl, hL9, hC9⟩;have L9 := Lib.hid hL9;have C9 := Lib.hid (hC8.out.trans (hC9.mono (fun q _ e => (hO8.out q).1 e)));clear hL9 hC9;go_wp2;go_ret;exact ⟨rfl, L9.out, C9.out⟩
     · have hbr : a = n ∨ jj < leadOf R a := by omega
       have Hbr := Lib.hid hbr; clear hbr;have hnlt : ¬ (a : Int) < (n : Int) := by omega
       have hanb : ((a : Int) == (n : Int)) = true := by rw [beq_iff_eq]; omega
       have hstop : res = true /\ Fit B c (swapsT a n (if ent R n jj < 0 then turnT R n else R)) /\ SOut B c (leadsOf (swapsT a n (if ent R n jj < 0 then turnT R n else R)) (n + 1)) (n + 1) (n + 1) (swapsT a n (if ent R n jj < 0 then turnT R n else R)) R' := by
        have hPj := hPt.out;have hx := hlt.out;have hd := Hld.out;have hbr := Hbr.out;cases hPj with
        | zero _ h _ => rw [hd] at h; omega
        | stop _ h1 h2 a' ha' hn' hlt' hb' hF2 hs =>
         rw [hd] at hlt' hb' hF2 hs;have haa : a' = a := by
          rcases Nat.lt_trichotomy a' a with h | h | h
          · have := hx a' ha' h; omega
          · exact h
          · have := hlt' a ha1 h; omega
         subst haa;exact ⟨rfl, hF2, hs⟩
        | meet _ h1 h2 a' ha' hn' hlt' hj' hp hF1 hp1 hs =>
         rw [hd] at hlt' hj';rcases Nat.lt_trichotomy a' a with h | h | h
         · have := hx a' ha' h; omega
         · subst h; omega
         · have := hlt' a ha1 h; omega
       obtain ⟨rfl, hF2, hs2⟩ := hstop;have HF2 := Lib.hid hF2; clear hF2;have HS2 := Lib.hid hs2; clear hs2;have hXn := hLq.out.mat.row _ (List.getElem_mem (l := R) hnR);have hjn : jj < R[n].xs.length := by rw [Hcn.out]; exact hjc
       obtain ⟨pn, cp0, cp1, hpn⟩ := hXn.get hjn;have hx0 : R[n].xs[jj] ≠ 0 := lead_ne Hjj.out hjn;have hsg := hpn.sign hx0;have heN := ent_eq hnR hjn;have HXn := Lib.hid hXn; clear hXn;have Hsg := Lib.hid hsg; clear hsg;have HeN := Lib.hid heN; clear heN;clear hpn hx0;have cb : wr.cell? ⟨S.lb, 0, none⟩ = some (.slice (some ⟨S.o, 0, none⟩) R.length S.cap) := hLq.out.lad.cell 0;have cn : wr.cell? ⟨S.o, n, none⟩ = some (.slice (some ⟨R[n].blk, 0, none⟩) R[n].xs.length R[n].cap) := hLq.out.mat.hdr (i := n) hnR;have sb1 := HXn.out.lt;have sb3 : S.lb < wr.heap.size := hLq.out.lad.lt;have sb4 : S.o < wr.heap.size := hLq.out.mat.out.lt;have hjn1 : (jj : Int) < (R[n].xs.length : Int) := by omega
       go_wp2;refine wp_region_J ⟨18, fun q_ => [73, 74, 75, 76, 77, 78, 79, 80, 81, 82, 83, 84, 85, 86, 87, 88, 89, 90].getD q_ 0,
        fun q_ => [.val (.pointer (some ⟨S.lb, 0, none⟩)), .val (.pointer (some ⟨S.lb, 0, none⟩)), .val (.pointer (some ⟨S.lb, 0, none⟩)), .val (.slice (some ⟨S.o, 0, none⟩) R.length S.cap), .val (.int .i64 (n : Int)), .val (.pointer (some ⟨S.o, n, none⟩)), .val (.slice (some ⟨R[n].blk, 0, none⟩) R[n].xs.length R[n].cap), .val (.pointer (some ⟨S.lb, 0, none⟩)), .val (.pointer (some ⟨S.lb, 0, none⟩)), .val (.pointer (some ⟨S.lb, 0, none⟩)), .val (.slice (some ⟨S.o, 0, none⟩) R.length S.cap), .val (.int .i64 (n : Int)), .val (.pointer (some ⟨S.o, n, none⟩)), .val (.slice (some ⟨R[n].blk, 0, none⟩) R[n].xs.length R[n].cap), .val (.int .i64 (jj : Int)), .val (.pointer (some ⟨R[n].blk, jj * 2, none⟩)), .val (.pointer (some ⟨R[n].blk, jj * 2, none⟩)), .val (.bool pn.1)].getD q_ .any,
        [],
        [],
        [],
        [], [(⟨S.lb, 0, none⟩, .slice (some ⟨S.o, 0, none⟩) R.length S.cap), (⟨S.o, n, none⟩, .slice (some ⟨R[n].blk, 0, none⟩) R[n].xs.length R[n].cap), (⟨R[n].blk, jj * 2, none⟩, .bool pn.1)], []⟩ [73, 74, 75, 76, 77, 78, 79, 80, 81, 82, 83, 84, 85, 86, 87, 88, 89, 90] (wr.heap.size) (by kernel_rfl) (by kernel_rfl) (by kernel_rfl) (by kernel_rfl) ?_ ?_ ?_ ?_ ?_ ?_
       · intro p hp;cases hp
       · intro p hp;cases hp
       · intro p hp;rcases mc hp with rfl | hp
         · refine ⟨cb, by show S.lb < wr.heap.size; omega, ?_⟩;intro t ht;cases ht
         rcases mc hp with rfl | hp
         · refine ⟨cn, by show S.o < wr.heap.size; omega, ?_⟩;intro t ht;cases ht
         rcases mc hp with rfl | hp
         · refine ⟨cp0, by show R[n].blk < wr.heap.size; omega, ?_⟩;intro t ht;cases ht
         cases hp
       · intro t ht;cases ht
       · refine allc ?_ (allc ?_ (allc ?_ (allc ?_ (allc ?_ (allc ?_ (allc ?_ (allc ?_ (allc ?_ (allc ?_ (allc ?_ (allc ?_ (allc ?_ (allc ?_ (allc ?_ (allc ?_ (allc ?_ (allc ?_ alln)))))))))))))))));any_goals (first | (intro L fx w' hJ hL hp hcl; have _ := hp0 hp (by decide +kernel); refine wps rfl fun K hK => ?_; go_simp; exact hJ.q hK (by kernel_rfl) rfl) | fail)
         · intro L fx w' hJ hL hp hcl;have e0 := hJ.pt 0 73 (.pointer (some ⟨S.lb, 0, none⟩)) rfl rfl rfl (hp 0 (by decide));rw [e0] at hJ ⊢; clear e0;refine wps rfl fun K hK => ?_;go_simp;exact hJ.q hK (by kernel_rfl) rfl
         · intro L fx w' hJ hL hp hcl;have e1 := hJ.pt 1 74 (.pointer (some ⟨S.lb, 0, none⟩)) rfl rfl rfl (hp 1 (by decide));rw [e1] at hJ ⊢; clear e1;refine wps rfl fun K hK => ?_;go_simp;exact hJ.q hK (by kernel_rfl) rfl
         · intro L fx w' hJ hL hp hcl;have e2 := hJ.pt 2 75 (.pointer (some ⟨S.lb, 0, none⟩)) rfl rfl rfl (hp 2 (by decide));rw [e2] at hJ ⊢; clear e2;refine wps rfl fun K hK => ?_;have cl0 := (hJ.cells _ mm0).1;try dsimp only at cl0
           go_simp;exact hJ.q hK (by kernel_rfl) rfl
         · intro L fx w' hJ hL hp hcl;have e3 := hJ.pt 3 76 (.slice (some ⟨S.o, 0, none⟩) R.length S.cap) rfl rfl rfl (hp 3 (by decide));rw [e3] at hJ ⊢; clear e3;have e4 := hJ.pt 4 77 (.int .i64 (n : Int)) rfl rfl rfl (hp 4 (by decide));rw [e4] at hJ ⊢; clear e4;refine wps rfl fun K hK => ?_;go_simp;exact hJ.q hK (by kernel_rfl) rfl
         · intro L fx w' hJ hL hp hcl;have e5 := hJ.pt 5 78 (.pointer (some ⟨S.o, n, none⟩)) rfl rfl rfl (hp 5 (by decide));rw [e5] at hJ ⊢; clear e5;refine wps rfl fun K hK => ?_;have cl0 := (hJ.cells _ mm1).1;try dsimp only at cl0
           go_simp;exact hJ.q hK (by kernel_rfl) rfl
         · intro L fx w' hJ hL hp hcl;have e7 := hJ.pt 7 80 (.pointer (some ⟨S.lb, 0, none⟩)) rfl rfl rfl (hp 7 (by decide));rw [e7] at hJ ⊢; clear e7;refine wps rfl fun K hK => ?_;go_simp;exact hJ.q hK (by kernel_rfl) rfl
         · intro L fx w' hJ hL hp hcl;have e8 := hJ.pt 8 81 (.pointer (some ⟨S.lb, 0, none⟩)) rfl rfl rfl (hp 8 (by decide));rw [e8] at hJ ⊢; clear e8;refine wps rfl fun K hK => ?_;go_simp;exact hJ.q hK (by kernel_rfl) rfl
         · intro L fx w' hJ hL hp hcl;have e9 := hJ.pt 9 82 (.pointer (some ⟨S.lb, 0, none⟩)) rfl rfl rfl (hp 9 (by decide));rw [e9] at hJ ⊢; clear e9;refine wps rfl fun K hK => ?_;have cl0 := (hJ.cells _ mm0).1;try dsimp only at cl0
           go_simp;exact hJ.q hK (by kernel_rfl) rfl
         · intro L fx w' hJ hL hp hcl;have e10 := hJ.pt 10 83 (.slice (some ⟨S.o, 0, none⟩) R.length S.cap) rfl rfl rfl (hp 10 (by decide));rw [e10] at hJ ⊢; clear e10;have e11 := hJ.pt 11 84 (.int .i64 (n : Int)) rfl rfl rfl (hp 11 (by decide));rw [e11] at hJ ⊢; clear e11;refine wps rfl fun K hK => ?_;go_simp;exact hJ.q hK (by kernel_rfl) rfl
         · intro L fx w' hJ hL hp hcl;have e12 := hJ.pt 12 85 (.pointer (some ⟨S.o, n, none⟩)) rfl rfl rfl (hp 12 (by decide));rw [e12] at hJ ⊢; clear e12;refine wps rfl fun K hK => ?_;have cl0 := (hJ.cells _ mm1).1;try dsimp only at cl0
           go_simp;exact hJ.q hK (by kernel_rfl) rfl
         · intro L fx w' hJ hL hp hcl;have e13 := hJ.pt 13 86 (.slice (some ⟨R[n].blk, 0, none⟩) R[n].xs.length R[n].cap) rfl rfl rfl (hp 13 (by decide));rw [e13] at hJ ⊢; clear e13;refine wps rfl fun K hK => ?_;go_simp;go_at_call 228;refine (Lead_c R[n].blk R[n].cap R[n].xs _ (RowN.below (w := wr.drew) HXn.out hJ.fr) (fun x hx => by have := hF.out.fit _ (List.getElem_mem hnR) x hx; omega) (by rw [Hcn.out]; omega)).mono ?_;rintro e w4 ⟨rfl, hb4⟩;try dsimp only
           rw [Hjj.out];exact hK _ _ ⟨_, by kernel_rfl, hJ.gC 14 rfl (by kernel_rfl) hb4 rfl (by omega)⟩
         · intro L fx w' hJ hL hp hcl;have e6 := hJ.pt 6 79 (.slice (some ⟨R[n].blk, 0, none⟩) R[n].xs.length R[n].cap) rfl rfl rfl (hp 6 (by decide));rw [e6] at hJ ⊢; clear e6;have e14 := hJ.pt 14 87 (.int .i64 (jj : Int)) rfl rfl rfl (hp 14 (by decide));rw [e14] at hJ ⊢; clear e14;refine wps rfl fun K hK => ?_;go_simp;exact hJ.q hK (by kernel_rfl) rfl
         · intro L fx w' hJ hL hp hcl;have e15 := hJ.pt 15 88 (.pointer (some ⟨R[n].blk, jj * 2, none⟩)) rfl rfl rfl (hp 15 (by decide));rw [e15] at hJ ⊢; clear e15;refine wps rfl fun K hK => ?_;go_simp;exact hJ.q hK (by kernel_rfl) rfl
         · intro L fx w' hJ hL hp hcl;have e16 := hJ.pt 16 89 (.pointer (some ⟨R[n].blk, jj * 2, none⟩)) rfl rfl rfl (hp 16 (by decide));rw [e16] at hJ ⊢; clear e16;refine wps rfl fun K hK => ?_;have cl0 := (hJ.cells _ mm2).1;try dsimp only at cl0
           go_simp;exact hJ.q hK (by kernel_rfl) rfl
       · intro L' x1 w7 hL hJ;have hfr : Below wr.drew.heap.size wr.drew w7 := hJ.fr;have e17 : x1 90 = .bool pn.1 := hJ.slot 17 (by show 17 < 18; decide) (hL 17 (by show 17 < 18; decide));rw [patchX (x := x1) (d := 90) (v := .bool pn.1) e17];clear hJ hL e17 cb cn cp0 cp1;have L7 := Lib.hid (LadAt.below (w := wr.drew) hLq.out.drew hfr);have C7 := Lib.hid (hCq.out.drew.below hfr);clear hfr;simp only [pN, Nat.reduceEqDiff, ↓reduceIte];cases hneg : pn.1
         · have hif : (if ent R n jj < 0 then turnT R n else R) = R := if_neg (by
            have := Hsg.out; rw [hneg] at this; rw [HeN.out]; simpa using this.symm)
           have HRF := Lib.hid HF2.out; have HSF := Lib.hid HS2.out;rw [hif] at HRF HSF;clear hif;obtain ⟨RF, hRF⟩ : ∃ RF, swapsT a n R = RF := ⟨_, rfl⟩;rw [hRF] at HRF HSF;have HRFe := Lib.hid hRF; clear hRF;go_wp2;go_loopw [8] (fun i_ wq => ∃ (i : Nat) (R8 : List Hd), i <= n /\ a <= i /\ i_ = .int .i64 (i : Int) /\ Hid (swapsT a i R8 = RF) /\ Hid (R8.length = S.R.length) /\ Hid (LadAt wq (S.withR R8)) /\ Hid (Chg S.own w wq) /\ Hid (∀ k, (S.withR R8).own k ↔ S.own k)) (fun i_ _ => (intOf i_).toNat)
           case atStart => exact ⟨n, R, Nat.le_refl _, ha2, rfl, HRFe, hRl, L7, C7, hO⟩
           case round =>
            obtain ⟨i, R8, hin, hai, rfl, hSw, hR8, hL8, hC8, hO8⟩ := hrel;by_cases hia : a < i
            · obtain ⟨i', rfl⟩ : ∃ i', i = i' + 1 := ⟨i - 1, by omega⟩;have hi8 : i' + 1 < R8.length := by have := hR8.out; have := hRl.out; omega
              have hi8' : i' < R8.length := by omega
              have hia1 : (a : Int) < ((i' + 1 : Nat) : Int) := by omega
              have hcast : ((i' + 1 : Nat) : Int) - 1 = (i' : Int) := by omega
              have hms := MSwap_c (S.withR R8) (i' + 1) i' wr hL8.out hi8 hi8' (by omega) (HT.out.good R8);have HMs := Lib.hid hms; clear hms;have hcast2 : ((i' + 1 : Nat) : Int) = (i' : Int) + 1 := by omega
              rw [hcast2] at hia1 hcast HMs ⊢;clear hcast2;have hia2 : (a : Int) < (i' : Int) + 1 := hia1;have hcast3 : (i' : Int) + 1 - 1 = (i' : Int) := by omega
              go_wp2_with fail
              refine HMs.out.mono ?_;rintro e w9 ⟨rfl, hL9, hC9⟩;have L9 := Lib.hid hL9;have C9 := Lib.hid (hC8.out.trans (hC9.mono (fun q _ e => (hO8.out q).1 e)));clear hL9 hC9;go_wp2;go_roundw
              case rel =>
               refine ⟨i', swapT R8 (i' + 1) i', by omega, by omega, by go_num, ?_, Lib.hid ((swapT_length ..).trans hR8.out), ?_, C9, Lib.hid (fun q => (own_swapT (S.withR R8) (i' + 1) i' q).trans (hO8.out q))⟩
               · have := hSw.out;unfold swapsT at this;rw [if_neg (by omega)] at this;exact this
               · rw [swapT_eq hi8 hi8']; exact L9
              case measure => simp only [intOf]; omega
            · obtain rfl : i = a := by omega
              have hR8F : R8 = RF := by
               have := hSw.out;cases i with
               | zero => exact this
               | succ q => unfold swapsT at this; rw [if_pos (Nat.le_refl _)] at this; exact this
              subst hR8F;have hset := Settle_c (S.withR R8) (n + 1) B c R' wr hL8.out (by show n + 1 <= R8.length; have := hR8.out; omega) (by omega) HRF.out HSF.out (by show R8.length <= 1000000; have := hR8.out; omega) hc HT.out;have HSet := Lib.hid hset; clear hset;have hcn1 : ((n + 1 : Nat) : Int) = (n : Int) + 1 := by omega
              rw [hcn1] at HSet;clear hcn1;have hgt : ¬ (i : Int) > (i : Int) := by omega
              go_wp2_with fail
              refine HSet.out.mono ?_;rintro e w9 ⟨rfl, hL9, hC9⟩;have L9 := Lib.hid hL9;have C9 := Lib.hid (hC8.out.trans (hC9.mono (fun q _ e => (hO8.out q).1 e)));clear hL9 hC9;go_wp2;go_ret;exact ⟨rfl, L9.out, C9.out⟩
         · have hif : (if ent R n jj < 0 then turnT R n else R) = turnT R n := if_pos (by
            have := Hsg.out; rw [hneg] at this; rw [HeN.out]; simpa using this.symm)
           have hlenN : R[n].xs.length <= 4611686018427387903 := by rw [Hcn.out]; omega
           have hmt := MTurn_c (S.withR R) n w7 L7.out hnR (fun x hx => by have := hF.out.fit _ (List.getElem_mem hnR) x hx; omega) hlenN (HT.out.good R) (HT.out.okR hF.out);have HMt := Lib.hid hmt; clear hmt;go_wp2_with fail
           refine HMt.out.mono ?_;rintro e w8 ⟨rfl, hL8, hC8⟩;have C8 := Lib.hid (C7.out.trans (hC8.mono (fun q _ e => (hO.out q).1 e)));have L8 : Hid (LadAt w8 (S.withR (turnT R n))) := by rw [turnT_eq hnR]; exact hL8
           have O8 : Hid (∀ k, (S.withR (turnT R n)).own k ↔ S.own k) := fun q => (own_turnT (S.withR R) n q).trans (hO.out q);have N8 : Hid ((turnT R n).length = S.R.length) := (turnT_length ..).trans hRl.out;clear hL8 hC8;have HRF := Lib.hid HF2.out; have HSF := Lib.hid HS2.out;rw [hif] at HRF HSF;clear hif;obtain ⟨RF, hRF⟩ : ∃ RF, swapsT a n (turnT R n) = RF := ⟨_, rfl⟩;rw [hRF] at HRF HSF;have HRFe := Lib.hid hRF; clear hRF;go_wp2;go_loopw [8] (fun i_ wq => ∃ (i : Nat) (R8 : List Hd), i <= n /\ a <= i /\ i_ = .int .i64 (i : Int) /\ Hid (swapsT a i R8 = RF) /\ Hid (R8.length = S.R.length) /\ Hid (LadAt wq (S.withR R8)) /\ Hid (Chg S.own w wq) /\ Hid (∀ k, (S.withR R8).own k ↔ S.own k)) (fun i_ _ => (intOf i_).toNat)
           case atStart => exact ⟨n, (turnT R n), Nat.le_refl _, ha2, rfl, HRFe, N8, L8, C8, O8⟩
           case round =>
            obtain ⟨i, R8, hin, hai, rfl, hSw, hR8, hL8, hC8, hO8⟩ := hrel;by_cases hia : a < i
            · obtain ⟨i', rfl⟩ : ∃ i', i = i' + 1 := ⟨i - 1, by omega⟩;have hi8 : i' + 1 < R8.length := by have := hR8.out; have := hRl.out; omega
              have hi8' : i' < R8.length := by omega
              have hia1 : (a : Int) < ((i' + 1 : Nat) : Int) := by omega
              have hcast : ((i' + 1 : Nat) : Int) - 1 = (i' : Int) := by omega
              have hms := MSwap_c (S.withR R8) (i' + 1) i' wr hL8.out hi8 hi8' (by omega) (HT.out.good R8);have HMs := Lib.hid hms; clear hms;have hcast2 : ((i' + 1 : Nat) : Int) = (i' : Int) + 1 := by omega
              rw [hcast2] at hia1 hcast HMs ⊢;clear hcast2;have hia2 : (a : Int) < (i' : Int) + 1 := hia1;have hcast3 : (i' : Int) + 1 - 1 = (i' : Int) := by omega
              go_wp2_with fail
              refine HMs.out.mono ?_;rintro e w9 ⟨rfl, hL9, hC9⟩;have L9 := Lib.hid hL9;have C9 := Lib.hid (hC8.out.trans (hC9.mono (fun q _ e => (hO8.out q).1 e)));clear hL9 hC9;go_wp2;go_roundw
              case rel =>
               refine ⟨i', swapT R8 (i' + 1) i', by omega, by omega, by go_num, ?_, Lib.hid ((swapT_length ..).trans hR8.out), ?_, C9, Lib.hid (fun q => (own_swapT (S.withR R8) (i' + 1) i' q).trans (hO8.out q))⟩
               · have := hSw.out;unfold swapsT at this;rw [if_neg (by omega)] at this;exact this
               · rw [swapT_eq hi8 hi8']; exact L9
              case measure => simp only [intOf]; omega
            · obtain rfl : i = a := by omega
              have hR8F : R8 = RF := by
               have := hSw.out;cases i with
               | zero => exact this
               | succ q => unfold swapsT at this; rw [if_pos (Nat.le_refl _)] at this; exact this
              subst hR8F;have hset := Settle_c (S.withR R8) (n + 1) B c R' wr hL8.out (by show n + 1 <= R8.length; have := hR8.out; omega) (by omega) HRF.out HSF.out (by show R8.length <= 1000000; have := hR8.out; omega) hc HT.out;have HSet := Lib.hid hset; clear hset;have hcn1 : ((n + 1 : Nat) : Int) = (n : Int) + 1 := by omega
              rw [hcn1] at HSet;clear hcn1;have hgt : ¬ (i : Int) > (i : Int) := by omega
              go_wp2_with fail
              refine HSet.out.mono ?_;rintro e w9 ⟨rfl, hL9, hC9⟩;have L9 := Lib.hid hL9;have C9 := Lib.hid (hC8.out.trans (hC9.mono (fun q _ e => (hO8.out q).1 e)));clear hL9 hC9;go_wp2;go_ret;exact ⟨rfl, L9.out, C9.out⟩
def rotT : Nat -> Nat -> List Hd -> List Hd
 | 0, _, R => R
 | k + 1, i, R => rotT k (i + 1) (swapT R i (i + 1))
inductive RedT (B c : Nat) : Nat -> Nat -> List Hd -> Nat -> List Hd -> Prop
 | fin {d e : Nat} {R : List Hd} (h : e <= d) : RedT B c d e R d R
 | ok {d e k : Nat} {R R1 R' : List Hd} (h : d < e) (hp : PutT B c d 0 (-1) R true R1) (hs : RedT B c (d + 1) e R1 k R') : RedT B c d e R k R'
 | zero {d e k : Nat} {R R1 R' : List Hd} (h : d < e) (hp : PutT B c d 0 (-1) R false R1) (hs : RedT B c d (e - 1) (rotT (e - 1 - d) d R1) k R') : RedT B c d e R k R'
theorem SOut.length {B c : Nat} {ls : List Nat} {n m : Nat} {R R' : List Hd} (h : SOut B c ls n m R R') : R'.length = R.length := by
 induction h with
 | done => rfl
 | step h1 _ ih => rw [ih, h1.length]
theorem swapsT_length (a : Nat) : ∀ (i : Nat) (R : List Hd), (swapsT a i R).length = R.length
 | 0, R => rfl
 | i + 1, R => by
  unfold swapsT; split
  · rfl
  · rw [swapsT_length a i, swapT_length]
theorem PutT.length {B c n a : Nat} {l : Int} {R R' : List Hd} {b : Bool} (h : PutT B c n a l R b R') : R'.length = R.length := by
 induction h with
 | zero _ _ hs => exact hs.length
 | stop _ _ _ _ _ _ _ _ _ hs =>
  rw [hs.length, swapsT_length];split
  · exact turnT_length ..
  · rfl
 | meet _ _ _ _ _ _ _ _ _ _ _ _ ih => rw [ih, meetT_length]
theorem own_addR (S : LSt) (R : List Hd) (i j : Nat) (x : Int) (q : Nat) : (S.withR (addT R i j x)).own q ↔ (S.withR R).own q := own_addT (S.withR R) i j x q
theorem own_turnR (S : LSt) (R : List Hd) (i q : Nat) : (S.withR (turnT R i)).own q ↔ (S.withR R).own q := own_turnT (S.withR R) i q
theorem own_meetR (S : LSt) (R : List Hd) (k n j q : Nat) : (S.withR (meetT R k n j)).own q ↔ (S.withR R).own q := own_meetT (S.withR R) k n j q
theorem own_SIn {B c i n k : Nat} {ls : List Nat} {R R' : List Hd} (h : SIn B c ls i n k R R') : ∀ (S : LSt) (q : Nat), (S.withR R').own q ↔ (S.withR R).own q := by
 induction h with
 | done _ => exact fun _ _ => Iff.rfl
 | step _ _ _ _ _ ih => exact fun S q => (ih S q).trans (own_addR S _ _ _ _ q)
theorem own_SOut {B c n m : Nat} {ls : List Nat} {R R' : List Hd} (h : SOut B c ls n m R R') : ∀ (S : LSt) (q : Nat), (S.withR R').own q ↔ (S.withR R).own q := by
 induction h with
 | done => exact fun _ _ => Iff.rfl
 | step h1 _ ih => exact fun S q => (ih S q).trans (own_SIn h1 S q)
theorem own_swapsT (a : Nat) : ∀ (i : Nat) (R : List Hd) (S : LSt) (q : Nat), (S.withR (swapsT a i R)).own q ↔ (S.withR R).own q
 | 0, R, S, q => Iff.rfl
 | i + 1, R, S, q => by
  unfold swapsT; split
  · exact Iff.rfl
  · exact (own_swapsT a i _ S q).trans (own_swapT (S.withR R) _ _ q)
theorem own_PutT {B c n a : Nat} {l : Int} {R R' : List Hd} {b : Bool} (h : PutT B c n a l R b R') : ∀ (S : LSt) (q : Nat), (S.withR R').own q ↔ (S.withR R).own q := by
 induction h with
 | zero _ _ hs => exact own_SOut hs
 | stop _ _ _ _ _ _ _ _ _ hs =>
  refine fun S q => (own_SOut hs S q).trans ((own_swapsT _ _ _ S q).trans ?_);split
  · exact own_turnR S _ _ q
  · exact Iff.rfl
 | meet _ _ _ _ _ _ _ _ _ _ _ _ ih => exact fun S q => (ih S q).trans (own_meetR S _ _ _ _ q)
set_option maxRecDepth 100000 in
set_option maxHeartbeats 8000000 in
theorem Reduce_c (S : LSt) (B c k : Nat) (R' : List Hd) (w : World) (h : LadAt w S) (hB : B <= 4000000000000) (hP : RedT B c 0 S.R.length S.R k R') (hR : S.R.length <= 100000) (hc : c <= 1000000) (hT : S.sat B c) :
 Calls Tryz.prog 156 #[.pointer (some ⟨S.lb, 0, none⟩)] w fun e w' => e = .returned (.int .i64 (k : Int)) /\ LadAt w' (S.withR R') /\ Chg S.own w w' := by
 have HT := Lib.hid hT; clear hT;have cb : w.cell? ⟨S.lb, 0, none⟩ = some (.slice (some ⟨S.o, 0, none⟩) S.R.length S.cap) := h.lad.cell 0;have HL := Lib.hid h; clear h;have HP := Lib.hid hP; clear hP;go_enter Tryz.func156, Tryz.ntmps156;go_wp2
 go_region_held3 (fun w' => w'.cell? ⟨S.lb, 0, none⟩ = some (.slice (some ⟨S.o, 0, none⟩) S.R.length S.cap)) (first | exact cb) (fail)
 go_wp2;have HL1 := Lib.hid HL.out.drew;have HC1 := Lib.hid (Chg.refl S.own w).drew;clear cb;go_loopw [3, 4] (fun d_ e_ wr => ∃ (d e : Nat) (R : List Hd), d <= e /\ e <= S.R.length /\ d_ = .int .i64 (d : Int) /\ e_ = .int .i64 (e : Int) /\ Hid (RedT B c d e R k R') /\ Hid (R.length = S.R.length) /\ Hid (LadAt wr (S.withR R)) /\ Hid (Chg S.own w wr) /\ Hid (∀ q, (S.withR R).own q ↔ S.own q)) (fun d_ e_ _ => (intOf e_ - intOf d_).toNat)
 case atStart => exact ⟨0, S.R.length, S.R, Nat.zero_le _, Nat.le_refl _, rfl, rfl, HP, rfl, HL1, HC1, fun _ => Iff.rfl⟩
 case round =>
  obtain ⟨d, e, R, hde, heR, rfl, rfl, hRed, hRl, hL, hC, hO⟩ := hrel;by_cases hd : d < e
  · have hd1 : (d : Int) < (e : Int) := by omega
    have hdR : d < R.length := by have := hRl.out; omega
    have hcase : ∃ b R1, PutT B c d 0 (-1) R b R1 /\ (b = true -> RedT B c (d + 1) e R1 k R') /\ (b = false -> RedT B c d (e - 1) (rotT (e - 1 - d) d R1) k R') := by
     cases hRed.out with
     | fin h => omega
     | ok _ hp hs => exact ⟨true, _, hp, fun _ => hs, fun h => by cases h⟩
     | zero _ hp hs => exact ⟨false, _, hp, fun h => (by cases h), fun _ => hs⟩
    obtain ⟨b, R1, hp, hs1, hs2⟩ := hcase;have hput := Put_c (S.withR R) d B c b R1 wr hL.out hdR hB hp (by show R.length <= 100000; have := hRl.out; omega) hc HT.out;have HPut := Lib.hid hput;have HR1 := Lib.hid (hp.length.trans hRl.out);have HO1 := Lib.hid (fun q => (own_PutT hp S q).trans (hO.out q));have HS1 := Lib.hid hs1;have HS2 := Lib.hid hs2;clear hput hp hs1 hs2 hRed;go_wp2_with fail
    refine HPut.out.mono ?_;rintro e' w2 ⟨rfl, hL2, hC2⟩;have L2 := Lib.hid hL2;have C2 := Lib.hid (hC.out.trans (hC2.mono (fun q _ e => (hO.out q).1 e)));clear hL2 hC2 hL hC;cases b
    · have HSF := Lib.hid (HS2.out rfl);have hec : ((e - 1 : Nat) : Int) = (e : Int) - 1 := by omega
      have Hec := Lib.hid hec; clear hec;go_wp2;go_loopw [5] (fun i_ wq => ∃ (i : Nat) (R2 : List Hd), d <= i /\ i <= e - 1 /\ i_ = .int .i64 (i : Int) /\ Hid (rotT (e - 1 - i) i R2 = rotT (e - 1 - d) d R1) /\ Hid (R2.length = S.R.length) /\ Hid (LadAt wq (S.withR R2)) /\ Hid (Chg S.own w wq) /\ Hid (∀ q, (S.withR R2).own q ↔ S.own q)) (fun i_ _ => ((e : Int) - intOf i_).toNat)
      case atStart => exact ⟨d, R1, Nat.le_refl _, by omega, rfl, rfl, HR1, L2, C2, HO1⟩
      case round =>
       obtain ⟨i, R2, hdi, hie, rfl, hRot, hR2, hL2, hC2, hO2⟩ := hrel;by_cases hi : i < e - 1
       · have hi1 : (i : Int) < (e : Int) - 1 := by omega
         have hiR : i < R2.length := by have := hR2.out; omega
         have hiR1 : i + 1 < R2.length := by have := hR2.out; omega
         have hms := MSwap_c (S.withR R2) i (i + 1) wr hL2.out hiR hiR1 (by omega) (HT.out.good R2);have hcast : ((i + 1 : Nat) : Int) = (i : Int) + 1 := by omega
         rw [hcast] at hms;have HMs := Lib.hid hms; clear hms hcast;go_wp2_with fail
         refine HMs.out.mono ?_;rintro e'' w9 ⟨rfl, hL9, hC9⟩;have L9 := Lib.hid hL9;have C9 := Lib.hid (hC2.out.trans (hC9.mono (fun q _ e => (hO2.out q).1 e)));clear hL9 hC9;go_wp2;go_roundw
         case rel =>
          refine ⟨i + 1, swapT R2 i (i + 1), by omega, by omega, by go_num, ?_, Lib.hid ((swapT_length ..).trans hR2.out), ?_, C9, Lib.hid (fun q => (own_swapT (S.withR R2) i (i + 1) q).trans (hO2.out q))⟩
          · have h2 := hRot.out;have h3 : e - 1 - i = (e - 1 - (i + 1)) + 1 := by omega
            rw [h3] at h2;exact h2
          · rw [swapT_eq hiR hiR1]; exact L9
         case measure => simp only [intOf]; omega
       · have hi1 : ¬ (i : Int) < (e : Int) - 1 := by omega
         have hie2 : e - 1 - i = 0 := by omega
         have hfin : R2 = rotT (e - 1 - d) d R1 := by
          have h2 := hRot.out;rw [hie2] at h2;exact h2
         have HFin := Lib.hid hfin; clear hfin hie2;go_wp2;go_roundw
         case rel =>
          refine ⟨d, e - 1, R2, by omega, by omega, by go_num, by go_num, ?_, hR2, hL2, hC2, hO2⟩;rw [HFin.out];exact HSF
         case measure => simp only [intOf]; omega
    · have HSF := Lib.hid (HS1.out rfl);go_wp2;go_roundw
      case rel => exact ⟨d + 1, e, R1, by omega, by omega, by go_num, by go_num, HSF, HR1, L2, C2, HO1⟩
      case measure => simp only [intOf]; omega
  · have hd1 : ¬ (d : Int) < (e : Int) := by omega
    have hfin : d = k /\ R = R' := by
     cases hRed.out with
     | fin h => exact ⟨rfl, rfl⟩
     | ok h _ _ => omega
     | zero h _ _ => omega
    have HFin := Lib.hid hfin; clear hfin;go_wp2;go_ret;rw [<- HFin.out.1, <- HFin.out.2];exact ⟨rfl, hL.out, hC.out⟩
end Go.Proofs.YtajmkebkgmbfnaaGreat
namespace Go.Proofs.YtajmkebkgmbfnaaGreat
def sm : Nat -> (Nat -> Int) -> Int
 | 0, _ => 0
 | n + 1, f => sm n f + f n
theorem sm_congr {n : Nat} {f g : Nat -> Int} (h : ∀ k, k < n -> f k = g k) : sm n f = sm n g := by
 induction n with
 | zero => rfl
 | succ n ih => unfold sm; rw [ih (fun k hk => h k (by omega)), h n (by omega)]
theorem sm_zero {n : Nat} {f : Nat -> Int} (h : ∀ k, k < n -> f k = 0) : sm n f = 0 := by
 induction n with
 | zero => rfl
 | succ n ih => unfold sm; rw [ih (fun k hk => h k (by omega)), h n (by omega)]; rfl
theorem sm_add (n : Nat) (f g : Nat -> Int) : sm n (fun k => f k + g k) = sm n f + sm n g := by
 induction n with
 | zero => rfl
 | succ n ih => simp only [sm, ih]; omega
theorem sm_sub (n : Nat) (f g : Nat -> Int) : sm n (fun k => f k - g k) = sm n f - sm n g := by
 induction n with
 | zero => rfl
 | succ n ih => simp only [sm, ih]; omega
theorem sm_mul (n : Nat) (c : Int) (f : Nat -> Int) : sm n (fun k => c * f k) = c * sm n f := by
 induction n with
 | zero => simp [sm]
 | succ n ih => simp only [sm, ih, Int.mul_add]
theorem sm_one {n : Nat} {f : Nat -> Int} (i : Nat) (hi : i < n) (h : ∀ k, k < n -> k ≠ i -> f k = 0) : sm n f = f i := by
 induction n with
 | zero => omega
 | succ n ih =>
  unfold sm;by_cases e : i = n
  · subst e; rw [sm_zero (fun k hk => h k (by omega) (by omega))]; omega
  · rw [ih (by omega) (fun k hk hne => h k (by omega) hne), h n (by omega) (fun e' => e e'.symm)]; omega
theorem sm_abs {n : Nat} {f : Nat -> Int} {B : Nat} (h : ∀ k, k < n -> (f k).natAbs <= B) : (sm n f).natAbs <= n * B := by
 induction n with
 | zero => simp [sm]
 | succ n ih =>
  unfold sm;have h1 := ih (fun k hk => h k (by omega));have h2 := h n (by omega);have h3 := Int.natAbs_add_le (sm n f) (f n);rw [Nat.succ_mul]; omega
theorem pigeon : ∀ (n : Nat) (f : Nat -> Nat), (∀ i, i <= n -> f i < n) -> ∃ i j, i < j /\ j <= n /\ f i = f j
 | 0, f, h => by have := h 0 (Nat.le_refl _); omega
 | n + 1, f, h => by
  by_cases hc : ∃ i, i <= n /\ f i = f (n + 1)
  · obtain ⟨i, hi, he⟩ := hc;exact ⟨i, n + 1, by omega, Nat.le_refl _, he⟩
  · have hn : ∀ i, i <= n -> f i ≠ f (n + 1) := fun i hi he => hc ⟨i, hi, he⟩;obtain ⟨i, j, hij, hj, he⟩ := pigeon n (fun i => if f i = n then f (n + 1) else f i) (fun i hi => by
     have h1 := h i (by omega);have h2 := h (n + 1) (Nat.le_refl _);have h3 := hn i hi;split <;> omega)
    refine ⟨i, j, hij, by omega, ?_⟩;have h1 := hn i (by omega);have h2 := hn j hj;split at he <;> split at he <;> omega
def encQ (Q : Nat) (v : Nat -> Nat) : Nat -> Nat
 | 0 => 0
 | s + 1 => encQ Q v s + v s * Q ^ s
theorem encQ_lt {Q : Nat} {v : Nat -> Nat} : ∀ {s : Nat}, (∀ j, j < s -> v j < Q) -> encQ Q v s < Q ^ s
 | 0, _ => by simp [encQ]
 | s + 1, h => by
  have h1 := encQ_lt (s := s) (fun j hj => h j (by omega));have h2 := h s (by omega);have h3 : (v s + 1) * Q ^ s <= Q * Q ^ s := Nat.mul_le_mul_right _ h2;rw [Nat.succ_mul] at h3;rw [Nat.pow_succ, Nat.mul_comm];unfold encQ; omega
theorem encQ_inj {Q : Nat} {u v : Nat -> Nat} : ∀ {s : Nat}, (∀ j, j < s -> u j < Q) -> (∀ j, j < s -> v j < Q) -> encQ Q u s = encQ Q v s -> ∀ j, j < s -> u j = v j
 | 0, _, _, _, j, hj => by omega
 | s + 1, hu, hv, he, j, hj => by
  have h1 := encQ_lt (s := s) (fun j hj => hu j (by omega));have h2 := encQ_lt (s := s) (fun j hj => hv j (by omega));have hp : 0 < Q ^ s := by omega
  unfold encQ at he;have d1 : (encQ Q u s + u s * Q ^ s) / Q ^ s = u s := by rw [Nat.add_mul_div_right _ _ hp, Nat.div_eq_of_lt h1, Nat.zero_add]
  have d2 : (encQ Q v s + v s * Q ^ s) / Q ^ s = v s := by rw [Nat.add_mul_div_right _ _ hp, Nat.div_eq_of_lt h2, Nat.zero_add]
  have hs : u s = v s := by rw [<- d1, <- d2, he]
  by_cases e : j = s
  · subst e; exact hs
  · rw [hs] at he;exact encQ_inj (s := s) (fun j hj => hu j (by omega)) (fun j hj => hv j (by omega)) (by omega) j (by omega)
theorem encQ_digits (Q n : Nat) : ∀ s, encQ Q (fun k => n / Q ^ k % Q) s = n % Q ^ s
 | 0 => by simp [encQ, Nat.mod_one]
 | s + 1 => by
  unfold encQ;rw [encQ_digits Q n s, Nat.mod_pow_succ, Nat.mul_comm]
theorem siegel (r s M : Nat) (A : Nat -> Nat -> Int) (hs : s < r) (hA : ∀ k j, k < r -> j < s -> (A k j).natAbs <= M) :
 ∃ x : Nat -> Int, (∃ k, k < r /\ x k ≠ 0) /\ (∀ k, k < r -> (x k).natAbs <= (2 * r * M + 1) ^ s) /\ ∀ j, j < s -> sm r (fun k => x k * A k j) = 0 := by
 obtain ⟨T, hT⟩ : ∃ T, (2 * r * M + 1) ^ s = T := ⟨_, rfl⟩;obtain ⟨V, hV⟩ : ∃ V, r * (T * M) = V := ⟨_, rfl⟩;have hTp : 0 < T := by rw [<- hT]; exact Nat.pow_pos (by omega)
 have hy : ∀ n j, j < s -> (sm r (fun k => ((n / (T + 1) ^ k % (T + 1) : Nat) : Int) * A k j)).natAbs <= V := by
  intro n j hj;rw [<- hV];refine sm_abs (fun k hk => ?_);rw [Int.natAbs_mul, Int.natAbs_natCast];have h1 : n / (T + 1) ^ k % (T + 1) < T + 1 := Nat.mod_lt _ (by omega);exact Nat.mul_le_mul (by omega) (hA k j hk hj)
 have hQ : (2 * V + 1) ^ s < (T + 1) ^ r := by
  have h1 : 2 * V + 1 <= (2 * r * M + 1) * (T + 1) := by
   have e1 : (2 * r * M + 1) * (T + 1) = 2 * r * M * T + 2 * r * M + T + 1 := by
    rw [Nat.mul_add, Nat.add_mul]; omega
   have e2 : 2 * r * M * T = 2 * V := by
    rw [<- hV]; simp only [Nat.mul_assoc, Nat.mul_comm, Nat.mul_left_comm]
   omega
  have h2 : (2 * V + 1) ^ s <= T * (T + 1) ^ s := by
   rw [<- hT, <- Nat.mul_pow, hT]; exact Nat.pow_le_pow_left h1 s
  have h3 : T * (T + 1) ^ s < (T + 1) ^ (s + 1) := by
   rw [Nat.pow_succ, Nat.mul_comm];exact Nat.mul_lt_mul_of_pos_left (by omega) (Nat.pow_pos (by omega))
  have h4 : (T + 1) ^ (s + 1) <= (T + 1) ^ r := Nat.pow_le_pow_right (by omega) hs;omega
 obtain ⟨i, j, hij, hj, he⟩ := pigeon ((2 * V + 1) ^ s) (fun n => encQ (2 * V + 1) (fun q => (sm r (fun k => ((n / (T + 1) ^ k % (T + 1) : Nat) : Int) * A k q) + V).toNat % (2 * V + 1)) s) (fun i _ => encQ_lt (fun q _ => Nat.mod_lt _ (by omega)));have hq := encQ_inj (fun q _ => Nat.mod_lt _ (by omega)) (fun q _ => Nat.mod_lt _ (by omega)) he;refine ⟨fun k => ((j / (T + 1) ^ k % (T + 1) : Nat) : Int) - ((i / (T + 1) ^ k % (T + 1) : Nat) : Int), ?_, ?_, ?_⟩
 · by_cases hc : ∃ k, k < r /\ j / (T + 1) ^ k % (T + 1) ≠ i / (T + 1) ^ k % (T + 1)
   · obtain ⟨k, hk, hne⟩ := hc;refine ⟨k, hk, ?_⟩
     revert hne
     dsimp only;generalize j / (T + 1) ^ k % (T + 1) = a;generalize i / (T + 1) ^ k % (T + 1) = b;omega
   · exfalso;have hall : ∀ k, k < r -> j / (T + 1) ^ k % (T + 1) = i / (T + 1) ^ k % (T + 1) := fun k hk => Classical.byContradiction fun h => hc ⟨k, hk, h⟩;have e1 := encQ_digits (T + 1) i r;have e2 := encQ_digits (T + 1) j r;have e3 : ∀ s', s' <= r -> encQ (T + 1) (fun k => j / (T + 1) ^ k % (T + 1)) s' = encQ (T + 1) (fun k => i / (T + 1) ^ k % (T + 1)) s' := by
      intro s' hs';induction s' with
      | zero => rfl
      | succ q ih => simp only [encQ]; rw [ih (by omega), hall q (by omega)]
     have e4 := e3 r (Nat.le_refl _);rw [e1, e2, Nat.mod_eq_of_lt (by omega), Nat.mod_eq_of_lt (by omega)] at e4;omega
 · intro k hk;have h1 : j / (T + 1) ^ k % (T + 1) < T + 1 := Nat.mod_lt _ (by omega);have h2 : i / (T + 1) ^ k % (T + 1) < T + 1 := Nat.mod_lt _ (by omega);rw [hT]
   revert h1 h2
   dsimp only;generalize j / (T + 1) ^ k % (T + 1) = a;generalize i / (T + 1) ^ k % (T + 1) = b;omega
 · intro q hq';have h1 := hq q hq';have h2 := hy i q hq';have h3 := hy j q hq';have h4 : sm r (fun k => (((j / (T + 1) ^ k % (T + 1) : Nat) : Int) - ((i / (T + 1) ^ k % (T + 1) : Nat) : Int)) * A k q) = sm r (fun k => ((j / (T + 1) ^ k % (T + 1) : Nat) : Int) * A k q) - sm r (fun k => ((i / (T + 1) ^ k % (T + 1) : Nat) : Int) * A k q) := by
    rw [<- sm_sub]; exact sm_congr (fun k _ => Int.sub_mul ..)
   dsimp only at h1 ⊢;rw [h4];generalize sm r (fun k => ((j / (T + 1) ^ k % (T + 1) : Nat) : Int) * A k q) = a at *;generalize sm r (fun k => ((i / (T + 1) ^ k % (T + 1) : Nat) : Int) * A k q) = b at *;rw [Nat.mod_eq_of_lt (by omega), Nat.mod_eq_of_lt (by omega)] at h1;omega
def Sp (n : Nat) (E : Nat -> Nat -> Int) (v : Nat -> Int) : Prop := ∃ x : Nat -> Int, ∀ j, v j = sm n (fun k => x k * E k j)
theorem Sp.zero (n : Nat) (E : Nat -> Nat -> Int) : Sp n E (fun _ => 0) := ⟨fun _ => 0, fun j => (sm_zero (fun k _ => Int.zero_mul _)).symm⟩
theorem Sp.congr {n : Nat} {E : Nat -> Nat -> Int} {v w : Nat -> Int} (h : Sp n E v) (e : ∀ j, w j = v j) : Sp n E w := by
 obtain ⟨x, hx⟩ := h;exact ⟨x, fun j => (e j).trans (hx j)⟩
theorem Sp.add {n : Nat} {E : Nat -> Nat -> Int} {v w : Nat -> Int} (h : Sp n E v) (k : Sp n E w) : Sp n E (fun j => v j + w j) := by
 obtain ⟨x, hx⟩ := h; obtain ⟨y, hy⟩ := k;refine ⟨fun k => x k + y k, fun j => ?_⟩;show v j + w j = _;rw [hx, hy, <- sm_add]; exact sm_congr (fun k _ => (Int.add_mul ..).symm)
theorem Sp.smul {n : Nat} {E : Nat -> Nat -> Int} {v : Nat -> Int} (c : Int) (h : Sp n E v) : Sp n E (fun j => c * v j) := by
 obtain ⟨x, hx⟩ := h;refine ⟨fun k => c * x k, fun j => ?_⟩;show c * v j = _;rw [hx, <- sm_mul]; exact sm_congr (fun k _ => (Int.mul_assoc ..).symm)
theorem Sp.sub {n : Nat} {E : Nat -> Nat -> Int} {v w : Nat -> Int} (h : Sp n E v) (k : Sp n E w) : Sp n E (fun j => v j - w j) :=
 (h.add (k.smul (-1))).congr (fun j => by omega)
theorem Sp.row {n : Nat} (E : Nat -> Nat -> Int) {k : Nat} (hk : k < n) : Sp n E (E k) := by
 refine ⟨fun i => if i = k then 1 else 0, fun j => ?_⟩;rw [sm_one k hk (fun i _ hne => by simp [hne])]; simp
theorem Sp.sm {n m : Nat} {E : Nat -> Nat -> Int} {F : Nat -> Nat -> Int} {x : Nat -> Int} (h : ∀ k, k < m -> Sp n E (F k)) : Sp n E (fun j => sm m (fun k => x k * F k j)) := by
 induction m with
 | zero => exact Sp.zero n E
 | succ m ih => exact (ih (fun k hk => h k (by omega))).add ((h m (by omega)).smul (x m))
theorem Sp.trans {n m : Nat} {E F : Nat -> Nat -> Int} {v : Nat -> Int} (hv : Sp m F v) (h : ∀ k, k < m -> Sp n E (F k)) : Sp n E v := by
 obtain ⟨x, hx⟩ := hv;exact (Sp.sm (x := x) h).congr hx
def SpEq (n : Nat) (E : Nat -> Nat -> Int) (m : Nat) (F : Nat -> Nat -> Int) : Prop := (∀ k, k < n -> Sp m F (E k)) /\ ∀ k, k < m -> Sp n E (F k)
theorem SpEq.refl (n : Nat) (E : Nat -> Nat -> Int) : SpEq n E n E := ⟨fun k hk => Sp.row E hk, fun k hk => Sp.row E hk⟩
theorem SpEq.symm {n m : Nat} {E F : Nat -> Nat -> Int} (h : SpEq n E m F) : SpEq m F n E := ⟨h.2, h.1⟩
theorem SpEq.trans {n m l : Nat} {E F G : Nat -> Nat -> Int} (h : SpEq n E m F) (k : SpEq m F l G) : SpEq n E l G :=
 ⟨fun i hi => (h.1 i hi).trans k.1, fun i hi => (k.2 i hi).trans h.2⟩
theorem SpEq.of_eq {n : Nat} {E F : Nat -> Nat -> Int} (h : ∀ k, k < n -> ∀ j, E k j = F k j) : SpEq n E n F :=
 ⟨fun k hk => (Sp.row F hk).congr (h k hk), fun k hk => (Sp.row E hk).congr (fun j => (h k hk j).symm)⟩
structure Ech (n c : Nat) (E : Nat -> Nat -> Int) (l : Nat -> Nat) : Prop where
 inc : ∀ i k, i < k -> k < n -> l i < l k
 lt : ∀ i, i < n -> l i < c
 zero : ∀ i, i < n -> ∀ j, j < l i -> E i j = 0
 pos : ∀ i, i < n -> 0 < E i (l i)
structure Herm (n c : Nat) (E : Nat -> Nat -> Int) (l : Nat -> Nat) : Prop extends Ech n c E l where
 red : ∀ i k, i < k -> k < n -> 0 <= E i (l k) /\ E i (l k) < E k (l k)
theorem Ech.at {n c : Nat} {E : Nat -> Nat -> Int} {l : Nat -> Nat} (h : Ech n c E l) (x : Nat -> Int) {k : Nat} (hk : k < n) (h0 : ∀ i, i < k -> x i = 0) : sm n (fun i => x i * E i (l k)) = x k * E k (l k) := by
 refine sm_one k hk (fun i hi hne => ?_);rcases Nat.lt_or_gt_of_ne hne with hlt | hgt
 · rw [h0 i hlt, Int.zero_mul]
 · rw [h.zero i hi _ (h.inc k i hgt hi), Int.mul_zero]
theorem Ech.small {n c : Nat} {E : Nat -> Nat -> Int} {l : Nat -> Nat} (h : Ech n c E l) (x : Nat -> Int) : ∀ m, m <= n -> (∀ k, k < m -> (sm n (fun i => x i * E i (l k))).natAbs < (E k (l k)).natAbs) -> ∀ k, k < m -> x k = 0
 | 0, _, _, k, hk => by omega
 | m + 1, hm, hs, k, hk => by
  have ih := Ech.small h x m (by omega) (fun k hk => hs k (by omega));by_cases e : k = m
  · subst e;have h1 := hs k (by omega);rw [h.at x (by omega) ih, Int.natAbs_mul] at h1;have h2 : ¬ 0 < (x k).natAbs := fun h3 => by
     have := Nat.mul_le_mul_right (E k (l k)).natAbs h3;omega
    omega
  · exact ih k (by omega)
theorem Ech.none {n c : Nat} {E : Nat -> Nat -> Int} {l : Nat -> Nat} (h : Ech n c E l) {v : Nat -> Int} (hv : Sp n E v) (hs : ∀ k, k < n -> (v (l k)).natAbs < (E k (l k)).natAbs) (j : Nat) : v j = 0 := by
 obtain ⟨x, hx⟩ := hv;have h0 := h.small x n (Nat.le_refl _) (fun k hk => by rw [<- hx]; exact hs k hk);rw [hx, sm_zero (fun k hk => by rw [h0 k hk, Int.zero_mul])]
theorem Ech.none0 {n c : Nat} {E : Nat -> Nat -> Int} {l : Nat -> Nat} (h : Ech n c E l) {v : Nat -> Int} (hv : Sp n E v) (hs : ∀ k, k < n -> v (l k) = 0) (j : Nat) : v j = 0 :=
 h.none hv (fun k hk => by have := h.pos k hk; rw [hs k hk]; omega) j
theorem Ech.lead {n c : Nat} {E : Nat -> Nat -> Int} {l : Nat -> Nat} (h : Ech n c E l) {v : Nat -> Int} (hv : Sp n E v) {q : Nat} (hq : v q ≠ 0) (h0 : ∀ j, j < q -> v j = 0) : ∃ k, k < n /\ l k = q /\ E k q ∣ v q := by
 obtain ⟨x, hx⟩ := hv;have key : ∀ m, m <= n -> (∃ k, k < m /\ l k = q /\ E k q ∣ v q) ∨ (∀ k, k < m -> x k = 0 ∨ q < l k) := by
  intro m;induction m with
  | zero => exact fun _ => .inr (fun k hk => by omega)
  | succ m ih =>
   intro hm;rcases ih (by omega) with h1 | h1
   · obtain ⟨k, hk, h2⟩ := h1; exact .inl ⟨k, by omega, h2⟩
   · by_cases hlt : q < l m
     · exact .inr (fun k hk => by
        by_cases e : k = m
        · subst e; exact .inr hlt
        · exact h1 k (by omega))
     · have hz : ∀ i, i < m -> x i = 0 := fun i hi => (h1 i hi).elim id (fun h2 => by have := h.inc i m hi (by omega); omega);have h3 := h.at x (by omega : m < n) hz;rw [<- hx] at h3;by_cases e : l m = q
       · refine .inl ⟨m, by omega, e, ?_⟩;rw [e] at h3; rw [h3]; exact Int.dvd_mul_left ..
       · have h4 : v (l m) = 0 := h0 _ (by omega);rw [h4] at h3;have h5 := h.pos m (by omega);have h6 : x m = 0 := by
          rcases Int.mul_eq_zero.1 h3.symm with h7 | h7
          · exact h7
          · omega
         exact .inr (fun k hk => by
          by_cases e : k = m
          · subst e; exact .inl h6
          · exact .inl (hz k (by omega)))
 rcases key n (Nat.le_refl _) with h1 | h1
 · exact h1
 · exfalso;apply hq;rw [hx];refine sm_zero (fun k hk => ?_);rcases h1 k hk with h2 | h2
   · rw [h2, Int.zero_mul]
   · rw [h.zero k hk _ h2, Int.mul_zero]
theorem Ech.same {n m c c' : Nat} {E F : Nat -> Nat -> Int} {l l' : Nat -> Nat} (h : Ech n c E l) (h' : Ech m c' F l') (hs : SpEq n E m F) : n = m /\ ∀ k, k < n -> l k = l' k /\ E k (l k) = F k (l k) := by
 have one : ∀ {n m c c' : Nat} {E F : Nat -> Nat -> Int} {l l' : Nat -> Nat}, Ech n c E l -> Ech m c' F l' -> SpEq n E m F -> ∀ k, (∀ i, i < k -> i < n -> i < m -> l i = l' i) -> k < n -> (∀ i, i < k -> i < m) -> k < m /\ l' k <= l k /\ ∀ t, t < m -> l' t = l k -> F t (l k) ∣ E k (l k) := by
  intro n m c c' E F l l' h h' hs k ih hk hkm;obtain ⟨t, ht, e, hd⟩ := h'.lead (hs.1 k hk) (q := l k) (by have := h.pos k hk; omega) (h.zero k hk);have h1 : k <= t := by
   by_cases h2 : k <= t
   · exact h2
   · exfalso;have h3 := ih t (by omega) (by omega) ht;have h4 := h.inc t k (by omega) hk;omega
  have h2 : k < m := by omega
  refine ⟨h2, ?_, ?_⟩
  · rcases Nat.lt_or_eq_of_le h1 with h3 | h3
    · have := h'.inc k t h3 ht; omega
    · subst h3; omega
  · intro t' ht' e';have : t' = t := by
     rcases Nat.lt_trichotomy t' t with h3 | h3 | h3
     · have := h'.inc t' t h3 ht; omega
     · exact h3
     · have := h'.inc t t' h3 ht'; omega
    subst this; exact hd
 have all : ∀ k, (k < n ↔ k < m) /\ (k < n -> l k = l' k /\ E k (l k) = F k (l k)) := by
  intro k;induction k using Nat.strongRecOn with
  | _ k ih =>
   have h1 : k < n -> k < m := fun hk => (one h h' hs k (fun i hi hn _ => ((ih i hi).2 hn).1) hk (fun i hi => (ih i hi).1.1 (by omega))).1;have h2 : k < m -> k < n := fun hk => (one h' h hs.symm k (fun i hi hm _ => ((ih i hi).2 ((ih i hi).1.2 hm)).1.symm) hk (fun i hi => (ih i hi).1.2 (by omega))).1;refine ⟨⟨h1, h2⟩, fun hk => ?_⟩;have h3 := one h h' hs k (fun i hi hn _ => ((ih i hi).2 hn).1) hk (fun i hi => (ih i hi).1.1 (by omega));have h4 := one h' h hs.symm k (fun i hi hm _ => ((ih i hi).2 ((ih i hi).1.2 hm)).1.symm) (h1 hk) (fun i hi => (ih i hi).1.2 (by omega));have e : l k = l' k := by omega
   refine ⟨e, ?_⟩;have d1 := h3.2.2 k (h1 hk) e.symm;have d2 := h4.2.2 k hk e;rw [<- e] at d2;have p1 := h.pos k hk;have p2 := h'.pos k (h1 hk);rw [<- e] at p2;exact Int.dvd_antisymm (Int.le_of_lt p1) (Int.le_of_lt p2) d2 d1
 refine ⟨?_, fun k hk => (all k).2 hk⟩;have h1 := (all n).1;have h2 := (all m).1;omega
theorem Herm.unique {n m c c' : Nat} {E F : Nat -> Nat -> Int} {l l' : Nat -> Nat} (h : Herm n c E l) (h' : Herm m c' F l') (hs : SpEq n E m F) : n = m /\ (∀ k, k < n -> l k = l' k) /\ ∀ k, k < n -> ∀ j, E k j = F k j := by
 obtain ⟨hnm, hl⟩ := h.toEch.same h'.toEch hs;refine ⟨hnm, fun k hk => (hl k hk).1, fun i hi j => ?_⟩;have hw : Sp n E (fun j => E i j - F i j) := (Sp.row E hi).sub (hs.2 i (by omega));have := h.toEch.none hw (fun k hk => ?_) j
 · omega
 · have hlk := hl k hk;have hp := h.pos k hk;rcases Nat.lt_trichotomy k i with h1 | h1 | h1
   · have e1 : E i (l k) = 0 := h.zero i hi _ (h.inc k i h1 hi);have e2 : F i (l k) = 0 := h'.zero i (by omega) _ (by rw [hlk.1]; exact h'.inc k i h1 (by omega));rw [e1, e2]; omega
   · subst h1;have := hlk.2; omega
   · have r1 := h.red i k h1 hk;have r2 := h'.red i k h1 (by omega);rw [<- hlk.1, <- hlk.2] at r2;omega
def Indep (n : Nat) (a : Nat -> Nat -> Int) : Prop := ∀ x : Nat -> Int, (∀ j, sm n (fun k => x k * a k j) = 0) -> ∀ k, k < n -> x k = 0
theorem common : ∀ (n : Nat) (Y : Nat -> Int), (∀ k, k < n -> Y k ≠ 0) -> ∃ d : Int, d ≠ 0 /\ ∀ k, k < n -> Y k ∣ d
 | 0, _, _ => ⟨1, by omega, fun k hk => by omega⟩
 | n + 1, Y, h => by
  obtain ⟨d, hd, hk⟩ := common n Y (fun k hk => h k (by omega));refine ⟨d * Y n, fun e => ?_, fun k hk' => ?_⟩
  · rcases Int.mul_eq_zero.1 e with e | e
    · exact hd e
    · exact h n (by omega) e
  · by_cases e : k = n
    · subst e; exact Int.dvd_mul_left ..
    · exact Int.dvd_mul_of_dvd_left (hk k (by omega))
def hermD (n M : Nat) : Nat := n * (n * ((2 * n * M + 1) ^ (n - 1) * M)) * (n * ((2 * n * M + 1) ^ (n - 1) * M))
theorem Herm.bound {n c M : Nat} {E : Nat -> Nat -> Int} {l : Nat -> Nat} (h : Herm n c E l) {a : Nat -> Nat -> Int} (ha : ∀ k, k < n -> Sp n E (a k)) (hi : Indep n a) (hM : ∀ k j, k < n -> (a k j).natAbs <= M) : ∀ i j, i < n -> (E i j).natAbs <= hermD n M := by
 obtain ⟨D, hD⟩ : ∃ D, n * ((2 * n * M + 1) ^ (n - 1) * M) = D := ⟨_, rfl⟩;have hy : ∀ i, i < n -> ∃ y : Nat -> Int, Sp n E y /\ (∀ j, (y j).natAbs <= D) /\ (∀ k, k < n -> k ≠ i -> y (l k) = 0) /\ y (l i) ≠ 0 := by
  intro i hin;obtain ⟨x, ⟨k0, hk0, hx0⟩, hxb, hxz⟩ := siegel n (n - 1) M (fun k q => a k (l (if q < i then q else q + 1))) (by omega) (fun k j hk _ => hM k _ hk);have hz : ∀ k, k < n -> k ≠ i -> sm n (fun t => x t * a t (l k)) = 0 := by
   intro k hk hne;rcases Nat.lt_or_gt_of_ne hne with h1 | h1
   · have := hxz k (by omega);simpa [h1] using this
   · have := hxz (k - 1) (by omega);have e : ¬ k - 1 < i := by omega
     have e2 : k - 1 + 1 = k := by omega
     simpa [e, e2] using this
  have hsp : Sp n E (fun j => sm n (fun k => x k * a k j)) := Sp.sm ha;refine ⟨fun j => sm n (fun k => x k * a k j), hsp, fun j => ?_, hz, fun e => ?_⟩
  · rw [<- hD];refine sm_abs (fun k hk => ?_);rw [Int.natAbs_mul];exact Nat.mul_le_mul (hxb k hk) (hM k j hk)
  · have h0 := h.toEch.none0 hsp (fun k hk => by
     by_cases e' : k = i
     · subst e'; exact e
     · exact hz k hk e')
    exact hx0 (hi x h0 k0 hk0)
 have hpiv : ∀ i, i < n -> (E i (l i)).natAbs <= D := by
  intro i hin;obtain ⟨y, hs, hb, hz, hn⟩ := hy i hin;obtain ⟨x, hx⟩ := hs;have h0 : ∀ k, k < i -> x k = 0 := h.toEch.small x i (by omega) (fun k hk => by
   rw [<- hx, hz k (by omega) (by omega)]; have := h.pos k (by omega); omega)
  have h1 := h.toEch.at x hin h0;rw [<- hx] at h1;have h2 := hb (l i);rw [h1, Int.natAbs_mul] at h2;have h3 : 1 <= (x i).natAbs := by
   have : x i ≠ 0 := fun e => hn (by rw [h1, e, Int.zero_mul]);omega
  have h4 := Nat.mul_le_mul_right (E i (l i)).natAbs h3;omega
 have hent : ∀ i k, i < n -> k < n -> (E i (l k)).natAbs <= D := by
  intro i k hin hk;rcases Nat.lt_trichotomy i k with h1 | h1 | h1
  · have := h.red i k h1 hk; have := hpiv k hk; omega
  · subst h1; exact hpiv i hin
  · rw [h.zero i hin _ (h.inc k i h1 hin)]; simp
 intro i j hin;obtain ⟨y, hY⟩ : ∃ y : Nat -> Nat -> Int, ∀ i, i < n -> Sp n E (y i) /\ (∀ j, (y i j).natAbs <= D) /\ (∀ k, k < n -> k ≠ i -> y i (l k) = 0) /\ y i (l i) ≠ 0 := by
  refine ⟨fun i => if hin : i < n then Classical.choose (hy i hin) else fun _ => 0, fun i hin => ?_⟩;simp only [hin, dif_pos];exact Classical.choose_spec (hy i hin)
 obtain ⟨d, hd, hdv⟩ := common n (fun k => y k (l k)) (fun k hk => (hY k hk).2.2.2);obtain ⟨q, hq⟩ : ∃ q : Nat -> Int, ∀ k, k < n -> d = q k * y k (l k) := by
  refine ⟨fun k => d / y k (l k), fun k hk => ?_⟩;exact (Int.ediv_mul_cancel (hdv k hk)).symm
 have hsp : Sp n E (fun j => d * E i j - sm n (fun k => (E i (l k) * q k) * y k j)) := ((Sp.row E hin).smul d).sub (Sp.sm (fun k hk => (hY k hk).1));have h0 := h.toEch.none0 hsp (fun m hm => by
  rw [sm_one m hm (fun k hk hne => by rw [(hY k hk).2.2.1 m hm (fun e => hne e.symm), Int.mul_zero])];rw [Int.mul_assoc, <- hq m hm, Int.mul_comm]; omega) j
 have hb : (sm n (fun k => (E i (l k) * q k) * y k j)).natAbs <= n * (D * d.natAbs * D) := by
  refine sm_abs (fun k hk => ?_);rw [Int.natAbs_mul, Int.natAbs_mul];have h1 : (q k).natAbs <= d.natAbs := by
   have e := congrArg Int.natAbs (hq k hk);rw [Int.natAbs_mul] at e;have h2 : 1 <= (y k (l k)).natAbs := by have := (hY k hk).2.2.2; omega
   have h3 := Nat.mul_le_mul_left (q k).natAbs h2;omega
  exact Nat.mul_le_mul (Nat.mul_le_mul (hent i k hin hk) h1) ((hY k hk).2.1 j)
 have h1 : (d * E i j).natAbs <= n * (D * d.natAbs * D) := by
  have : d * E i j = sm n (fun k => (E i (l k) * q k) * y k j) := by omega
  rw [this]; exact hb
 rw [Int.natAbs_mul] at h1;have h2 : n * (D * d.natAbs * D) = d.natAbs * (n * D * D) := by
  simp only [Nat.mul_comm, Nat.mul_left_comm, Nat.mul_assoc]
 rw [h2] at h1;have h3 := Nat.le_of_mul_le_mul_left h1 (by omega : 0 < d.natAbs);unfold hermD;rw [hD]; exact h3
end Go.Proofs.YtajmkebkgmbfnaaGreat
