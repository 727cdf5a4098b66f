-- Parts of the proof, joined by pack.py, this claim's own program.
import Derived.Test.YtmaciepkkianhaaDoorXCellOne0
import Derived.Test.YtmaciepkkianhaaDoorXCellOne1
import Derived.Test.YtmaciepkkianhaaDoorXCellOne2
import Derived.Laws.BitsAllLaws
import Derived.Laws.FloatBits
import Derived.WalkKit
import Derived.Lib.SplitLaws
namespace Go.Proofs.YtmaciepkkianhaaDoor.QCell
open Go.Proofs.YtmaciepkkianhaaDoor.H
attribute [local go_sem] ite_signed_u64 ite_signed_u32
open Go.RowKit Go.Proofs.YtmaciepkkianhaaDoorW.PrintWords Go.Proofs.YtmaciepkkianhaaDoorW.PrintLast Go.Proofs.YtmaciepkkianhaaDoorW.PrintMore
attribute [local go_sem] max2_int min2_int max_two min_two max_three min_three max_four min_four   -- for this text's walks alone
set_option linter.unusedVariables false
set_option linter.unusedSimpArgs false

attribute [local go_sem high] eqA23
/-! ### mortmainlaw07_CellOne: function 6 -/
def mortmainlaw07_CellOne.j0 : Nat → ByteArray → ByteArray → ByteArray → Bool → Int → Int → ByteArray → Int → Int → ByteArray → Option (Bool)
  | 0, _, _, _, _, _, _, _, _, _, _ => none
  | k + 1, x0, x1, x2, x44, x359000, x359001, x359002, x360000, x360001, x360002 => if x44 = true then (some true) else ((cell_OfRow.f k x0 x359000 x359001 x359002).bind fun t362 => ((cell_OfRow.f k x1 x360000 x360001 x360002).bind fun t363 => ((cell_OfUniq.f k x0 x1 x359000 x359001 x359002).bind fun t364 => ((cell_OfUniq.f k x0 x2 x360000 x360001 x360002).bind fun t365 => ((cell_OfRef.f k x0 x359000 x359001 x359002 x1 x2 x360000 x360001 x360002).bind fun t366 => ((cell_OfRef.f k x0 x359000 x359001 x359002 x2 x1 x360000 x360001 x360002).bind fun t367 => (if x0.toList = x1.toList then (if ((t362.toList == t363.toList) == (x359000 == x360000 && (x359001 == x360001 && (x359002.toList == x360002.toList)))) = true then (if x1.toList = x2.toList then (if ((t364.toList == t365.toList) == (x359000 == x360000 && (x359001 == x360001 && (x359002.toList == x360002.toList)))) = true then (if ((t366.toList == t367.toList) == (x1.toList == x2.toList)) = true then (if t362.toList = t364.toList then (some false) else (if t364.toList = t366.toList then (some false) else (if t362.toList = t366.toList then (some false) else ((cell_OfTable.f k x0).bind fun t368 => (some (t368.toList != t362.toList)))))) else (some false)) else (some false)) else (if ((t364.toList == t365.toList) == false) = true then (if ((t366.toList == t367.toList) == (x1.toList == x2.toList)) = true then (if t362.toList = t364.toList then (some false) else (if t364.toList = t366.toList then (some false) else (if t362.toList = t366.toList then (some false) else ((cell_OfTable.f k x0).bind fun t369 => (some (t369.toList != t362.toList)))))) else (some false)) else (some false))) else (some false)) else (if ((t362.toList == t363.toList) == false) = true then (if x1.toList = x2.toList then (if ((t364.toList == t365.toList) == (x359000 == x360000 && (x359001 == x360001 && (x359002.toList == x360002.toList)))) = true then (if ((t366.toList == t367.toList) == (x1.toList == x2.toList)) = true then (if t362.toList = t364.toList then (some false) else (if t364.toList = t366.toList then (some false) else (if t362.toList = t366.toList then (some false) else ((cell_OfTable.f k x0).bind fun t370 => (some (t370.toList != t362.toList)))))) else (some false)) else (some false)) else (if ((t364.toList == t365.toList) == false) = true then (if ((t366.toList == t367.toList) == (x1.toList == x2.toList)) = true then (if t362.toList = t364.toList then (some false) else (if t364.toList = t366.toList then (some false) else (if t362.toList = t366.toList then (some false) else ((cell_OfTable.f k x0).bind fun t371 => (some (t371.toList != t362.toList)))))) else (some false)) else (some false))) else (some false)))))))))
def mortmainlaw07_CellOne.f (k : Nat) (a0 : ByteArray) (a1 : ByteArray) (a2 : ByteArray) (a3_0 : Int) (a3_1 : Int) (a3_2 : ByteArray) (a4_0 : Int) (a4_1 : Int) (a4_2 : ByteArray) : Option (Bool) := (mortmainlaw07_alive.f k).bind fun t360 => (if t360 = true then (if (wrap64 ((wrap64 ((wrap64 ((wrap64 ((a0.size : Int) + (a1.size : Int))) + (a2.size : Int))) + (a3_2.size : Int))) + (a4_2.size : Int))) > 100 then (mortmainlaw07_CellOne.j0 k a0 a1 a2 true a3_0 a3_1 a3_2 a4_0 a4_1 a4_2) else ((mortmainlaw07_good.f a0 a1 a2 a3_0 a3_1 a3_2 a4_0 a4_1 a4_2).bind fun t361 => (mortmainlaw07_CellOne.j0 k a0 a1 a2 (!t361) a3_0 a3_1 a3_2 a4_0 a4_1 a4_2))) else (some false))
def mortmainlaw07_CellOne.T5 : Bool × List (List Nat × List Nat) := (true, [([], []), ([], []), ([0, 1], [0, 1]), ([], []), ([], []), ([3, 4, 2], [3, 4]), ([2, 5, 0, 1, 2], [2]), ([5, 6, 0, 1, 2, 3, 4, 5, 6], [5])])
def mortmainlaw07_CellOne.B5 : List Nat := [0, 0, 3, 0, 0, 31, 63, 127]
theorem mortmainlaw07_CellOne.tab5 : rtab .any (opsOf Tryd.f6 5) = mortmainlaw07_CellOne.T5 := by kernel_rfl
theorem mortmainlaw07_CellOne.bits5 : waitsOk mortmainlaw07_CellOne.T5.2 mortmainlaw07_CellOne.B5 = true := by kernel_rfl
def mortmainlaw07_CellOne.T6 : Bool × List (List Nat × List Nat) := (true, [([], []), ([], []), ([], []), ([0, 1, 2], [0, 1, 2]), ([], []), ([], []), ([], []), ([4, 5, 6, 3], [4, 5, 6]), ([3, 7, 0, 1, 2, 3], [3]), ([7, 8, 0, 1, 2, 3, 4, 5, 6, 7, 8], [7])])
def mortmainlaw07_CellOne.B6 : List Nat := [0, 0, 0, 7, 0, 0, 0, 127, 255, 511]
theorem mortmainlaw07_CellOne.tab6 : rtab .any (opsOf Tryd.f6 6) = mortmainlaw07_CellOne.T6 := by kernel_rfl
theorem mortmainlaw07_CellOne.bits6 : waitsOk mortmainlaw07_CellOne.T6.2 mortmainlaw07_CellOne.B6 = true := by kernel_rfl
def mortmainlaw07_CellOne.T7 : Bool × List (List Nat × List Nat) := (true, [([], []), ([], []), ([], []), ([], []), ([], []), ([0, 1, 2, 3, 4], [0, 1, 2, 3, 4]), ([], []), ([], []), ([], []), ([], []), ([], []), ([6, 7, 8, 9, 10, 5], [6, 7, 8, 9, 10]), ([5, 11, 0, 1, 2, 3, 4, 5], [5]), ([11, 12, 0, 1, 2, 3, 4, 5, 6, 7, 8, 9, 10, 11, 12], [11])])
def mortmainlaw07_CellOne.B7 : List Nat := [0, 0, 0, 0, 0, 31, 0, 0, 0, 0, 0, 2047, 4095, 8191]
theorem mortmainlaw07_CellOne.tab7 : rtab .any (opsOf Tryd.f6 7) = mortmainlaw07_CellOne.T7 := by kernel_rfl
theorem mortmainlaw07_CellOne.bits7 : waitsOk mortmainlaw07_CellOne.T7.2 mortmainlaw07_CellOne.B7 = true := by kernel_rfl
set_option maxHeartbeats 8000000 in
set_option maxRecDepth 100000 in
theorem mortmainlaw07_CellOne.calls (k : Nat) (a0 : ByteArray) (a1 : ByteArray) (a2 : ByteArray) (a3_0 : Int) (a3_1 : Int) (a3_2 : ByteArray) (a4_0 : Int) (a4_1 : Int) (a4_2 : ByteArray) (r : Bool) (w : World) (hT : Tabs w) (hr_ : Aside0 (r = true)) (h : mortmainlaw07_CellOne.f k a0 a1 a2 a3_0 a3_1 a3_2 a4_0 a4_1 a4_2 = some r) :
    Calls Tryd.prog 6 #[.string a0, .string a1, .string a2, .agg #[.int .i64 a3_0, .int .i64 a3_1, .string a3_2], .agg #[.int .i64 a4_0, .int .i64 a4_1, .string a4_2]] w fun e w' => e = .returned (.bool r) ∧ Below w.heap.size w w' := by
  have hu23 := Tryd.underlying23
  have HT := Aside0.mk hT
  clear hT
  have HB := Aside0.mk (Below.refl w.heap.size w)
  have H : ((mortmainlaw07_alive.f k).bind fun t360 => (if t360 = true then (if (wrap64 ((wrap64 ((wrap64 ((wrap64 ((a0.size : Int) + (a1.size : Int))) + (a2.size : Int))) + (a3_2.size : Int))) + (a4_2.size : Int))) > 100 then (mortmainlaw07_CellOne.j0 k a0 a1 a2 true a3_0 a3_1 a3_2 a4_0 a4_1 a4_2) else ((mortmainlaw07_good.f a0 a1 a2 a3_0 a3_1 a3_2 a4_0 a4_1 a4_2).bind fun t361 => (mortmainlaw07_CellOne.j0 k a0 a1 a2 (!t361) a3_0 a3_1 a3_2 a4_0 a4_1 a4_2))) else (some false))) = some r := h
  clear h
  replace H := Option.bind_eq_some_iff.mp H
  obtain ⟨t360, A60, H⟩ := H
  replace H : (if t360 = true then (if (wrap64 ((wrap64 ((wrap64 ((wrap64 ((a0.size : Int) + (a1.size : Int))) + (a2.size : Int))) + (a3_2.size : Int))) + (a4_2.size : Int))) > 100 then (mortmainlaw07_CellOne.j0 k a0 a1 a2 true a3_0 a3_1 a3_2 a4_0 a4_1 a4_2) else ((mortmainlaw07_good.f a0 a1 a2 a3_0 a3_1 a3_2 a4_0 a4_1 a4_2).bind fun t361 => (mortmainlaw07_CellOne.j0 k a0 a1 a2 (!t361) a3_0 a3_1 a3_2 a4_0 a4_1 a4_2))) else (some false)) = some r := H
  have A6 := Aside0.mk A60
  clear A60
  by_cases c7 : t360 = true
  · subst c7
    have H1 : (if (wrap64 ((wrap64 ((wrap64 ((wrap64 ((a0.size : Int) + (a1.size : Int))) + (a2.size : Int))) + (a3_2.size : Int))) + (a4_2.size : Int))) > 100 then (mortmainlaw07_CellOne.j0 k a0 a1 a2 true a3_0 a3_1 a3_2 a4_0 a4_1 a4_2) else ((mortmainlaw07_good.f a0 a1 a2 a3_0 a3_1 a3_2 a4_0 a4_1 a4_2).bind fun t361 => (mortmainlaw07_CellOne.j0 k a0 a1 a2 (!t361) a3_0 a3_1 a3_2 a4_0 a4_1 a4_2))) = some r := by rw [if_pos rfl] at H; exact H
    clear H
    have H := H1
    clear H1
    have HC8 := Aside0.mk H
    clear H
    go_enter Tryd.func6, Tryd.ntmps6
    go_upto_region 3 with (first | ((with_reducible refine gate_dst (N := 8) rfl ?_); refine box_event ?hg (N := 8) ?hd (cs := #[.int .i64 a3_0, .int .i64 a3_1, .string a3_2]) (t := 23) ?hr ?_; (case hd => rfl); (case hg => rfl); (case hr => first | (go_simp; done) | (go_simp; rfl)); intro gb358 hg w9 hbox hb; have n0_ := Aside0.mk (below_step (by repeat (first | (with_reducible first | exact HB.out | apply below_alloc | apply pw_below_drewN | apply below_drew1) | exact HB.out)) hb); have n1_ := Aside0.mk (hbox); have n2_ := Aside0.mk ((by rw [hg]; exact (below_size (by repeat (first | (with_reducible first | exact HB.out | apply below_alloc | apply pw_below_drewN | apply below_drew1) | exact HB.out))) : w.heap.size ≤ gb358)); have n3_ := Aside0.mk ((by rw [hg]; exact (below_size (by repeat (first | (with_reducible first | exact HB.out | apply below_alloc | apply pw_below_drewN | apply below_drew1) | exact HB.out))) : w.heap.size ≤ gb358)); clear HB; have HB := n0_; have BK358 := n1_; have GW358 := n2_; have GE358 := n3_; clear n0_ n1_ n2_ n3_; clear hb hbox hg) | ((with_reducible refine gate_dst (N := 9) rfl ?_); refine box_event ?hg (N := 9) ?hd (cs := #[.int .i64 a4_0, .int .i64 a4_1, .string a4_2]) (t := 23) ?hr ?_; (case hd => rfl); (case hg => rfl); (case hr => first | (go_simp; done) | (go_simp; rfl)); intro gb359 hg w10 hbox hb; have n0_ := Aside0.mk (blk_below (g := gb358) (o := .cells #[.int .i64 a3_0, .int .i64 a3_1, .string a3_2] 23 (0, 0)) (by (with_reducible repeat (first | refine blk_drewN ?_ _ | refine blk_drew ?_ | refine blk_alloc ?_ _)); exact BK358.out) hb); have n1_ := Aside0.mk (below_step (by repeat (first | (with_reducible first | exact HB.out | apply below_alloc | apply pw_below_drewN | apply below_drew1 | refine below_set ?_ GE358.out) | exact HB.out)) hb); have n2_ := Aside0.mk (hbox); have n3_ := Aside0.mk ((by rw [hg]; exact (below_size (by repeat (first | (with_reducible first | exact HB.out | apply below_alloc | apply pw_below_drewN | apply below_drew1 | refine below_set ?_ GE358.out) | exact HB.out))) : w.heap.size ≤ gb359)); have n4_ := Aside0.mk ((by rw [hg]; exact (below_size (by repeat (first | (with_reducible first | exact HB.out | apply below_alloc | apply pw_below_drewN | apply below_drew1 | refine below_set ?_ GE358.out) | exact HB.out))) : w.heap.size ≤ gb359)); have n5_ := Aside0.mk ((by rw [hg]; exact Nat.ne_of_lt (blk_lt (g := gb358) (o := .cells #[.int .i64 a3_0, .int .i64 a3_1, .string a3_2] 23 (0, 0)) (by (with_reducible repeat (first | refine blk_drewN ?_ _ | refine blk_drew ?_ | refine blk_alloc ?_ _)); exact BK358.out)) : gb358 ≠ gb359)); have n6_ := Aside0.mk ((by rw [hg]; exact Nat.ne_of_gt (blk_lt (g := gb358) (o := .cells #[.int .i64 a3_0, .int .i64 a3_1, .string a3_2] 23 (0, 0)) (by (with_reducible repeat (first | refine blk_drewN ?_ _ | refine blk_drew ?_ | refine blk_alloc ?_ _)); exact BK358.out)) : gb359 ≠ gb358)); clear BK358; clear HB; have BK358 := n0_; have HB := n1_; have BK359 := n2_; have GW359 := n3_; have GE359 := n4_; have NB358_359 := n5_; have NB359_358 := n6_; clear n0_ n1_ n2_ n3_ n4_ n5_ n6_; clear hb hbox hg) | ((with_reducible refine gate_callee (f := 13) rfl ?_); refine goesL_ (some 17) rfl rfl Tryd.func13 (by kernel_rfl) rfl #[] rfl (by (try simp only [List.map_toArray, List.map_cons, List.map_nil]); first | done | rfl | (simp only [List.length_drop, List.length_take]; rfl)) ?_; (with_reducible refine (mortmainlaw07_alive.calls k  true _ ?side1 A6.out).mono ?_); (case side1 => first | (with_reducible exact HT.out) | (with_reducible exact Tabs.drewN HT.out _) | exact Tabs.below HT.out (by repeat (first | (with_reducible first | exact HB.out | apply below_alloc | apply pw_below_drewN | apply below_drew1 | refine below_set ?_ GE358.out | refine below_set ?_ GE359.out) | exact HB.out))); rintro e w11 ⟨rfl, hb⟩; refine ⟨_, rfl, ?_⟩; have n0_ := Aside0.mk (blk_below (g := gb358) (o := .cells #[.int .i64 a3_0, .int .i64 a3_1, .string a3_2] 23 (0, 0)) (by (with_reducible repeat (first | refine blk_drewN ?_ _ | refine blk_drew ?_ | refine blk_alloc ?_ _)); exact BK358.out) hb); have n1_ := Aside0.mk (blk_below (g := gb359) (o := .cells #[.int .i64 a4_0, .int .i64 a4_1, .string a4_2] 23 (0, 0)) (by (with_reducible repeat (first | refine blk_drewN ?_ _ | refine blk_drew ?_ | refine blk_alloc ?_ _)); exact BK359.out) hb); have n2_ := Aside0.mk (below_step (by repeat (first | (with_reducible first | exact HB.out | apply below_alloc | apply pw_below_drewN | apply below_drew1 | refine below_set ?_ GE358.out | refine below_set ?_ GE359.out) | exact HB.out)) hb); clear BK358; clear BK359; clear HB; have BK358 := n0_; have BK359 := n1_; have HB := n2_; clear n0_ n1_ n2_; (try clear hb); (try clear hb2); (try clear hk); (try clear hi)))
    (try simp only [Act.put, List.setIfInBounds_toArray, List.set_cons_zero, List.set_cons_succ])
    go_cut [44] (fun v44 wc => ∃ (kq : Nat) (x44_7 : Bool), v44 = .bool x44_7 ∧ Aside0 (mortmainlaw07_CellOne.j0 kq a0 a1 a2 x44_7 a3_0 a3_1 a3_2 a4_0 a4_1 a4_2 = some r) ∧ Aside0 (kq ≤ k) ∧ Aside0 (wc.heap[gb358]? = some (.cells #[.int .i64 a3_0, .int .i64 a3_1, .string a3_2] 23 (0, 0))) ∧ Aside0 (wc.heap[gb359]? = some (.cells #[.int .i64 a4_0, .int .i64 a4_1, .string a4_2] 23 (0, 0))) ∧ Aside0 (Below w.heap.size w wc))
    case first =>
      have H := HC8.out
      clear HC8
      by_cases c12 : (wrap64 ((wrap64 ((wrap64 ((wrap64 ((a0.size : Int) + (a1.size : Int))) + (a2.size : Int))) + (a3_2.size : Int))) + (a4_2.size : Int))) > 100
      · rw [if_pos c12] at H
        have c12b0 : decide (100 < (wrap64 ((wrap64 ((wrap64 ((wrap64 ((a0.size : Int) + (a1.size : Int))) + (a2.size : Int))) + (a3_2.size : Int))) + (a4_2.size : Int)))) = true := decide_eq_true c12
        clear c12
        (first | rw [c12b0] | (simp only [i64_w, i32_w]; rw [c12b0]) | skip)
        have H' := Aside0.mk H
        clear H
        have hnb13 := NB358_359.out
        have hnc13 := NB359_358.out
        have hcz14_0 : w11.cell? ⟨gb358, 0, none⟩ = some (.int .i64 a3_0) := (blk_cell BK358.out 0).trans rfl
        have hcz14_1 : w11.cell? ⟨gb358, 1, none⟩ = some (.int .i64 a3_1) := (blk_cell BK358.out 1).trans rfl
        have hcz14_2 : w11.cell? ⟨gb358, 2, none⟩ = some (.string a3_2) := (blk_cell BK358.out 2).trans rfl
        have hfz14_0 := blk_frozen BK358.out 0
        have hfz14_1 := blk_frozen BK358.out 1
        have hfz14_2 := blk_frozen BK358.out 2
        have hcz15_0 : w11.cell? ⟨gb359, 0, none⟩ = some (.int .i64 a4_0) := (blk_cell BK359.out 0).trans rfl
        have hcz15_1 : w11.cell? ⟨gb359, 1, none⟩ = some (.int .i64 a4_1) := (blk_cell BK359.out 1).trans rfl
        have hcz15_2 : w11.cell? ⟨gb359, 2, none⟩ = some (.string a4_2) := (blk_cell BK359.out 2).trans rfl
        have hfz15_0 := blk_frozen BK359.out 0
        have hfz15_1 := blk_frozen BK359.out 1
        have hfz15_2 := blk_frozen BK359.out 2
        go_wp2
        go_meet
        case rel => exact ⟨_, (true), (by first | rfl | (simp; done) | (simp [*]; done) | (generalize ByteArray.toList _ = l_; cases l_ <;> rfl)), H', ⟨by first | omega | exact Nat.le_refl _⟩, ⟨by (with_reducible repeat (first | refine blk_drewN ?_ _ | refine blk_drew ?_ | refine blk_alloc ?_ _)); exact BK358.out⟩, ⟨by (with_reducible repeat (first | refine blk_drewN ?_ _ | refine blk_drew ?_ | refine blk_alloc ?_ _)); exact BK359.out⟩, ⟨by repeat (first | (with_reducible first | exact HB.out | apply below_alloc | apply pw_below_drewN | apply below_drew1 | refine below_set ?_ GE358.out | refine below_set ?_ GE359.out) | exact HB.out)⟩⟩
      · rw [if_neg c12] at H
        have c12b0 : decide (100 < (wrap64 ((wrap64 ((wrap64 ((wrap64 ((a0.size : Int) + (a1.size : Int))) + (a2.size : Int))) + (a3_2.size : Int))) + (a4_2.size : Int)))) = false := decide_eq_false c12
        clear c12
        (first | rw [c12b0] | (simp only [i64_w, i32_w]; rw [c12b0]) | skip)
        replace H := Option.bind_eq_some_iff.mp H
        obtain ⟨t361, A160, H⟩ := H
        replace H : (mortmainlaw07_CellOne.j0 k a0 a1 a2 (!t361) a3_0 a3_1 a3_2 a4_0 a4_1 a4_2) = some r := H
        have A16 := Aside0.mk A160
        clear A160
        have H' := Aside0.mk H
        clear H
        have hnb17 := NB358_359.out
        have hnc17 := NB359_358.out
        have hcz18_0 : w11.cell? ⟨gb358, 0, none⟩ = some (.int .i64 a3_0) := (blk_cell BK358.out 0).trans rfl
        have hcz18_1 : w11.cell? ⟨gb358, 1, none⟩ = some (.int .i64 a3_1) := (blk_cell BK358.out 1).trans rfl
        have hcz18_2 : w11.cell? ⟨gb358, 2, none⟩ = some (.string a3_2) := (blk_cell BK358.out 2).trans rfl
        have hfz18_0 := blk_frozen BK358.out 0
        have hfz18_1 := blk_frozen BK358.out 1
        have hfz18_2 := blk_frozen BK358.out 2
        have hcz19_0 : w11.cell? ⟨gb359, 0, none⟩ = some (.int .i64 a4_0) := (blk_cell BK359.out 0).trans rfl
        have hcz19_1 : w11.cell? ⟨gb359, 1, none⟩ = some (.int .i64 a4_1) := (blk_cell BK359.out 1).trans rfl
        have hcz19_2 : w11.cell? ⟨gb359, 2, none⟩ = some (.string a4_2) := (blk_cell BK359.out 2).trans rfl
        have hfz19_0 := blk_frozen BK359.out 0
        have hfz19_1 := blk_frozen BK359.out 1
        have hfz19_2 := blk_frozen BK359.out 2
        go_wp2_with (first | (go_at_call 14; (with_reducible refine (mortmainlaw07_good.calls a0 a1 a2 a3_0 a3_1 a3_2 a4_0 a4_1 a4_2 t361 _ A16.out).mono ?_); rintro e w20 ⟨rfl, hb⟩; have n0_ := Aside0.mk (blk_below (g := gb358) (o := .cells #[.int .i64 a3_0, .int .i64 a3_1, .string a3_2] 23 (0, 0)) (by (with_reducible repeat (first | refine blk_drewN ?_ _ | refine blk_drew ?_ | refine blk_alloc ?_ _)); exact BK358.out) hb); have n1_ := Aside0.mk (blk_below (g := gb359) (o := .cells #[.int .i64 a4_0, .int .i64 a4_1, .string a4_2] 23 (0, 0)) (by (with_reducible repeat (first | refine blk_drewN ?_ _ | refine blk_drew ?_ | refine blk_alloc ?_ _)); exact BK359.out) hb); have n2_ := Aside0.mk (below_step (by repeat (first | (with_reducible first | exact HB.out | apply below_alloc | apply pw_below_drewN | apply below_drew1 | refine below_set ?_ GE358.out | refine below_set ?_ GE359.out) | exact HB.out)) hb); clear BK358; clear BK359; clear HB; have BK358 := n0_; have BK359 := n1_; have HB := n2_; clear n0_ n1_ n2_; (try clear hb); (try clear hb2); (try clear hk); (try clear hi)))
        go_meet
        case rel => exact ⟨_, (!t361), (by first | rfl | (simp; done) | (simp [*]; done) | (generalize ByteArray.toList _ = l_; cases l_ <;> rfl)), H', ⟨by first | omega | exact Nat.le_refl _⟩, ⟨by (with_reducible repeat (first | refine blk_drewN ?_ _ | refine blk_drew ?_ | refine blk_alloc ?_ _)); exact BK358.out⟩, ⟨by (with_reducible repeat (first | refine blk_drewN ?_ _ | refine blk_drew ?_ | refine blk_alloc ?_ _)); exact BK359.out⟩, ⟨by repeat (first | (with_reducible first | exact HB.out | apply below_alloc | apply pw_below_drewN | apply below_drew1 | refine below_set ?_ GE358.out | refine below_set ?_ GE359.out) | exact HB.out)⟩⟩
    case rest =>
      clear HC8
      try clear c1
      try clear p2
      try clear c6
      try clear p6
      try clear c7
      try clear c12
      try clear c12b0
      try clear c13
      try clear c17
      try clear hcz14_0
      try clear hcz14_1
      try clear hcz14_2
      try clear hcz15_0
      try clear hcz15_1
      try clear hcz15_2
      try clear hcz18_0
      try clear hcz18_1
      try clear hcz18_2
      try clear hcz19_0
      try clear hcz19_1
      try clear hcz19_2
      try clear hfz14_0
      try clear hfz14_1
      try clear hfz14_2
      try clear hfz15_0
      try clear hfz15_1
      try clear hfz15_2
      try clear hfz18_0
      try clear hfz18_1
      try clear hfz18_2
      try clear hfz19_0
      try clear hfz19_1
      try clear hfz19_2
      obtain ⟨kq, x44_7, rfl, HA, HJ7, BK358, BK359, HB⟩ := hcut
      cases kq with
      | zero => exact absurd HA.out (by simp [mortmainlaw07_CellOne.j0])
      | succ kj7 =>
        have H := HA.out
        clear HA
        simp only [mortmainlaw07_CellOne.j0] at H
        by_cases c21 : x44_7 = true
        · subst c21
          have H1 : (some true) = some r := by rw [if_pos rfl] at H; exact H
          clear H
          have H := H1
          clear H1
          obtain rfl := Option.some.inj H
          go_wp2
          go_ret
          exact ⟨by first | rfl | (simp [errW_none, errW_some] <;> rfl) | (simp [*, errW_none, errW_some] <;> rfl), by repeat (first | (with_reducible first | exact HB.out | apply below_alloc | apply pw_below_drewN | apply below_drew1 | refine below_set ?_ GE358.out | refine below_set ?_ GE359.out) | exact HB.out)⟩
        · replace c21 := Bool.eq_false_iff.mpr c21
          subst c21
          have H1 : ((cell_OfRow.f kj7 a0 a3_0 a3_1 a3_2).bind fun t362 => ((cell_OfRow.f kj7 a1 a4_0 a4_1 a4_2).bind fun t363 => ((cell_OfUniq.f kj7 a0 a1 a3_0 a3_1 a3_2).bind fun t364 => ((cell_OfUniq.f kj7 a0 a2 a4_0 a4_1 a4_2).bind fun t365 => ((cell_OfRef.f kj7 a0 a3_0 a3_1 a3_2 a1 a2 a4_0 a4_1 a4_2).bind fun t366 => ((cell_OfRef.f kj7 a0 a3_0 a3_1 a3_2 a2 a1 a4_0 a4_1 a4_2).bind fun t367 => (if a0.toList = a1.toList then (if ((t362.toList == t363.toList) == (a3_0 == a4_0 && (a3_1 == a4_1 && (a3_2.toList == a4_2.toList)))) = true then (if a1.toList = a2.toList then (if ((t364.toList == t365.toList) == (a3_0 == a4_0 && (a3_1 == a4_1 && (a3_2.toList == a4_2.toList)))) = true then (if ((t366.toList == t367.toList) == (a1.toList == a2.toList)) = true then (if t362.toList = t364.toList then (some false) else (if t364.toList = t366.toList then (some false) else (if t362.toList = t366.toList then (some false) else ((cell_OfTable.f kj7 a0).bind fun t368 => (some (t368.toList != t362.toList)))))) else (some false)) else (some false)) else (if ((t364.toList == t365.toList) == false) = true then (if ((t366.toList == t367.toList) == (a1.toList == a2.toList)) = true then (if t362.toList = t364.toList then (some false) else (if t364.toList = t366.toList then (some false) else (if t362.toList = t366.toList then (some false) else ((cell_OfTable.f kj7 a0).bind fun t369 => (some (t369.toList != t362.toList)))))) else (some false)) else (some false))) else (some false)) else (if ((t362.toList == t363.toList) == false) = true then (if a1.toList = a2.toList then (if ((t364.toList == t365.toList) == (a3_0 == a4_0 && (a3_1 == a4_1 && (a3_2.toList == a4_2.toList)))) = true then (if ((t366.toList == t367.toList) == (a1.toList == a2.toList)) = true then (if t362.toList = t364.toList then (some false) else (if t364.toList = t366.toList then (some false) else (if t362.toList = t366.toList then (some false) else ((cell_OfTable.f kj7 a0).bind fun t370 => (some (t370.toList != t362.toList)))))) else (some false)) else (some false)) else (if ((t364.toList == t365.toList) == false) = true then (if ((t366.toList == t367.toList) == (a1.toList == a2.toList)) = true then (if t362.toList = t364.toList then (some false) else (if t364.toList = t366.toList then (some false) else (if t362.toList = t366.toList then (some false) else ((cell_OfTable.f kj7 a0).bind fun t371 => (some (t371.toList != t362.toList)))))) else (some false)) else (some false))) else (some false))))))))) = some r := by rw [if_neg (show ¬ (false = true) by decide)] at H; exact H
          clear H
          have H := H1
          clear H1
          replace H := Option.bind_eq_some_iff.mp H
          obtain ⟨t362, A220, H⟩ := H
          replace H : ((cell_OfRow.f kj7 a1 a4_0 a4_1 a4_2).bind fun t363 => ((cell_OfUniq.f kj7 a0 a1 a3_0 a3_1 a3_2).bind fun t364 => ((cell_OfUniq.f kj7 a0 a2 a4_0 a4_1 a4_2).bind fun t365 => ((cell_OfRef.f kj7 a0 a3_0 a3_1 a3_2 a1 a2 a4_0 a4_1 a4_2).bind fun t366 => ((cell_OfRef.f kj7 a0 a3_0 a3_1 a3_2 a2 a1 a4_0 a4_1 a4_2).bind fun t367 => (if a0.toList = a1.toList then (if ((t362.toList == t363.toList) == (a3_0 == a4_0 && (a3_1 == a4_1 && (a3_2.toList == a4_2.toList)))) = true then (if a1.toList = a2.toList then (if ((t364.toList == t365.toList) == (a3_0 == a4_0 && (a3_1 == a4_1 && (a3_2.toList == a4_2.toList)))) = true then (if ((t366.toList == t367.toList) == (a1.toList == a2.toList)) = true then (if t362.toList = t364.toList then (some false) else (if t364.toList = t366.toList then (some false) else (if t362.toList = t366.toList then (some false) else ((cell_OfTable.f kj7 a0).bind fun t368 => (some (t368.toList != t362.toList)))))) else (some false)) else (some false)) else (if ((t364.toList == t365.toList) == false) = true then (if ((t366.toList == t367.toList) == (a1.toList == a2.toList)) = true then (if t362.toList = t364.toList then (some false) else (if t364.toList = t366.toList then (some false) else (if t362.toList = t366.toList then (some false) else ((cell_OfTable.f kj7 a0).bind fun t369 => (some (t369.toList != t362.toList)))))) else (some false)) else (some false))) else (some false)) else (if ((t362.toList == t363.toList) == false) = true then (if a1.toList = a2.toList then (if ((t364.toList == t365.toList) == (a3_0 == a4_0 && (a3_1 == a4_1 && (a3_2.toList == a4_2.toList)))) = true then (if ((t366.toList == t367.toList) == (a1.toList == a2.toList)) = true then (if t362.toList = t364.toList then (some false) else (if t364.toList = t366.toList then (some false) else (if t362.toList = t366.toList then (some false) else ((cell_OfTable.f kj7 a0).bind fun t370 => (some (t370.toList != t362.toList)))))) else (some false)) else (some false)) else (if ((t364.toList == t365.toList) == false) = true then (if ((t366.toList == t367.toList) == (a1.toList == a2.toList)) = true then (if t362.toList = t364.toList then (some false) else (if t364.toList = t366.toList then (some false) else (if t362.toList = t366.toList then (some false) else ((cell_OfTable.f kj7 a0).bind fun t371 => (some (t371.toList != t362.toList)))))) else (some false)) else (some false))) else (some false)))))))) = some r := H
          have A22 := Aside0.mk A220
          clear A220
          replace H := Option.bind_eq_some_iff.mp H
          obtain ⟨t363, A230, H⟩ := H
          replace H : ((cell_OfUniq.f kj7 a0 a1 a3_0 a3_1 a3_2).bind fun t364 => ((cell_OfUniq.f kj7 a0 a2 a4_0 a4_1 a4_2).bind fun t365 => ((cell_OfRef.f kj7 a0 a3_0 a3_1 a3_2 a1 a2 a4_0 a4_1 a4_2).bind fun t366 => ((cell_OfRef.f kj7 a0 a3_0 a3_1 a3_2 a2 a1 a4_0 a4_1 a4_2).bind fun t367 => (if a0.toList = a1.toList then (if ((t362.toList == t363.toList) == (a3_0 == a4_0 && (a3_1 == a4_1 && (a3_2.toList == a4_2.toList)))) = true then (if a1.toList = a2.toList then (if ((t364.toList == t365.toList) == (a3_0 == a4_0 && (a3_1 == a4_1 && (a3_2.toList == a4_2.toList)))) = true then (if ((t366.toList == t367.toList) == (a1.toList == a2.toList)) = true then (if t362.toList = t364.toList then (some false) else (if t364.toList = t366.toList then (some false) else (if t362.toList = t366.toList then (some false) else ((cell_OfTable.f kj7 a0).bind fun t368 => (some (t368.toList != t362.toList)))))) else (some false)) else (some false)) else (if ((t364.toList == t365.toList) == false) = true then (if ((t366.toList == t367.toList) == (a1.toList == a2.toList)) = true then (if t362.toList = t364.toList then (some false) else (if t364.toList = t366.toList then (some false) else (if t362.toList = t366.toList then (some false) else ((cell_OfTable.f kj7 a0).bind fun t369 => (some (t369.toList != t362.toList)))))) else (some false)) else (some false))) else (some false)) else (if ((t362.toList == t363.toList) == false) = true then (if a1.toList = a2.toList then (if ((t364.toList == t365.toList) == (a3_0 == a4_0 && (a3_1 == a4_1 && (a3_2.toList == a4_2.toList)))) = true then (if ((t366.toList == t367.toList) == (a1.toList == a2.toList)) = true then (if t362.toList = t364.toList then (some false) else (if t364.toList = t366.toList then (some false) else (if t362.toList = t366.toList then (some false) else ((cell_OfTable.f kj7 a0).bind fun t370 => (some (t370.toList != t362.toList)))))) else (some false)) else (some false)) else (if ((t364.toList == t365.toList) == false) = true then (if ((t366.toList == t367.toList) == (a1.toList == a2.toList)) = true then (if t362.toList = t364.toList then (some false) else (if t364.toList = t366.toList then (some false) else (if t362.toList = t366.toList then (some false) else ((cell_OfTable.f kj7 a0).bind fun t371 => (some (t371.toList != t362.toList)))))) else (some false)) else (some false))) else (some false))))))) = some r := H
          have A23 := Aside0.mk A230
          clear A230
          replace H := Option.bind_eq_some_iff.mp H
          obtain ⟨t364, A240, H⟩ := H
          replace H : ((cell_OfUniq.f kj7 a0 a2 a4_0 a4_1 a4_2).bind fun t365 => ((cell_OfRef.f kj7 a0 a3_0 a3_1 a3_2 a1 a2 a4_0 a4_1 a4_2).bind fun t366 => ((cell_OfRef.f kj7 a0 a3_0 a3_1 a3_2 a2 a1 a4_0 a4_1 a4_2).bind fun t367 => (if a0.toList = a1.toList then (if ((t362.toList == t363.toList) == (a3_0 == a4_0 && (a3_1 == a4_1 && (a3_2.toList == a4_2.toList)))) = true then (if a1.toList = a2.toList then (if ((t364.toList == t365.toList) == (a3_0 == a4_0 && (a3_1 == a4_1 && (a3_2.toList == a4_2.toList)))) = true then (if ((t366.toList == t367.toList) == (a1.toList == a2.toList)) = true then (if t362.toList = t364.toList then (some false) else (if t364.toList = t366.toList then (some false) else (if t362.toList = t366.toList then (some false) else ((cell_OfTable.f kj7 a0).bind fun t368 => (some (t368.toList != t362.toList)))))) else (some false)) else (some false)) else (if ((t364.toList == t365.toList) == false) = true then (if ((t366.toList == t367.toList) == (a1.toList == a2.toList)) = true then (if t362.toList = t364.toList then (some false) else (if t364.toList = t366.toList then (some false) else (if t362.toList = t366.toList then (some false) else ((cell_OfTable.f kj7 a0).bind fun t369 => (some (t369.toList != t362.toList)))))) else (some false)) else (some false))) else (some false)) else (if ((t362.toList == t363.toList) == false) = true then (if a1.toList = a2.toList then (if ((t364.toList == t365.toList) == (a3_0 == a4_0 && (a3_1 == a4_1 && (a3_2.toList == a4_2.toList)))) = true then (if ((t366.toList == t367.toList) == (a1.toList == a2.toList)) = true then (if t362.toList = t364.toList then (some false) else (if t364.toList = t366.toList then (some false) else (if t362.toList = t366.toList then (some false) else ((cell_OfTable.f kj7 a0).bind fun t370 => (some (t370.toList != t362.toList)))))) else (some false)) else (some false)) else (if ((t364.toList == t365.toList) == false) = true then (if ((t366.toList == t367.toList) == (a1.toList == a2.toList)) = true then (if t362.toList = t364.toList then (some false) else (if t364.toList = t366.toList then (some false) else (if t362.toList = t366.toList then (some false) else ((cell_OfTable.f kj7 a0).bind fun t371 => (some (t371.toList != t362.toList)))))) else (some false)) else (some false))) else (some false)))))) = some r := H
          have A24 := Aside0.mk A240
          clear A240
          replace H := Option.bind_eq_some_iff.mp H
          obtain ⟨t365, A250, H⟩ := H
          replace H : ((cell_OfRef.f kj7 a0 a3_0 a3_1 a3_2 a1 a2 a4_0 a4_1 a4_2).bind fun t366 => ((cell_OfRef.f kj7 a0 a3_0 a3_1 a3_2 a2 a1 a4_0 a4_1 a4_2).bind fun t367 => (if a0.toList = a1.toList then (if ((t362.toList == t363.toList) == (a3_0 == a4_0 && (a3_1 == a4_1 && (a3_2.toList == a4_2.toList)))) = true then (if a1.toList = a2.toList then (if ((t364.toList == t365.toList) == (a3_0 == a4_0 && (a3_1 == a4_1 && (a3_2.toList == a4_2.toList)))) = true then (if ((t366.toList == t367.toList) == (a1.toList == a2.toList)) = true then (if t362.toList = t364.toList then (some false) else (if t364.toList = t366.toList then (some false) else (if t362.toList = t366.toList then (some false) else ((cell_OfTable.f kj7 a0).bind fun t368 => (some (t368.toList != t362.toList)))))) else (some false)) else (some false)) else (if ((t364.toList == t365.toList) == false) = true then (if ((t366.toList == t367.toList) == (a1.toList == a2.toList)) = true then (if t362.toList = t364.toList then (some false) else (if t364.toList = t366.toList then (some false) else (if t362.toList = t366.toList then (some false) else ((cell_OfTable.f kj7 a0).bind fun t369 => (some (t369.toList != t362.toList)))))) else (some false)) else (some false))) else (some false)) else (if ((t362.toList == t363.toList) == false) = true then (if a1.toList = a2.toList then (if ((t364.toList == t365.toList) == (a3_0 == a4_0 && (a3_1 == a4_1 && (a3_2.toList == a4_2.toList)))) = true then (if ((t366.toList == t367.toList) == (a1.toList == a2.toList)) = true then (if t362.toList = t364.toList then (some false) else (if t364.toList = t366.toList then (some false) else (if t362.toList = t366.toList then (some false) else ((cell_OfTable.f kj7 a0).bind fun t370 => (some (t370.toList != t362.toList)))))) else (some false)) else (some false)) else (if ((t364.toList == t365.toList) == false) = true then (if ((t366.toList == t367.toList) == (a1.toList == a2.toList)) = true then (if t362.toList = t364.toList then (some false) else (if t364.toList = t366.toList then (some false) else (if t362.toList = t366.toList then (some false) else ((cell_OfTable.f kj7 a0).bind fun t371 => (some (t371.toList != t362.toList)))))) else (some false)) else (some false))) else (some false))))) = some r := H
          have A25 := Aside0.mk A250
          clear A250
          replace H := Option.bind_eq_some_iff.mp H
          obtain ⟨t366, A260, H⟩ := H
          replace H : ((cell_OfRef.f kj7 a0 a3_0 a3_1 a3_2 a2 a1 a4_0 a4_1 a4_2).bind fun t367 => (if a0.toList = a1.toList then (if ((t362.toList == t363.toList) == (a3_0 == a4_0 && (a3_1 == a4_1 && (a3_2.toList == a4_2.toList)))) = true then (if a1.toList = a2.toList then (if ((t364.toList == t365.toList) == (a3_0 == a4_0 && (a3_1 == a4_1 && (a3_2.toList == a4_2.toList)))) = true then (if ((t366.toList == t367.toList) == (a1.toList == a2.toList)) = true then (if t362.toList = t364.toList then (some false) else (if t364.toList = t366.toList then (some false) else (if t362.toList = t366.toList then (some false) else ((cell_OfTable.f kj7 a0).bind fun t368 => (some (t368.toList != t362.toList)))))) else (some false)) else (some false)) else (if ((t364.toList == t365.toList) == false) = true then (if ((t366.toList == t367.toList) == (a1.toList == a2.toList)) = true then (if t362.toList = t364.toList then (some false) else (if t364.toList = t366.toList then (some false) else (if t362.toList = t366.toList then (some false) else ((cell_OfTable.f kj7 a0).bind fun t369 => (some (t369.toList != t362.toList)))))) else (some false)) else (some false))) else (some false)) else (if ((t362.toList == t363.toList) == false) = true then (if a1.toList = a2.toList then (if ((t364.toList == t365.toList) == (a3_0 == a4_0 && (a3_1 == a4_1 && (a3_2.toList == a4_2.toList)))) = true then (if ((t366.toList == t367.toList) == (a1.toList == a2.toList)) = true then (if t362.toList = t364.toList then (some false) else (if t364.toList = t366.toList then (some false) else (if t362.toList = t366.toList then (some false) else ((cell_OfTable.f kj7 a0).bind fun t370 => (some (t370.toList != t362.toList)))))) else (some false)) else (some false)) else (if ((t364.toList == t365.toList) == false) = true then (if ((t366.toList == t367.toList) == (a1.toList == a2.toList)) = true then (if t362.toList = t364.toList then (some false) else (if t364.toList = t366.toList then (some false) else (if t362.toList = t366.toList then (some false) else ((cell_OfTable.f kj7 a0).bind fun t371 => (some (t371.toList != t362.toList)))))) else (some false)) else (some false))) else (some false)))) = some r := H
          have A26 := Aside0.mk A260
          clear A260
          replace H := Option.bind_eq_some_iff.mp H
          obtain ⟨t367, A270, H⟩ := H
          replace H : (if a0.toList = a1.toList then (if ((t362.toList == t363.toList) == (a3_0 == a4_0 && (a3_1 == a4_1 && (a3_2.toList == a4_2.toList)))) = true then (if a1.toList = a2.toList then (if ((t364.toList == t365.toList) == (a3_0 == a4_0 && (a3_1 == a4_1 && (a3_2.toList == a4_2.toList)))) = true then (if ((t366.toList == t367.toList) == (a1.toList == a2.toList)) = true then (if t362.toList = t364.toList then (some false) else (if t364.toList = t366.toList then (some false) else (if t362.toList = t366.toList then (some false) else ((cell_OfTable.f kj7 a0).bind fun t368 => (some (t368.toList != t362.toList)))))) else (some false)) else (some false)) else (if ((t364.toList == t365.toList) == false) = true then (if ((t366.toList == t367.toList) == (a1.toList == a2.toList)) = true then (if t362.toList = t364.toList then (some false) else (if t364.toList = t366.toList then (some false) else (if t362.toList = t366.toList then (some false) else ((cell_OfTable.f kj7 a0).bind fun t369 => (some (t369.toList != t362.toList)))))) else (some false)) else (some false))) else (some false)) else (if ((t362.toList == t363.toList) == false) = true then (if a1.toList = a2.toList then (if ((t364.toList == t365.toList) == (a3_0 == a4_0 && (a3_1 == a4_1 && (a3_2.toList == a4_2.toList)))) = true then (if ((t366.toList == t367.toList) == (a1.toList == a2.toList)) = true then (if t362.toList = t364.toList then (some false) else (if t364.toList = t366.toList then (some false) else (if t362.toList = t366.toList then (some false) else ((cell_OfTable.f kj7 a0).bind fun t370 => (some (t370.toList != t362.toList)))))) else (some false)) else (some false)) else (if ((t364.toList == t365.toList) == false) = true then (if ((t366.toList == t367.toList) == (a1.toList == a2.toList)) = true then (if t362.toList = t364.toList then (some false) else (if t364.toList = t366.toList then (some false) else (if t362.toList = t366.toList then (some false) else ((cell_OfTable.f kj7 a0).bind fun t371 => (some (t371.toList != t362.toList)))))) else (some false)) else (some false))) else (some false))) = some r := H
          have A27 := Aside0.mk A270
          clear A270
          by_cases c28 : a0.toList = a1.toList
          · rw [if_pos c28] at H
            have c28b0 : (a0.toList == a1.toList) = true := beq_iff_eq.mpr c28
            have c28b1 : (a0.toList != a1.toList) = false := bne_eq_false_iff_eq.mpr c28
            clear c28
            by_cases c29 : ((t362.toList == t363.toList) == (a3_0 == a4_0 && (a3_1 == a4_1 && (a3_2.toList == a4_2.toList)))) = true
            · rw [if_pos c29] at H
              have c29b0 : ((t362.toList == t363.toList) == (a3_0 == a4_0 && (a3_1 == a4_1 && (a3_2.toList == a4_2.toList)))) = true := c29
              (try (have c29bz := c29b0; simp only [beq_true, beq_false, Bool.not_eq_true', Bool.not_eq_false'] at c29bz))
              (try (have c29b1 : decide ((t362.toList == t363.toList) = (a3_0 == a4_0 && (a3_1 == a4_1 && (a3_2.toList == a4_2.toList)))) = true := by simpa using c29))
              (try (have c29b2 : ((t362.toList == t363.toList) == (a3_0 == a4_0 && (a3_1 == a4_1 && (a3_2.toList == a4_2.toList)))) = true := by simpa using c29))
              clear c29
              by_cases c30 : a1.toList = a2.toList
              · rw [if_pos c30] at H
                have c30b0 : (a1.toList == a2.toList) = true := beq_iff_eq.mpr c30
                have c30b1 : (a1.toList != a2.toList) = false := bne_eq_false_iff_eq.mpr c30
                clear c30
                by_cases c31 : ((t364.toList == t365.toList) == (a3_0 == a4_0 && (a3_1 == a4_1 && (a3_2.toList == a4_2.toList)))) = true
                · rw [if_pos c31] at H
                  have c31b0 : ((t364.toList == t365.toList) == (a3_0 == a4_0 && (a3_1 == a4_1 && (a3_2.toList == a4_2.toList)))) = true := c31
                  (try (have c31bz := c31b0; simp only [beq_true, beq_false, Bool.not_eq_true', Bool.not_eq_false'] at c31bz))
                  (try (have c31b1 : decide ((t364.toList == t365.toList) = (a3_0 == a4_0 && (a3_1 == a4_1 && (a3_2.toList == a4_2.toList)))) = true := by simpa using c31))
                  (try (have c31b2 : ((t364.toList == t365.toList) == (a3_0 == a4_0 && (a3_1 == a4_1 && (a3_2.toList == a4_2.toList)))) = true := by simpa using c31))
                  clear c31
                  by_cases c32 : ((t366.toList == t367.toList) == (a1.toList == a2.toList)) = true
                  · rw [if_pos c32] at H
                    have c32b0 : ((t366.toList == t367.toList) == (a1.toList == a2.toList)) = true := c32
                    (try (have c32bz := c32b0; simp only [c30b0, beq_true, beq_false, Bool.not_eq_true', Bool.not_eq_false'] at c32bz))
                    (try (have c32b1 : decide ((t366.toList == t367.toList) = (a1.toList == a2.toList)) = true := by simpa using c32))
                    (try (have c32b2 : ((t366.toList == t367.toList) == (a1.toList == a2.toList)) = true := by simpa using c32))
                    clear c32
                    by_cases c33 : t362.toList = t364.toList
                    · rw [if_pos c33] at H
                      have c33b0 : (t362.toList == t364.toList) = true := beq_iff_eq.mpr c33
                      have c33b1 : (t362.toList != t364.toList) = false := bne_eq_false_iff_eq.mpr c33
                      clear c33
                      obtain rfl := Option.some.inj H
                      cases hr_.out
                    · rw [if_neg c33] at H
                      have c33b0 : (t362.toList == t364.toList) = false := beq_eq_false_iff_ne.mpr c33
                      have c33b1 : (t362.toList != t364.toList) = true := bne_iff_ne.mpr c33
                      by_cases c34 : t364.toList = t366.toList
                      · rw [if_pos c34] at H
                        have c34b0 : (t364.toList == t366.toList) = true := beq_iff_eq.mpr c34
                        have c34b1 : (t364.toList != t366.toList) = false := bne_eq_false_iff_eq.mpr c34
                        clear c34
                        obtain rfl := Option.some.inj H
                        cases hr_.out
                      · rw [if_neg c34] at H
                        have c34b0 : (t364.toList == t366.toList) = false := beq_eq_false_iff_ne.mpr c34
                        have c34b1 : (t364.toList != t366.toList) = true := bne_iff_ne.mpr c34
                        by_cases c35 : t362.toList = t366.toList
                        · rw [if_pos c35] at H
                          have c35b0 : (t362.toList == t366.toList) = true := beq_iff_eq.mpr c35
                          have c35b1 : (t362.toList != t366.toList) = false := bne_eq_false_iff_eq.mpr c35
                          clear c35
                          obtain rfl := Option.some.inj H
                          cases hr_.out
                        · rw [if_neg c35] at H
                          have c35b0 : (t362.toList == t366.toList) = false := beq_eq_false_iff_ne.mpr c35
                          have c35b1 : (t362.toList != t366.toList) = true := bne_iff_ne.mpr c35
                          replace H := Option.bind_eq_some_iff.mp H
                          obtain ⟨t368, A360, H⟩ := H
                          replace H : (some (t368.toList != t362.toList)) = some r := H
                          have A36 := Aside0.mk A360
                          clear A360
                          obtain rfl := Option.some.inj H
                          try go_wp2
                          have n0_ := Aside0.mk (blk_drew BK358.out)
                          have n1_ := Aside0.mk (blk_drew BK359.out)
                          have n2_ := Aside0.mk (below_drew1 HB.out)
                          clear BK358
                          clear BK359
                          clear HB
                          have BK358 := n0_
                          have BK359 := n1_
                          have HB := n2_
                          clear n0_ n1_ n2_
                          refine start_ (n := 8) (S := fun w' => w'.cell? ⟨gb358, 0, none⟩ = some (.int .i64 a3_0) ∧ w'.cell? ⟨gb358, 1, none⟩ = some (.int .i64 a3_1) ∧ w'.cell? ⟨gb358, 2, none⟩ = some (.string a3_2) ∧ w'.cell? ⟨gb359, 0, none⟩ = some (.int .i64 a4_0) ∧ w'.cell? ⟨gb359, 1, none⟩ = some (.int .i64 a4_1) ∧ w'.cell? ⟨gb359, 2, none⟩ = some (.string a4_2)) (ds := []) #[false, false, false, false, false, false, false, false] (by kernel_rfl) rfl rfl ⟨(blk_cell BK358.out 0).trans rfl, (blk_cell BK358.out 1).trans rfl, (blk_cell BK358.out 2).trans rfl, (blk_cell BK359.out 0).trans rfl, (blk_cell BK359.out 1).trans rfl, (blk_cell BK359.out 2).trans rfl⟩ (fun hHeld => ?_); refine with_tabW mortmainlaw07_CellOne.tab5 mortmainlaw07_CellOne.bits5 (fun HT_ HW_ => ?_)
                          generalize wc.drew = w37 at BK358 BK359 HB hHeld ⊢
                          refine pure_ (i := 0) (N := some 45) (v := ?_) (a' := ?_) #[true, false, false, false, false, false, false, false] rfl rfl (any_of HT_.out (by kernel_rfl)) (fun _ _ _ h => h) (Or.inl ⟨by rfl, ?_⟩) ?_ ?_
                          rotate_left
                          · intro w'
                            go_simp
                            with_reducible rfl
                          rotate_left
                          · simp only [Act.put, List.setIfInBounds_toArray, List.set_cons_zero, List.set_cons_succ, i64_w, i32_w]
                            rfl
                          refine pure_ (i := 3) (N := some 48) (v := ?_) (a' := ?_) #[true, false, false, true, false, false, false, false] rfl rfl (any_of HT_.out (by kernel_rfl)) (fun _ _ _ h => h) (Or.inl ⟨by rfl, ?_⟩) ?_ ?_
                          rotate_left
                          · intro w'
                            go_simp
                            with_reducible rfl
                          rotate_left
                          · simp only [Act.put, List.setIfInBounds_toArray, List.set_cons_zero, List.set_cons_succ, i64_w, i32_w]
                            rfl
                          refine take_ (i := 1) (N := some 46) (v := ?_) (a' := ?_) #[true, true, false, true, false, false, false, false] rfl rfl (take_ofW HT_.out HW_.out (by kernel_rfl)) (fun _ _ _ h => h) (Or.inl ⟨by rfl, ?_⟩) hHeld ?_ ?_
                          rotate_left
                          · rintro w' ⟨s0, s1, s2, s3, s4, s5⟩
                            go_simp
                            with_reducible rfl
                          rotate_left
                          · simp only [Act.put, List.setIfInBounds_toArray, List.set_cons_zero, List.set_cons_succ, i64_w, i32_w]
                            rfl
                          refine take_ (i := 4) (N := some 49) (v := ?_) (a' := ?_) #[true, true, false, true, true, false, false, false] rfl rfl (take_ofW HT_.out HW_.out (by kernel_rfl)) (fun _ _ _ h => h) (Or.inl ⟨by rfl, ?_⟩) hHeld ?_ ?_
                          rotate_left
                          · rintro w' ⟨s0, s1, s2, s3, s4, s5⟩
                            go_simp
                            with_reducible rfl
                          rotate_left
                          · simp only [Act.put, List.setIfInBounds_toArray, List.set_cons_zero, List.set_cons_succ, i64_w, i32_w]
                            rfl
                          refine one_ (i := 2) (N := some 47) #[true, true, true, true, true, false, false, false] rfl rfl (one_of HT_.out (by kernel_rfl)) (by decide) (fun K hK => ?_)
                          refine goes_ Tryd.func23 (by kernel_rfl) rfl #[.string a0, .agg #[.int .i64 a3_0, .int .i64 a3_1, .string a3_2]] (by rfl) rfl rfl (by (try simp only [List.map_toArray, List.map_cons, List.map_nil]); first | done | rfl | (simp only [List.length_drop, List.length_take]; rfl)) ?_
                          with_reducible refine (cell_OfRow.calls kj7 a0 a3_0 a3_1 a3_2 t362 _ ?side1 A22.out).mono ?_
                          (case side1 => first | (with_reducible exact HT.out) | (with_reducible exact Tabs.drewN HT.out _) | exact Tabs.below HT.out (by repeat (first | (with_reducible first | exact HB.out | apply below_alloc | apply pw_below_drewN | apply below_drew1 | refine below_set ?_ GE358.out | refine below_set ?_ GE359.out) | exact HB.out)))
                          rintro e w38 ⟨rfl, hb⟩
                          refine ⟨_, rfl, ?_⟩
                          have n0_ := Aside0.mk (blk_below (g := gb358) (o := .cells #[.int .i64 a3_0, .int .i64 a3_1, .string a3_2] 23 (0, 0)) (by (with_reducible repeat (first | refine blk_drewN ?_ _ | refine blk_drew ?_ | refine blk_alloc ?_ _)); exact BK358.out) hb)
                          have n1_ := Aside0.mk (blk_below (g := gb359) (o := .cells #[.int .i64 a4_0, .int .i64 a4_1, .string a4_2] 23 (0, 0)) (by (with_reducible repeat (first | refine blk_drewN ?_ _ | refine blk_drew ?_ | refine blk_alloc ?_ _)); exact BK359.out) hb)
                          have n2_ := Aside0.mk (below_step (by repeat (first | (with_reducible first | exact HB.out | apply below_alloc | apply pw_below_drewN | apply below_drew1 | refine below_set ?_ GE358.out | refine below_set ?_ GE359.out) | exact HB.out)) hb)
                          clear BK358
                          clear BK359
                          clear HB
                          have BK358 := n0_
                          have BK359 := n1_
                          have HB := n2_
                          clear n0_ n1_ n2_
                          (try clear hb)
                          (try clear hb2)
                          (try clear hk)
                          (try clear hi)
                          refine hK.out _ _ ⟨(blk_cell BK358.out 0).trans rfl, (blk_cell BK358.out 1).trans rfl, (blk_cell BK358.out 2).trans rfl, (blk_cell BK359.out 0).trans rfl, (blk_cell BK359.out 1).trans rfl, (blk_cell BK359.out 2).trans rfl⟩ (fun hHeld => ?_)
                          clear hK K
                          refine norm_ (a' := ?_) ?_ ?_
                          rotate_left
                          · show Act.put _ (some 47) _ = _
                            simp only [Act.put, List.setIfInBounds_toArray, List.set_cons_zero, List.set_cons_succ, i64_w, i32_w]
                            rfl
                          refine one_ (i := 5) (N := some 50) #[true, true, true, true, true, true, false, false] rfl rfl (one_of HT_.out (by kernel_rfl)) (by decide) (fun K hK => ?_)
                          refine goes_ Tryd.func23 (by kernel_rfl) rfl #[.string a1, .agg #[.int .i64 a4_0, .int .i64 a4_1, .string a4_2]] (by rfl) rfl rfl (by (try simp only [List.map_toArray, List.map_cons, List.map_nil]); first | done | rfl | (simp only [List.length_drop, List.length_take]; rfl)) ?_
                          with_reducible refine (cell_OfRow.calls kj7 a1 a4_0 a4_1 a4_2 t363 _ ?side1 A23.out).mono ?_
                          (case side1 => first | (with_reducible exact HT.out) | (with_reducible exact Tabs.drewN HT.out _) | exact Tabs.below HT.out (by repeat (first | (with_reducible first | exact HB.out | apply below_alloc | apply pw_below_drewN | apply below_drew1 | refine below_set ?_ GE358.out | refine below_set ?_ GE359.out) | exact HB.out)))
                          rintro e w39 ⟨rfl, hb⟩
                          refine ⟨_, rfl, ?_⟩
                          have n0_ := Aside0.mk (blk_below (g := gb358) (o := .cells #[.int .i64 a3_0, .int .i64 a3_1, .string a3_2] 23 (0, 0)) (by (with_reducible repeat (first | refine blk_drewN ?_ _ | refine blk_drew ?_ | refine blk_alloc ?_ _)); exact BK358.out) hb)
                          have n1_ := Aside0.mk (blk_below (g := gb359) (o := .cells #[.int .i64 a4_0, .int .i64 a4_1, .string a4_2] 23 (0, 0)) (by (with_reducible repeat (first | refine blk_drewN ?_ _ | refine blk_drew ?_ | refine blk_alloc ?_ _)); exact BK359.out) hb)
                          have n2_ := Aside0.mk (below_step (by repeat (first | (with_reducible first | exact HB.out | apply below_alloc | apply pw_below_drewN | apply below_drew1 | refine below_set ?_ GE358.out | refine below_set ?_ GE359.out) | exact HB.out)) hb)
                          clear BK358
                          clear BK359
                          clear HB
                          have BK358 := n0_
                          have BK359 := n1_
                          have HB := n2_
                          clear n0_ n1_ n2_
                          (try clear hb)
                          (try clear hb2)
                          (try clear hk)
                          (try clear hi)
                          refine hK.out _ _ ⟨(blk_cell BK358.out 0).trans rfl, (blk_cell BK358.out 1).trans rfl, (blk_cell BK358.out 2).trans rfl, (blk_cell BK359.out 0).trans rfl, (blk_cell BK359.out 1).trans rfl, (blk_cell BK359.out 2).trans rfl⟩ (fun hHeld => ?_)
                          clear hK K
                          refine norm_ (a' := ?_) ?_ ?_
                          rotate_left
                          · show Act.put _ (some 50) _ = _
                            simp only [Act.put, List.setIfInBounds_toArray, List.set_cons_zero, List.set_cons_succ, i64_w, i32_w]
                            rfl
                          refine pure_ (i := 6) (N := some 11) (v := ?_) (a' := ?_) #[true, true, true, true, true, true, true, false] rfl rfl (any_of HT_.out (by kernel_rfl)) (fun _ _ _ h => h) (Or.inl ⟨by rfl, ?_⟩) ?_ ?_
                          rotate_left
                          · intro w'
                            go_simp
                            with_reducible rfl
                          rotate_left
                          · simp only [Act.put, List.setIfInBounds_toArray, List.set_cons_zero, List.set_cons_succ, i64_w, i32_w]
                            rfl
                          refine pure_ (i := 7) (N := some 12) (v := ?_) (a' := ?_) #[true, true, true, true, true, true, true, true] rfl rfl (any_of HT_.out (by kernel_rfl)) (fun _ _ _ h => h) (Or.inl ⟨by rfl, ?_⟩) ?_ ?_
                          rotate_left
                          · intro w'
                            go_simp
                            with_reducible rfl
                          rotate_left
                          · simp only [Act.put, List.setIfInBounds_toArray, List.set_cons_zero, List.set_cons_succ, i64_w, i32_w]
                            rfl
                          refine done_ (done_of HT_.out (by kernel_rfl)) ?_
                          try go_wp2
                          have n0_ := Aside0.mk (blk_drew BK358.out)
                          have n1_ := Aside0.mk (blk_drew BK359.out)
                          have n2_ := Aside0.mk (below_drew1 HB.out)
                          clear BK358
                          clear BK359
                          clear HB
                          have BK358 := n0_
                          have BK359 := n1_
                          have HB := n2_
                          clear n0_ n1_ n2_
                          refine start_ (n := 10) (S := fun w' => w'.cell? ⟨gb358, 0, none⟩ = some (.int .i64 a3_0) ∧ w'.cell? ⟨gb358, 1, none⟩ = some (.int .i64 a3_1) ∧ w'.cell? ⟨gb358, 2, none⟩ = some (.string a3_2) ∧ w'.cell? ⟨gb359, 0, none⟩ = some (.int .i64 a4_0) ∧ w'.cell? ⟨gb359, 1, none⟩ = some (.int .i64 a4_1) ∧ w'.cell? ⟨gb359, 2, none⟩ = some (.string a4_2)) (ds := []) #[false, false, false, false, false, false, false, false, false, false] (by kernel_rfl) rfl rfl ⟨(blk_cell BK358.out 0).trans rfl, (blk_cell BK358.out 1).trans rfl, (blk_cell BK358.out 2).trans rfl, (blk_cell BK359.out 0).trans rfl, (blk_cell BK359.out 1).trans rfl, (blk_cell BK359.out 2).trans rfl⟩ (fun hHeld => ?_); refine with_tabW mortmainlaw07_CellOne.tab6 mortmainlaw07_CellOne.bits6 (fun HT_ HW_ => ?_)
                          generalize w39.drew = w40 at BK358 BK359 HB hHeld ⊢
                          refine pure_ (i := 0) (N := some 51) (v := ?_) (a' := ?_) #[true, false, false, false, false, false, false, false, false, false] rfl rfl (any_of HT_.out (by kernel_rfl)) (fun _ _ _ h => h) (Or.inl ⟨by rfl, ?_⟩) ?_ ?_
                          rotate_left
                          · intro w'
                            go_simp
                            with_reducible rfl
                          rotate_left
                          · simp only [Act.put, List.setIfInBounds_toArray, List.set_cons_zero, List.set_cons_succ, i64_w, i32_w]
                            rfl
                          refine pure_ (i := 1) (N := some 52) (v := ?_) (a' := ?_) #[true, true, false, false, false, false, false, false, false, false] rfl rfl (any_of HT_.out (by kernel_rfl)) (fun _ _ _ h => h) (Or.inl ⟨by rfl, ?_⟩) ?_ ?_
                          rotate_left
                          · intro w'
                            go_simp
                            with_reducible rfl
                          rotate_left
                          · simp only [Act.put, List.setIfInBounds_toArray, List.set_cons_zero, List.set_cons_succ, i64_w, i32_w]
                            rfl
                          refine pure_ (i := 4) (N := some 55) (v := ?_) (a' := ?_) #[true, true, false, false, true, false, false, false, false, false] rfl rfl (any_of HT_.out (by kernel_rfl)) (fun _ _ _ h => h) (Or.inl ⟨by rfl, ?_⟩) ?_ ?_
                          rotate_left
                          · intro w'
                            go_simp
                            with_reducible rfl
                          rotate_left
                          · simp only [Act.put, List.setIfInBounds_toArray, List.set_cons_zero, List.set_cons_succ, i64_w, i32_w]
                            rfl
                          refine pure_ (i := 5) (N := some 56) (v := ?_) (a' := ?_) #[true, true, false, false, true, true, false, false, false, false] rfl rfl (any_of HT_.out (by kernel_rfl)) (fun _ _ _ h => h) (Or.inl ⟨by rfl, ?_⟩) ?_ ?_
                          rotate_left
                          · intro w'
                            go_simp
                            with_reducible rfl
                          rotate_left
                          · simp only [Act.put, List.setIfInBounds_toArray, List.set_cons_zero, List.set_cons_succ, i64_w, i32_w]
                            rfl
                          refine take_ (i := 2) (N := some 53) (v := ?_) (a' := ?_) #[true, true, true, false, true, true, false, false, false, false] rfl rfl (take_ofW HT_.out HW_.out (by kernel_rfl)) (fun _ _ _ h => h) (Or.inl ⟨by rfl, ?_⟩) hHeld ?_ ?_
                          rotate_left
                          · rintro w' ⟨s0, s1, s2, s3, s4, s5⟩
                            go_simp
                            with_reducible rfl
                          rotate_left
                          · simp only [Act.put, List.setIfInBounds_toArray, List.set_cons_zero, List.set_cons_succ, i64_w, i32_w]
                            rfl
                          refine take_ (i := 6) (N := some 57) (v := ?_) (a' := ?_) #[true, true, true, false, true, true, true, false, false, false] rfl rfl (take_ofW HT_.out HW_.out (by kernel_rfl)) (fun _ _ _ h => h) (Or.inl ⟨by rfl, ?_⟩) hHeld ?_ ?_
                          rotate_left
                          · rintro w' ⟨s0, s1, s2, s3, s4, s5⟩
                            go_simp
                            with_reducible rfl
                          rotate_left
                          · simp only [Act.put, List.setIfInBounds_toArray, List.set_cons_zero, List.set_cons_succ, i64_w, i32_w]
                            rfl
                          refine one_ (i := 3) (N := some 54) #[true, true, true, true, true, true, true, false, false, false] rfl rfl (one_of HT_.out (by kernel_rfl)) (by decide) (fun K hK => ?_)
                          refine goes_ Tryd.func24 (by kernel_rfl) rfl #[.string a0, .string a1, .agg #[.int .i64 a3_0, .int .i64 a3_1, .string a3_2]] (by rfl) rfl rfl (by (try simp only [List.map_toArray, List.map_cons, List.map_nil]); first | done | rfl | (simp only [List.length_drop, List.length_take]; rfl)) ?_
                          with_reducible refine (cell_OfUniq.calls kj7 a0 a1 a3_0 a3_1 a3_2 t364 _ ?side1 A24.out).mono ?_
                          (case side1 => first | (with_reducible exact HT.out) | (with_reducible exact Tabs.drewN HT.out _) | exact Tabs.below HT.out (by repeat (first | (with_reducible first | exact HB.out | apply below_alloc | apply pw_below_drewN | apply below_drew1 | refine below_set ?_ GE358.out | refine below_set ?_ GE359.out) | exact HB.out)))
                          rintro e w41 ⟨rfl, hb⟩
                          refine ⟨_, rfl, ?_⟩
                          have n0_ := Aside0.mk (blk_below (g := gb358) (o := .cells #[.int .i64 a3_0, .int .i64 a3_1, .string a3_2] 23 (0, 0)) (by (with_reducible repeat (first | refine blk_drewN ?_ _ | refine blk_drew ?_ | refine blk_alloc ?_ _)); exact BK358.out) hb)
                          have n1_ := Aside0.mk (blk_below (g := gb359) (o := .cells #[.int .i64 a4_0, .int .i64 a4_1, .string a4_2] 23 (0, 0)) (by (with_reducible repeat (first | refine blk_drewN ?_ _ | refine blk_drew ?_ | refine blk_alloc ?_ _)); exact BK359.out) hb)
                          have n2_ := Aside0.mk (below_step (by repeat (first | (with_reducible first | exact HB.out | apply below_alloc | apply pw_below_drewN | apply below_drew1 | refine below_set ?_ GE358.out | refine below_set ?_ GE359.out) | exact HB.out)) hb)
                          clear BK358
                          clear BK359
                          clear HB
                          have BK358 := n0_
                          have BK359 := n1_
                          have HB := n2_
                          clear n0_ n1_ n2_
                          (try clear hb)
                          (try clear hb2)
                          (try clear hk)
                          (try clear hi)
                          refine hK.out _ _ ⟨(blk_cell BK358.out 0).trans rfl, (blk_cell BK358.out 1).trans rfl, (blk_cell BK358.out 2).trans rfl, (blk_cell BK359.out 0).trans rfl, (blk_cell BK359.out 1).trans rfl, (blk_cell BK359.out 2).trans rfl⟩ (fun hHeld => ?_)
                          clear hK K
                          refine norm_ (a' := ?_) ?_ ?_
                          rotate_left
                          · show Act.put _ (some 54) _ = _
                            simp only [Act.put, List.setIfInBounds_toArray, List.set_cons_zero, List.set_cons_succ, i64_w, i32_w]
                            rfl
                          refine one_ (i := 7) (N := some 58) #[true, true, true, true, true, true, true, true, false, false] rfl rfl (one_of HT_.out (by kernel_rfl)) (by decide) (fun K hK => ?_)
                          refine goes_ Tryd.func24 (by kernel_rfl) rfl #[.string a0, .string a2, .agg #[.int .i64 a4_0, .int .i64 a4_1, .string a4_2]] (by rfl) rfl rfl (by (try simp only [List.map_toArray, List.map_cons, List.map_nil]); first | done | rfl | (simp only [List.length_drop, List.length_take]; rfl)) ?_
                          with_reducible refine (cell_OfUniq.calls kj7 a0 a2 a4_0 a4_1 a4_2 t365 _ ?side1 A25.out).mono ?_
                          (case side1 => first | (with_reducible exact HT.out) | (with_reducible exact Tabs.drewN HT.out _) | exact Tabs.below HT.out (by repeat (first | (with_reducible first | exact HB.out | apply below_alloc | apply pw_below_drewN | apply below_drew1 | refine below_set ?_ GE358.out | refine below_set ?_ GE359.out) | exact HB.out)))
                          rintro e w42 ⟨rfl, hb⟩
                          refine ⟨_, rfl, ?_⟩
                          have n0_ := Aside0.mk (blk_below (g := gb358) (o := .cells #[.int .i64 a3_0, .int .i64 a3_1, .string a3_2] 23 (0, 0)) (by (with_reducible repeat (first | refine blk_drewN ?_ _ | refine blk_drew ?_ | refine blk_alloc ?_ _)); exact BK358.out) hb)
                          have n1_ := Aside0.mk (blk_below (g := gb359) (o := .cells #[.int .i64 a4_0, .int .i64 a4_1, .string a4_2] 23 (0, 0)) (by (with_reducible repeat (first | refine blk_drewN ?_ _ | refine blk_drew ?_ | refine blk_alloc ?_ _)); exact BK359.out) hb)
                          have n2_ := Aside0.mk (below_step (by repeat (first | (with_reducible first | exact HB.out | apply below_alloc | apply pw_below_drewN | apply below_drew1 | refine below_set ?_ GE358.out | refine below_set ?_ GE359.out) | exact HB.out)) hb)
                          clear BK358
                          clear BK359
                          clear HB
                          have BK358 := n0_
                          have BK359 := n1_
                          have HB := n2_
                          clear n0_ n1_ n2_
                          (try clear hb)
                          (try clear hb2)
                          (try clear hk)
                          (try clear hi)
                          refine hK.out _ _ ⟨(blk_cell BK358.out 0).trans rfl, (blk_cell BK358.out 1).trans rfl, (blk_cell BK358.out 2).trans rfl, (blk_cell BK359.out 0).trans rfl, (blk_cell BK359.out 1).trans rfl, (blk_cell BK359.out 2).trans rfl⟩ (fun hHeld => ?_)
                          clear hK K
                          refine norm_ (a' := ?_) ?_ ?_
                          rotate_left
                          · show Act.put _ (some 58) _ = _
                            simp only [Act.put, List.setIfInBounds_toArray, List.set_cons_zero, List.set_cons_succ, i64_w, i32_w]
                            rfl
                          refine pure_ (i := 8) (N := some 13) (v := ?_) (a' := ?_) #[true, true, true, true, true, true, true, true, true, false] rfl rfl (any_of HT_.out (by kernel_rfl)) (fun _ _ _ h => h) (Or.inl ⟨by rfl, ?_⟩) ?_ ?_
                          rotate_left
                          · intro w'
                            go_simp
                            with_reducible rfl
                          rotate_left
                          · simp only [Act.put, List.setIfInBounds_toArray, List.set_cons_zero, List.set_cons_succ, i64_w, i32_w]
                            rfl
                          refine pure_ (i := 9) (N := some 14) (v := ?_) (a' := ?_) #[true, true, true, true, true, true, true, true, true, true] rfl rfl (any_of HT_.out (by kernel_rfl)) (fun _ _ _ h => h) (Or.inl ⟨by rfl, ?_⟩) ?_ ?_
                          rotate_left
                          · intro w'
                            go_simp
                            with_reducible rfl
                          rotate_left
                          · simp only [Act.put, List.setIfInBounds_toArray, List.set_cons_zero, List.set_cons_succ, i64_w, i32_w]
                            rfl
                          refine done_ (done_of HT_.out (by kernel_rfl)) ?_
                          try go_wp2
                          have n0_ := Aside0.mk (blk_drew BK358.out)
                          have n1_ := Aside0.mk (blk_drew BK359.out)
                          have n2_ := Aside0.mk (below_drew1 HB.out)
                          clear BK358
                          clear BK359
                          clear HB
                          have BK358 := n0_
                          have BK359 := n1_
                          have HB := n2_
                          clear n0_ n1_ n2_
                          refine start_ (n := 14) (S := fun w' => w'.cell? ⟨gb358, 0, none⟩ = some (.int .i64 a3_0) ∧ w'.cell? ⟨gb358, 1, none⟩ = some (.int .i64 a3_1) ∧ w'.cell? ⟨gb358, 2, none⟩ = some (.string a3_2) ∧ w'.cell? ⟨gb359, 0, none⟩ = some (.int .i64 a4_0) ∧ w'.cell? ⟨gb359, 1, none⟩ = some (.int .i64 a4_1) ∧ w'.cell? ⟨gb359, 2, none⟩ = some (.string a4_2)) (ds := []) #[false, false, false, false, false, false, false, false, false, false, false, false, false, false] (by kernel_rfl) rfl rfl ⟨(blk_cell BK358.out 0).trans rfl, (blk_cell BK358.out 1).trans rfl, (blk_cell BK358.out 2).trans rfl, (blk_cell BK359.out 0).trans rfl, (blk_cell BK359.out 1).trans rfl, (blk_cell BK359.out 2).trans rfl⟩ (fun hHeld => ?_); refine with_tabW mortmainlaw07_CellOne.tab7 mortmainlaw07_CellOne.bits7 (fun HT_ HW_ => ?_)
                          generalize w42.drew = w43 at BK358 BK359 HB hHeld ⊢
                          refine pure_ (i := 0) (N := some 59) (v := ?_) (a' := ?_) #[true, false, false, false, false, false, false, false, false, false, false, false, false, false] rfl rfl (any_of HT_.out (by kernel_rfl)) (fun _ _ _ h => h) (Or.inl ⟨by rfl, ?_⟩) ?_ ?_
                          rotate_left
                          · intro w'
                            go_simp
                            with_reducible rfl
                          rotate_left
                          · simp only [Act.put, List.setIfInBounds_toArray, List.set_cons_zero, List.set_cons_succ, i64_w, i32_w]
                            rfl
                          refine pure_ (i := 2) (N := some 61) (v := ?_) (a' := ?_) #[true, false, true, false, false, false, false, false, false, false, false, false, false, false] rfl rfl (any_of HT_.out (by kernel_rfl)) (fun _ _ _ h => h) (Or.inl ⟨by rfl, ?_⟩) ?_ ?_
                          rotate_left
                          · intro w'
                            go_simp
                            with_reducible rfl
                          rotate_left
                          · simp only [Act.put, List.setIfInBounds_toArray, List.set_cons_zero, List.set_cons_succ, i64_w, i32_w]
                            rfl
                          refine pure_ (i := 3) (N := some 62) (v := ?_) (a' := ?_) #[true, false, true, true, false, false, false, false, false, false, false, false, false, false] rfl rfl (any_of HT_.out (by kernel_rfl)) (fun _ _ _ h => h) (Or.inl ⟨by rfl, ?_⟩) ?_ ?_
                          rotate_left
                          · intro w'
                            go_simp
                            with_reducible rfl
                          rotate_left
                          · simp only [Act.put, List.setIfInBounds_toArray, List.set_cons_zero, List.set_cons_succ, i64_w, i32_w]
                            rfl
                          refine pure_ (i := 6) (N := some 65) (v := ?_) (a' := ?_) #[true, false, true, true, false, false, true, false, false, false, false, false, false, false] rfl rfl (any_of HT_.out (by kernel_rfl)) (fun _ _ _ h => h) (Or.inl ⟨by rfl, ?_⟩) ?_ ?_
                          rotate_left
                          · intro w'
                            go_simp
                            with_reducible rfl
                          rotate_left
                          · simp only [Act.put, List.setIfInBounds_toArray, List.set_cons_zero, List.set_cons_succ, i64_w, i32_w]
                            rfl
                          refine pure_ (i := 8) (N := some 67) (v := ?_) (a' := ?_) #[true, false, true, true, false, false, true, false, true, false, false, false, false, false] rfl rfl (any_of HT_.out (by kernel_rfl)) (fun _ _ _ h => h) (Or.inl ⟨by rfl, ?_⟩) ?_ ?_
                          rotate_left
                          · intro w'
                            go_simp
                            with_reducible rfl
                          rotate_left
                          · simp only [Act.put, List.setIfInBounds_toArray, List.set_cons_zero, List.set_cons_succ, i64_w, i32_w]
                            rfl
                          refine pure_ (i := 9) (N := some 68) (v := ?_) (a' := ?_) #[true, false, true, true, false, false, true, false, true, true, false, false, false, false] rfl rfl (any_of HT_.out (by kernel_rfl)) (fun _ _ _ h => h) (Or.inl ⟨by rfl, ?_⟩) ?_ ?_
                          rotate_left
                          · intro w'
                            go_simp
                            with_reducible rfl
                          rotate_left
                          · simp only [Act.put, List.setIfInBounds_toArray, List.set_cons_zero, List.set_cons_succ, i64_w, i32_w]
                            rfl
                          refine take_ (i := 1) (N := some 60) (v := ?_) (a' := ?_) #[true, true, true, true, false, false, true, false, true, true, false, false, false, false] rfl rfl (take_ofW HT_.out HW_.out (by kernel_rfl)) (fun _ _ _ h => h) (Or.inl ⟨by rfl, ?_⟩) hHeld ?_ ?_
                          rotate_left
                          · rintro w' ⟨s0, s1, s2, s3, s4, s5⟩
                            go_simp
                            with_reducible rfl
                          rotate_left
                          · simp only [Act.put, List.setIfInBounds_toArray, List.set_cons_zero, List.set_cons_succ, i64_w, i32_w]
                            rfl
                          refine take_ (i := 4) (N := some 63) (v := ?_) (a' := ?_) #[true, true, true, true, true, false, true, false, true, true, false, false, false, false] rfl rfl (take_ofW HT_.out HW_.out (by kernel_rfl)) (fun _ _ _ h => h) (Or.inl ⟨by rfl, ?_⟩) hHeld ?_ ?_
                          rotate_left
                          · rintro w' ⟨s0, s1, s2, s3, s4, s5⟩
                            go_simp
                            with_reducible rfl
                          rotate_left
                          · simp only [Act.put, List.setIfInBounds_toArray, List.set_cons_zero, List.set_cons_succ, i64_w, i32_w]
                            rfl
                          refine take_ (i := 7) (N := some 66) (v := ?_) (a' := ?_) #[true, true, true, true, true, false, true, true, true, true, false, false, false, false] rfl rfl (take_ofW HT_.out HW_.out (by kernel_rfl)) (fun _ _ _ h => h) (Or.inl ⟨by rfl, ?_⟩) hHeld ?_ ?_
                          rotate_left
                          · rintro w' ⟨s0, s1, s2, s3, s4, s5⟩
                            go_simp
                            with_reducible rfl
                          rotate_left
                          · simp only [Act.put, List.setIfInBounds_toArray, List.set_cons_zero, List.set_cons_succ, i64_w, i32_w]
                            rfl
                          refine take_ (i := 10) (N := some 69) (v := ?_) (a' := ?_) #[true, true, true, true, true, false, true, true, true, true, true, false, false, false] rfl rfl (take_ofW HT_.out HW_.out (by kernel_rfl)) (fun _ _ _ h => h) (Or.inl ⟨by rfl, ?_⟩) hHeld ?_ ?_
                          rotate_left
                          · rintro w' ⟨s0, s1, s2, s3, s4, s5⟩
                            go_simp
                            with_reducible rfl
                          rotate_left
                          · simp only [Act.put, List.setIfInBounds_toArray, List.set_cons_zero, List.set_cons_succ, i64_w, i32_w]
                            rfl
                          refine one_ (i := 5) (N := some 64) #[true, true, true, true, true, true, true, true, true, true, true, false, false, false] rfl rfl (one_of HT_.out (by kernel_rfl)) (by decide) (fun K hK => ?_)
                          refine goes_ Tryd.func25 (by kernel_rfl) rfl #[.string a0, .agg #[.int .i64 a3_0, .int .i64 a3_1, .string a3_2], .string a1, .string a2, .agg #[.int .i64 a4_0, .int .i64 a4_1, .string a4_2]] (by rfl) rfl rfl (by (try simp only [List.map_toArray, List.map_cons, List.map_nil]); first | done | rfl | (simp only [List.length_drop, List.length_take]; rfl)) ?_
                          with_reducible refine (cell_OfRef.calls kj7 a0 a3_0 a3_1 a3_2 a1 a2 a4_0 a4_1 a4_2 t366 _ ?side1 A26.out).mono ?_
                          (case side1 => first | (with_reducible exact HT.out) | (with_reducible exact Tabs.drewN HT.out _) | exact Tabs.below HT.out (by repeat (first | (with_reducible first | exact HB.out | apply below_alloc | apply pw_below_drewN | apply below_drew1 | refine below_set ?_ GE358.out | refine below_set ?_ GE359.out) | exact HB.out)))
                          rintro e w44 ⟨rfl, hb⟩
                          refine ⟨_, rfl, ?_⟩
                          have n0_ := Aside0.mk (blk_below (g := gb358) (o := .cells #[.int .i64 a3_0, .int .i64 a3_1, .string a3_2] 23 (0, 0)) (by (with_reducible repeat (first | refine blk_drewN ?_ _ | refine blk_drew ?_ | refine blk_alloc ?_ _)); exact BK358.out) hb)
                          have n1_ := Aside0.mk (blk_below (g := gb359) (o := .cells #[.int .i64 a4_0, .int .i64 a4_1, .string a4_2] 23 (0, 0)) (by (with_reducible repeat (first | refine blk_drewN ?_ _ | refine blk_drew ?_ | refine blk_alloc ?_ _)); exact BK359.out) hb)
                          have n2_ := Aside0.mk (below_step (by repeat (first | (with_reducible first | exact HB.out | apply below_alloc | apply pw_below_drewN | apply below_drew1 | refine below_set ?_ GE358.out | refine below_set ?_ GE359.out) | exact HB.out)) hb)
                          clear BK358
                          clear BK359
                          clear HB
                          have BK358 := n0_
                          have BK359 := n1_
                          have HB := n2_
                          clear n0_ n1_ n2_
                          (try clear hb)
                          (try clear hb2)
                          (try clear hk)
                          (try clear hi)
                          refine hK.out _ _ ⟨(blk_cell BK358.out 0).trans rfl, (blk_cell BK358.out 1).trans rfl, (blk_cell BK358.out 2).trans rfl, (blk_cell BK359.out 0).trans rfl, (blk_cell BK359.out 1).trans rfl, (blk_cell BK359.out 2).trans rfl⟩ (fun hHeld => ?_)
                          clear hK K
                          refine norm_ (a' := ?_) ?_ ?_
                          rotate_left
                          · show Act.put _ (some 64) _ = _
                            simp only [Act.put, List.setIfInBounds_toArray, List.set_cons_zero, List.set_cons_succ, i64_w, i32_w]
                            rfl
                          refine one_ (i := 11) (N := some 70) #[true, true, true, true, true, true, true, true, true, true, true, true, false, false] rfl rfl (one_of HT_.out (by kernel_rfl)) (by decide) (fun K hK => ?_)
                          refine goes_ Tryd.func25 (by kernel_rfl) rfl #[.string a0, .agg #[.int .i64 a3_0, .int .i64 a3_1, .string a3_2], .string a2, .string a1, .agg #[.int .i64 a4_0, .int .i64 a4_1, .string a4_2]] (by rfl) rfl rfl (by (try simp only [List.map_toArray, List.map_cons, List.map_nil]); first | done | rfl | (simp only [List.length_drop, List.length_take]; rfl)) ?_
                          with_reducible refine (cell_OfRef.calls kj7 a0 a3_0 a3_1 a3_2 a2 a1 a4_0 a4_1 a4_2 t367 _ ?side1 A27.out).mono ?_
                          (case side1 => first | (with_reducible exact HT.out) | (with_reducible exact Tabs.drewN HT.out _) | exact Tabs.below HT.out (by repeat (first | (with_reducible first | exact HB.out | apply below_alloc | apply pw_below_drewN | apply below_drew1 | refine below_set ?_ GE358.out | refine below_set ?_ GE359.out) | exact HB.out)))
                          rintro e w45 ⟨rfl, hb⟩
                          refine ⟨_, rfl, ?_⟩
                          have n0_ := Aside0.mk (blk_below (g := gb358) (o := .cells #[.int .i64 a3_0, .int .i64 a3_1, .string a3_2] 23 (0, 0)) (by (with_reducible repeat (first | refine blk_drewN ?_ _ | refine blk_drew ?_ | refine blk_alloc ?_ _)); exact BK358.out) hb)
                          have n1_ := Aside0.mk (blk_below (g := gb359) (o := .cells #[.int .i64 a4_0, .int .i64 a4_1, .string a4_2] 23 (0, 0)) (by (with_reducible repeat (first | refine blk_drewN ?_ _ | refine blk_drew ?_ | refine blk_alloc ?_ _)); exact BK359.out) hb)
                          have n2_ := Aside0.mk (below_step (by repeat (first | (with_reducible first | exact HB.out | apply below_alloc | apply pw_below_drewN | apply below_drew1 | refine below_set ?_ GE358.out | refine below_set ?_ GE359.out) | exact HB.out)) hb)
                          clear BK358
                          clear BK359
                          clear HB
                          have BK358 := n0_
                          have BK359 := n1_
                          have HB := n2_
                          clear n0_ n1_ n2_
                          (try clear hb)
                          (try clear hb2)
                          (try clear hk)
                          (try clear hi)
                          refine hK.out _ _ ⟨(blk_cell BK358.out 0).trans rfl, (blk_cell BK358.out 1).trans rfl, (blk_cell BK358.out 2).trans rfl, (blk_cell BK359.out 0).trans rfl, (blk_cell BK359.out 1).trans rfl, (blk_cell BK359.out 2).trans rfl⟩ (fun hHeld => ?_)
                          clear hK K
                          refine norm_ (a' := ?_) ?_ ?_
                          rotate_left
                          · show Act.put _ (some 70) _ = _
                            simp only [Act.put, List.setIfInBounds_toArray, List.set_cons_zero, List.set_cons_succ, i64_w, i32_w]
                            rfl
                          refine pure_ (i := 12) (N := some 15) (v := ?_) (a' := ?_) #[true, true, true, true, true, true, true, true, true, true, true, true, true, false] rfl rfl (any_of HT_.out (by kernel_rfl)) (fun _ _ _ h => h) (Or.inl ⟨by rfl, ?_⟩) ?_ ?_
                          rotate_left
                          · intro w'
                            go_simp
                            with_reducible rfl
                          rotate_left
                          · simp only [Act.put, List.setIfInBounds_toArray, List.set_cons_zero, List.set_cons_succ, i64_w, i32_w]
                            rfl
                          refine pure_ (i := 13) (N := some 16) (v := ?_) (a' := ?_) #[true, true, true, true, true, true, true, true, true, true, true, true, true, true] rfl rfl (any_of HT_.out (by kernel_rfl)) (fun _ _ _ h => h) (Or.inl ⟨by rfl, ?_⟩) ?_ ?_
                          rotate_left
                          · intro w'
                            go_simp
                            with_reducible rfl
                          rotate_left
                          · simp only [Act.put, List.setIfInBounds_toArray, List.set_cons_zero, List.set_cons_succ, i64_w, i32_w]
                            rfl
                          refine done_ (done_of HT_.out (by kernel_rfl)) ?_
                          have hnb46 := NB358_359.out
                          have hnc46 := NB359_358.out
                          have hcz47_0 : w45.cell? ⟨gb358, 0, none⟩ = some (.int .i64 a3_0) := (blk_cell BK358.out 0).trans rfl
                          have hcz47_1 : w45.cell? ⟨gb358, 1, none⟩ = some (.int .i64 a3_1) := (blk_cell BK358.out 1).trans rfl
                          have hcz47_2 : w45.cell? ⟨gb358, 2, none⟩ = some (.string a3_2) := (blk_cell BK358.out 2).trans rfl
                          have hfz47_0 := blk_frozen BK358.out 0
                          have hfz47_1 := blk_frozen BK358.out 1
                          have hfz47_2 := blk_frozen BK358.out 2
                          have hcz48_0 : w45.cell? ⟨gb359, 0, none⟩ = some (.int .i64 a4_0) := (blk_cell BK359.out 0).trans rfl
                          have hcz48_1 : w45.cell? ⟨gb359, 1, none⟩ = some (.int .i64 a4_1) := (blk_cell BK359.out 1).trans rfl
                          have hcz48_2 : w45.cell? ⟨gb359, 2, none⟩ = some (.string a4_2) := (blk_cell BK359.out 2).trans rfl
                          have hfz48_0 := blk_frozen BK359.out 0
                          have hfz48_1 := blk_frozen BK359.out 1
                          have hfz48_2 := blk_frozen BK359.out 2
                          try go_wp2_with (first | (go_at_call 26; (with_reducible refine (cell_OfTable.calls kj7 a0 t368 _ ?side1 A36.out).mono ?_); (case side1 => first | (with_reducible exact HT.out) | (with_reducible exact Tabs.drewN HT.out _) | exact Tabs.below HT.out (by repeat (first | (with_reducible first | exact HB.out | apply below_alloc | apply pw_below_drewN | apply below_drew1 | refine below_set ?_ GE358.out | refine below_set ?_ GE359.out) | exact HB.out))); rintro e w49 ⟨rfl, hb⟩; have n0_ := Aside0.mk (blk_below (g := gb358) (o := .cells #[.int .i64 a3_0, .int .i64 a3_1, .string a3_2] 23 (0, 0)) (by (with_reducible repeat (first | refine blk_drewN ?_ _ | refine blk_drew ?_ | refine blk_alloc ?_ _)); exact BK358.out) hb); have n1_ := Aside0.mk (blk_below (g := gb359) (o := .cells #[.int .i64 a4_0, .int .i64 a4_1, .string a4_2] 23 (0, 0)) (by (with_reducible repeat (first | refine blk_drewN ?_ _ | refine blk_drew ?_ | refine blk_alloc ?_ _)); exact BK359.out) hb); have n2_ := Aside0.mk (below_step (by repeat (first | (with_reducible first | exact HB.out | apply below_alloc | apply pw_below_drewN | apply below_drew1 | refine below_set ?_ GE358.out | refine below_set ?_ GE359.out) | exact HB.out)) hb); clear BK358; clear BK359; clear HB; have BK358 := n0_; have BK359 := n1_; have HB := n2_; clear n0_ n1_ n2_; (try clear hb); (try clear hb2); (try clear hk); (try clear hi)))
                          go_ret
                          exact ⟨by first | rfl | (simp [errW_none, errW_some] <;> rfl) | (simp [*, errW_none, errW_some] <;> rfl), by repeat (first | (with_reducible first | exact HB.out | apply below_alloc | apply pw_below_drewN | apply below_drew1 | refine below_set ?_ GE358.out | refine below_set ?_ GE359.out) | exact HB.out)⟩
                  · rw [if_neg c32] at H
                    have c32b0 : ((t366.toList == t367.toList) == (a1.toList == a2.toList)) = false := by simpa using c32
                    (try (have c32bz := c32b0; simp only [c30b0, beq_true, beq_false, Bool.not_eq_true', Bool.not_eq_false'] at c32bz))
                    (try (have c32b1 : decide ((t366.toList == t367.toList) = (a1.toList == a2.toList)) = false := by simpa using c32))
                    (try (have c32b2 : ((t366.toList == t367.toList) == (a1.toList == a2.toList)) = false := by simpa using c32))
                    (try (have c32b3 : ¬ ((t366.toList == t367.toList) = (a1.toList == a2.toList)) := by simpa using c32))
                    clear c32
                    obtain rfl := Option.some.inj H
                    cases hr_.out
                · rw [if_neg c31] at H
                  have c31b0 : ((t364.toList == t365.toList) == (a3_0 == a4_0 && (a3_1 == a4_1 && (a3_2.toList == a4_2.toList)))) = false := by simpa using c31
                  (try (have c31bz := c31b0; simp only [beq_true, beq_false, Bool.not_eq_true', Bool.not_eq_false'] at c31bz))
                  (try (have c31b1 : decide ((t364.toList == t365.toList) = (a3_0 == a4_0 && (a3_1 == a4_1 && (a3_2.toList == a4_2.toList)))) = false := by simpa using c31))
                  (try (have c31b2 : ((t364.toList == t365.toList) == (a3_0 == a4_0 && (a3_1 == a4_1 && (a3_2.toList == a4_2.toList)))) = false := by simpa using c31))
                  (try (have c31b3 : ¬ ((t364.toList == t365.toList) = (a3_0 == a4_0 && (a3_1 == a4_1 && (a3_2.toList == a4_2.toList)))) := by simpa using c31))
                  clear c31
                  obtain rfl := Option.some.inj H
                  cases hr_.out
              · rw [if_neg c30] at H
                have c30b0 : (a1.toList == a2.toList) = false := beq_eq_false_iff_ne.mpr c30
                have c30b1 : (a1.toList != a2.toList) = true := bne_iff_ne.mpr c30
                by_cases c50 : ((t364.toList == t365.toList) == false) = true
                · rw [if_pos c50] at H
                  have c50b0 : ((t364.toList == t365.toList) == false) = true := c50
                  (try (have c50bz := c50b0; simp only [beq_true, beq_false, Bool.not_eq_true', Bool.not_eq_false'] at c50bz))
                  (try (have c50b1 : decide ((t364.toList == t365.toList) = false) = true := by simpa using c50))
                  (try (have c50b2 : ((t364.toList == t365.toList) == false) = true := by simpa using c50))
                  clear c50
                  by_cases c51 : ((t366.toList == t367.toList) == (a1.toList == a2.toList)) = true
                  · rw [if_pos c51] at H
                    have c51b0 : ((t366.toList == t367.toList) == (a1.toList == a2.toList)) = true := c51
                    (try (have c51bz := c51b0; simp only [c30b0, beq_true, beq_false, Bool.not_eq_true', Bool.not_eq_false'] at c51bz))
                    (try (have c51b1 : decide ((t366.toList == t367.toList) = (a1.toList == a2.toList)) = true := by simpa using c51))
                    (try (have c51b2 : ((t366.toList == t367.toList) == (a1.toList == a2.toList)) = true := by simpa using c51))
                    clear c51
                    by_cases c52 : t362.toList = t364.toList
                    · rw [if_pos c52] at H
                      have c52b0 : (t362.toList == t364.toList) = true := beq_iff_eq.mpr c52
                      have c52b1 : (t362.toList != t364.toList) = false := bne_eq_false_iff_eq.mpr c52
                      clear c52
                      obtain rfl := Option.some.inj H
                      cases hr_.out
                    · rw [if_neg c52] at H
                      have c52b0 : (t362.toList == t364.toList) = false := beq_eq_false_iff_ne.mpr c52
                      have c52b1 : (t362.toList != t364.toList) = true := bne_iff_ne.mpr c52
                      by_cases c53 : t364.toList = t366.toList
                      · rw [if_pos c53] at H
                        have c53b0 : (t364.toList == t366.toList) = true := beq_iff_eq.mpr c53
                        have c53b1 : (t364.toList != t366.toList) = false := bne_eq_false_iff_eq.mpr c53
                        clear c53
                        obtain rfl := Option.some.inj H
                        cases hr_.out
                      · rw [if_neg c53] at H
                        have c53b0 : (t364.toList == t366.toList) = false := beq_eq_false_iff_ne.mpr c53
                        have c53b1 : (t364.toList != t366.toList) = true := bne_iff_ne.mpr c53
                        by_cases c54 : t362.toList = t366.toList
                        · rw [if_pos c54] at H
                          have c54b0 : (t362.toList == t366.toList) = true := beq_iff_eq.mpr c54
                          have c54b1 : (t362.toList != t366.toList) = false := bne_eq_false_iff_eq.mpr c54
                          clear c54
                          obtain rfl := Option.some.inj H
                          cases hr_.out
                        · rw [if_neg c54] at H
                          have c54b0 : (t362.toList == t366.toList) = false := beq_eq_false_iff_ne.mpr c54
                          have c54b1 : (t362.toList != t366.toList) = true := bne_iff_ne.mpr c54
                          replace H := Option.bind_eq_some_iff.mp H
                          obtain ⟨t369, A550, H⟩ := H
                          replace H : (some (t369.toList != t362.toList)) = some r := H
                          have A55 := Aside0.mk A550
                          clear A550
                          obtain rfl := Option.some.inj H
                          try go_wp2
                          have n0_ := Aside0.mk (blk_drew BK358.out)
                          have n1_ := Aside0.mk (blk_drew BK359.out)
                          have n2_ := Aside0.mk (below_drew1 HB.out)
                          clear BK358
                          clear BK359
                          clear HB
                          have BK358 := n0_
                          have BK359 := n1_
                          have HB := n2_
                          clear n0_ n1_ n2_
                          refine start_ (n := 8) (S := fun w' => w'.cell? ⟨gb358, 0, none⟩ = some (.int .i64 a3_0) ∧ w'.cell? ⟨gb358, 1, none⟩ = some (.int .i64 a3_1) ∧ w'.cell? ⟨gb358, 2, none⟩ = some (.string a3_2) ∧ w'.cell? ⟨gb359, 0, none⟩ = some (.int .i64 a4_0) ∧ w'.cell? ⟨gb359, 1, none⟩ = some (.int .i64 a4_1) ∧ w'.cell? ⟨gb359, 2, none⟩ = some (.string a4_2)) (ds := []) #[false, false, false, false, false, false, false, false] (by kernel_rfl) rfl rfl ⟨(blk_cell BK358.out 0).trans rfl, (blk_cell BK358.out 1).trans rfl, (blk_cell BK358.out 2).trans rfl, (blk_cell BK359.out 0).trans rfl, (blk_cell BK359.out 1).trans rfl, (blk_cell BK359.out 2).trans rfl⟩ (fun hHeld => ?_); refine with_tabW mortmainlaw07_CellOne.tab5 mortmainlaw07_CellOne.bits5 (fun HT_ HW_ => ?_)
                          generalize wc.drew = w56 at BK358 BK359 HB hHeld ⊢
                          refine pure_ (i := 0) (N := some 45) (v := ?_) (a' := ?_) #[true, false, false, false, false, false, false, false] rfl rfl (any_of HT_.out (by kernel_rfl)) (fun _ _ _ h => h) (Or.inl ⟨by rfl, ?_⟩) ?_ ?_
                          rotate_left
                          · intro w'
                            go_simp
                            with_reducible rfl
                          rotate_left
                          · simp only [Act.put, List.setIfInBounds_toArray, List.set_cons_zero, List.set_cons_succ, i64_w, i32_w]
                            rfl
                          refine pure_ (i := 3) (N := some 48) (v := ?_) (a' := ?_) #[true, false, false, true, false, false, false, false] rfl rfl (any_of HT_.out (by kernel_rfl)) (fun _ _ _ h => h) (Or.inl ⟨by rfl, ?_⟩) ?_ ?_
                          rotate_left
                          · intro w'
                            go_simp
                            with_reducible rfl
                          rotate_left
                          · simp only [Act.put, List.setIfInBounds_toArray, List.set_cons_zero, List.set_cons_succ, i64_w, i32_w]
                            rfl
                          refine take_ (i := 1) (N := some 46) (v := ?_) (a' := ?_) #[true, true, false, true, false, false, false, false] rfl rfl (take_ofW HT_.out HW_.out (by kernel_rfl)) (fun _ _ _ h => h) (Or.inl ⟨by rfl, ?_⟩) hHeld ?_ ?_
                          rotate_left
                          · rintro w' ⟨s0, s1, s2, s3, s4, s5⟩
                            go_simp
                            with_reducible rfl
                          rotate_left
                          · simp only [Act.put, List.setIfInBounds_toArray, List.set_cons_zero, List.set_cons_succ, i64_w, i32_w]
                            rfl
                          refine take_ (i := 4) (N := some 49) (v := ?_) (a' := ?_) #[true, true, false, true, true, false, false, false] rfl rfl (take_ofW HT_.out HW_.out (by kernel_rfl)) (fun _ _ _ h => h) (Or.inl ⟨by rfl, ?_⟩) hHeld ?_ ?_
                          rotate_left
                          · rintro w' ⟨s0, s1, s2, s3, s4, s5⟩
                            go_simp
                            with_reducible rfl
                          rotate_left
                          · simp only [Act.put, List.setIfInBounds_toArray, List.set_cons_zero, List.set_cons_succ, i64_w, i32_w]
                            rfl
                          refine one_ (i := 2) (N := some 47) #[true, true, true, true, true, false, false, false] rfl rfl (one_of HT_.out (by kernel_rfl)) (by decide) (fun K hK => ?_)
                          refine goes_ Tryd.func23 (by kernel_rfl) rfl #[.string a0, .agg #[.int .i64 a3_0, .int .i64 a3_1, .string a3_2]] (by rfl) rfl rfl (by (try simp only [List.map_toArray, List.map_cons, List.map_nil]); first | done | rfl | (simp only [List.length_drop, List.length_take]; rfl)) ?_
                          with_reducible refine (cell_OfRow.calls kj7 a0 a3_0 a3_1 a3_2 t362 _ ?side1 A22.out).mono ?_
                          (case side1 => first | (with_reducible exact HT.out) | (with_reducible exact Tabs.drewN HT.out _) | exact Tabs.below HT.out (by repeat (first | (with_reducible first | exact HB.out | apply below_alloc | apply pw_below_drewN | apply below_drew1 | refine below_set ?_ GE358.out | refine below_set ?_ GE359.out) | exact HB.out)))
                          rintro e w57 ⟨rfl, hb⟩
                          refine ⟨_, rfl, ?_⟩
                          have n0_ := Aside0.mk (blk_below (g := gb358) (o := .cells #[.int .i64 a3_0, .int .i64 a3_1, .string a3_2] 23 (0, 0)) (by (with_reducible repeat (first | refine blk_drewN ?_ _ | refine blk_drew ?_ | refine blk_alloc ?_ _)); exact BK358.out) hb)
                          have n1_ := Aside0.mk (blk_below (g := gb359) (o := .cells #[.int .i64 a4_0, .int .i64 a4_1, .string a4_2] 23 (0, 0)) (by (with_reducible repeat (first | refine blk_drewN ?_ _ | refine blk_drew ?_ | refine blk_alloc ?_ _)); exact BK359.out) hb)
                          have n2_ := Aside0.mk (below_step (by repeat (first | (with_reducible first | exact HB.out | apply below_alloc | apply pw_below_drewN | apply below_drew1 | refine below_set ?_ GE358.out | refine below_set ?_ GE359.out) | exact HB.out)) hb)
                          clear BK358
                          clear BK359
                          clear HB
                          have BK358 := n0_
                          have BK359 := n1_
                          have HB := n2_
                          clear n0_ n1_ n2_
                          (try clear hb)
                          (try clear hb2)
                          (try clear hk)
                          (try clear hi)
                          refine hK.out _ _ ⟨(blk_cell BK358.out 0).trans rfl, (blk_cell BK358.out 1).trans rfl, (blk_cell BK358.out 2).trans rfl, (blk_cell BK359.out 0).trans rfl, (blk_cell BK359.out 1).trans rfl, (blk_cell BK359.out 2).trans rfl⟩ (fun hHeld => ?_)
                          clear hK K
                          refine norm_ (a' := ?_) ?_ ?_
                          rotate_left
                          · show Act.put _ (some 47) _ = _
                            simp only [Act.put, List.setIfInBounds_toArray, List.set_cons_zero, List.set_cons_succ, i64_w, i32_w]
                            rfl
                          refine one_ (i := 5) (N := some 50) #[true, true, true, true, true, true, false, false] rfl rfl (one_of HT_.out (by kernel_rfl)) (by decide) (fun K hK => ?_)
                          refine goes_ Tryd.func23 (by kernel_rfl) rfl #[.string a1, .agg #[.int .i64 a4_0, .int .i64 a4_1, .string a4_2]] (by rfl) rfl rfl (by (try simp only [List.map_toArray, List.map_cons, List.map_nil]); first | done | rfl | (simp only [List.length_drop, List.length_take]; rfl)) ?_
                          with_reducible refine (cell_OfRow.calls kj7 a1 a4_0 a4_1 a4_2 t363 _ ?side1 A23.out).mono ?_
                          (case side1 => first | (with_reducible exact HT.out) | (with_reducible exact Tabs.drewN HT.out _) | exact Tabs.below HT.out (by repeat (first | (with_reducible first | exact HB.out | apply below_alloc | apply pw_below_drewN | apply below_drew1 | refine below_set ?_ GE358.out | refine below_set ?_ GE359.out) | exact HB.out)))
                          rintro e w58 ⟨rfl, hb⟩
                          refine ⟨_, rfl, ?_⟩
                          have n0_ := Aside0.mk (blk_below (g := gb358) (o := .cells #[.int .i64 a3_0, .int .i64 a3_1, .string a3_2] 23 (0, 0)) (by (with_reducible repeat (first | refine blk_drewN ?_ _ | refine blk_drew ?_ | refine blk_alloc ?_ _)); exact BK358.out) hb)
                          have n1_ := Aside0.mk (blk_below (g := gb359) (o := .cells #[.int .i64 a4_0, .int .i64 a4_1, .string a4_2] 23 (0, 0)) (by (with_reducible repeat (first | refine blk_drewN ?_ _ | refine blk_drew ?_ | refine blk_alloc ?_ _)); exact BK359.out) hb)
                          have n2_ := Aside0.mk (below_step (by repeat (first | (with_reducible first | exact HB.out | apply below_alloc | apply pw_below_drewN | apply below_drew1 | refine below_set ?_ GE358.out | refine below_set ?_ GE359.out) | exact HB.out)) hb)
                          clear BK358
                          clear BK359
                          clear HB
                          have BK358 := n0_
                          have BK359 := n1_
                          have HB := n2_
                          clear n0_ n1_ n2_
                          (try clear hb)
                          (try clear hb2)
                          (try clear hk)
                          (try clear hi)
                          refine hK.out _ _ ⟨(blk_cell BK358.out 0).trans rfl, (blk_cell BK358.out 1).trans rfl, (blk_cell BK358.out 2).trans rfl, (blk_cell BK359.out 0).trans rfl, (blk_cell BK359.out 1).trans rfl, (blk_cell BK359.out 2).trans rfl⟩ (fun hHeld => ?_)
                          clear hK K
                          refine norm_ (a' := ?_) ?_ ?_
                          rotate_left
                          · show Act.put _ (some 50) _ = _
                            simp only [Act.put, List.setIfInBounds_toArray, List.set_cons_zero, List.set_cons_succ, i64_w, i32_w]
                            rfl
                          refine pure_ (i := 6) (N := some 11) (v := ?_) (a' := ?_) #[true, true, true, true, true, true, true, false] rfl rfl (any_of HT_.out (by kernel_rfl)) (fun _ _ _ h => h) (Or.inl ⟨by rfl, ?_⟩) ?_ ?_
                          rotate_left
                          · intro w'
                            go_simp
                            with_reducible rfl
                          rotate_left
                          · simp only [Act.put, List.setIfInBounds_toArray, List.set_cons_zero, List.set_cons_succ, i64_w, i32_w]
                            rfl
                          refine pure_ (i := 7) (N := some 12) (v := ?_) (a' := ?_) #[true, true, true, true, true, true, true, true] rfl rfl (any_of HT_.out (by kernel_rfl)) (fun _ _ _ h => h) (Or.inl ⟨by rfl, ?_⟩) ?_ ?_
                          rotate_left
                          · intro w'
                            go_simp
                            with_reducible rfl
                          rotate_left
                          · simp only [Act.put, List.setIfInBounds_toArray, List.set_cons_zero, List.set_cons_succ, i64_w, i32_w]
                            rfl
                          refine done_ (done_of HT_.out (by kernel_rfl)) ?_
                          try go_wp2
                          have n0_ := Aside0.mk (blk_drew BK358.out)
                          have n1_ := Aside0.mk (blk_drew BK359.out)
                          have n2_ := Aside0.mk (below_drew1 HB.out)
                          clear BK358
                          clear BK359
                          clear HB
                          have BK358 := n0_
                          have BK359 := n1_
                          have HB := n2_
                          clear n0_ n1_ n2_
                          refine start_ (n := 10) (S := fun w' => w'.cell? ⟨gb358, 0, none⟩ = some (.int .i64 a3_0) ∧ w'.cell? ⟨gb358, 1, none⟩ = some (.int .i64 a3_1) ∧ w'.cell? ⟨gb358, 2, none⟩ = some (.string a3_2) ∧ w'.cell? ⟨gb359, 0, none⟩ = some (.int .i64 a4_0) ∧ w'.cell? ⟨gb359, 1, none⟩ = some (.int .i64 a4_1) ∧ w'.cell? ⟨gb359, 2, none⟩ = some (.string a4_2)) (ds := []) #[false, false, false, false, false, false, false, false, false, false] (by kernel_rfl) rfl rfl ⟨(blk_cell BK358.out 0).trans rfl, (blk_cell BK358.out 1).trans rfl, (blk_cell BK358.out 2).trans rfl, (blk_cell BK359.out 0).trans rfl, (blk_cell BK359.out 1).trans rfl, (blk_cell BK359.out 2).trans rfl⟩ (fun hHeld => ?_); refine with_tabW mortmainlaw07_CellOne.tab6 mortmainlaw07_CellOne.bits6 (fun HT_ HW_ => ?_)
                          generalize w58.drew = w59 at BK358 BK359 HB hHeld ⊢
                          refine pure_ (i := 0) (N := some 51) (v := ?_) (a' := ?_) #[true, false, false, false, false, false, false, false, false, false] rfl rfl (any_of HT_.out (by kernel_rfl)) (fun _ _ _ h => h) (Or.inl ⟨by rfl, ?_⟩) ?_ ?_
                          rotate_left
                          · intro w'
                            go_simp
                            with_reducible rfl
                          rotate_left
                          · simp only [Act.put, List.setIfInBounds_toArray, List.set_cons_zero, List.set_cons_succ, i64_w, i32_w]
                            rfl
                          refine pure_ (i := 1) (N := some 52) (v := ?_) (a' := ?_) #[true, true, false, false, false, false, false, false, false, false] rfl rfl (any_of HT_.out (by kernel_rfl)) (fun _ _ _ h => h) (Or.inl ⟨by rfl, ?_⟩) ?_ ?_
                          rotate_left
                          · intro w'
                            go_simp
                            with_reducible rfl
                          rotate_left
                          · simp only [Act.put, List.setIfInBounds_toArray, List.set_cons_zero, List.set_cons_succ, i64_w, i32_w]
                            rfl
                          refine pure_ (i := 4) (N := some 55) (v := ?_) (a' := ?_) #[true, true, false, false, true, false, false, false, false, false] rfl rfl (any_of HT_.out (by kernel_rfl)) (fun _ _ _ h => h) (Or.inl ⟨by rfl, ?_⟩) ?_ ?_
                          rotate_left
                          · intro w'
                            go_simp
                            with_reducible rfl
                          rotate_left
                          · simp only [Act.put, List.setIfInBounds_toArray, List.set_cons_zero, List.set_cons_succ, i64_w, i32_w]
                            rfl
                          refine pure_ (i := 5) (N := some 56) (v := ?_) (a' := ?_) #[true, true, false, false, true, true, false, false, false, false] rfl rfl (any_of HT_.out (by kernel_rfl)) (fun _ _ _ h => h) (Or.inl ⟨by rfl, ?_⟩) ?_ ?_
                          rotate_left
                          · intro w'
                            go_simp
                            with_reducible rfl
                          rotate_left
                          · simp only [Act.put, List.setIfInBounds_toArray, List.set_cons_zero, List.set_cons_succ, i64_w, i32_w]
                            rfl
                          refine take_ (i := 2) (N := some 53) (v := ?_) (a' := ?_) #[true, true, true, false, true, true, false, false, false, false] rfl rfl (take_ofW HT_.out HW_.out (by kernel_rfl)) (fun _ _ _ h => h) (Or.inl ⟨by rfl, ?_⟩) hHeld ?_ ?_
                          rotate_left
                          · rintro w' ⟨s0, s1, s2, s3, s4, s5⟩
                            go_simp
                            with_reducible rfl
                          rotate_left
                          · simp only [Act.put, List.setIfInBounds_toArray, List.set_cons_zero, List.set_cons_succ, i64_w, i32_w]
                            rfl
                          refine take_ (i := 6) (N := some 57) (v := ?_) (a' := ?_) #[true, true, true, false, true, true, true, false, false, false] rfl rfl (take_ofW HT_.out HW_.out (by kernel_rfl)) (fun _ _ _ h => h) (Or.inl ⟨by rfl, ?_⟩) hHeld ?_ ?_
                          rotate_left
                          · rintro w' ⟨s0, s1, s2, s3, s4, s5⟩
                            go_simp
                            with_reducible rfl
                          rotate_left
                          · simp only [Act.put, List.setIfInBounds_toArray, List.set_cons_zero, List.set_cons_succ, i64_w, i32_w]
                            rfl
                          refine one_ (i := 3) (N := some 54) #[true, true, true, true, true, true, true, false, false, false] rfl rfl (one_of HT_.out (by kernel_rfl)) (by decide) (fun K hK => ?_)
                          refine goes_ Tryd.func24 (by kernel_rfl) rfl #[.string a0, .string a1, .agg #[.int .i64 a3_0, .int .i64 a3_1, .string a3_2]] (by rfl) rfl rfl (by (try simp only [List.map_toArray, List.map_cons, List.map_nil]); first | done | rfl | (simp only [List.length_drop, List.length_take]; rfl)) ?_
                          with_reducible refine (cell_OfUniq.calls kj7 a0 a1 a3_0 a3_1 a3_2 t364 _ ?side1 A24.out).mono ?_
                          (case side1 => first | (with_reducible exact HT.out) | (with_reducible exact Tabs.drewN HT.out _) | exact Tabs.below HT.out (by repeat (first | (with_reducible first | exact HB.out | apply below_alloc | apply pw_below_drewN | apply below_drew1 | refine below_set ?_ GE358.out | refine below_set ?_ GE359.out) | exact HB.out)))
                          rintro e w60 ⟨rfl, hb⟩
                          refine ⟨_, rfl, ?_⟩
                          have n0_ := Aside0.mk (blk_below (g := gb358) (o := .cells #[.int .i64 a3_0, .int .i64 a3_1, .string a3_2] 23 (0, 0)) (by (with_reducible repeat (first | refine blk_drewN ?_ _ | refine blk_drew ?_ | refine blk_alloc ?_ _)); exact BK358.out) hb)
                          have n1_ := Aside0.mk (blk_below (g := gb359) (o := .cells #[.int .i64 a4_0, .int .i64 a4_1, .string a4_2] 23 (0, 0)) (by (with_reducible repeat (first | refine blk_drewN ?_ _ | refine blk_drew ?_ | refine blk_alloc ?_ _)); exact BK359.out) hb)
                          have n2_ := Aside0.mk (below_step (by repeat (first | (with_reducible first | exact HB.out | apply below_alloc | apply pw_below_drewN | apply below_drew1 | refine below_set ?_ GE358.out | refine below_set ?_ GE359.out) | exact HB.out)) hb)
                          clear BK358
                          clear BK359
                          clear HB
                          have BK358 := n0_
                          have BK359 := n1_
                          have HB := n2_
                          clear n0_ n1_ n2_
                          (try clear hb)
                          (try clear hb2)
                          (try clear hk)
                          (try clear hi)
                          refine hK.out _ _ ⟨(blk_cell BK358.out 0).trans rfl, (blk_cell BK358.out 1).trans rfl, (blk_cell BK358.out 2).trans rfl, (blk_cell BK359.out 0).trans rfl, (blk_cell BK359.out 1).trans rfl, (blk_cell BK359.out 2).trans rfl⟩ (fun hHeld => ?_)
                          clear hK K
                          refine norm_ (a' := ?_) ?_ ?_
                          rotate_left
                          · show Act.put _ (some 54) _ = _
                            simp only [Act.put, List.setIfInBounds_toArray, List.set_cons_zero, List.set_cons_succ, i64_w, i32_w]
                            rfl
                          refine one_ (i := 7) (N := some 58) #[true, true, true, true, true, true, true, true, false, false] rfl rfl (one_of HT_.out (by kernel_rfl)) (by decide) (fun K hK => ?_)
                          refine goes_ Tryd.func24 (by kernel_rfl) rfl #[.string a0, .string a2, .agg #[.int .i64 a4_0, .int .i64 a4_1, .string a4_2]] (by rfl) rfl rfl (by (try simp only [List.map_toArray, List.map_cons, List.map_nil]); first | done | rfl | (simp only [List.length_drop, List.length_take]; rfl)) ?_
                          with_reducible refine (cell_OfUniq.calls kj7 a0 a2 a4_0 a4_1 a4_2 t365 _ ?side1 A25.out).mono ?_
                          (case side1 => first | (with_reducible exact HT.out) | (with_reducible exact Tabs.drewN HT.out _) | exact Tabs.below HT.out (by repeat (first | (with_reducible first | exact HB.out | apply below_alloc | apply pw_below_drewN | apply below_drew1 | refine below_set ?_ GE358.out | refine below_set ?_ GE359.out) | exact HB.out)))
                          rintro e w61 ⟨rfl, hb⟩
                          refine ⟨_, rfl, ?_⟩
                          have n0_ := Aside0.mk (blk_below (g := gb358) (o := .cells #[.int .i64 a3_0, .int .i64 a3_1, .string a3_2] 23 (0, 0)) (by (with_reducible repeat (first | refine blk_drewN ?_ _ | refine blk_drew ?_ | refine blk_alloc ?_ _)); exact BK358.out) hb)
                          have n1_ := Aside0.mk (blk_below (g := gb359) (o := .cells #[.int .i64 a4_0, .int .i64 a4_1, .string a4_2] 23 (0, 0)) (by (with_reducible repeat (first | refine blk_drewN ?_ _ | refine blk_drew ?_ | refine blk_alloc ?_ _)); exact BK359.out) hb)
                          have n2_ := Aside0.mk (below_step (by repeat (first | (with_reducible first | exact HB.out | apply below_alloc | apply pw_below_drewN | apply below_drew1 | refine below_set ?_ GE358.out | refine below_set ?_ GE359.out) | exact HB.out)) hb)
                          clear BK358
                          clear BK359
                          clear HB
                          have BK358 := n0_
                          have BK359 := n1_
                          have HB := n2_
                          clear n0_ n1_ n2_
                          (try clear hb)
                          (try clear hb2)
                          (try clear hk)
                          (try clear hi)
                          refine hK.out _ _ ⟨(blk_cell BK358.out 0).trans rfl, (blk_cell BK358.out 1).trans rfl, (blk_cell BK358.out 2).trans rfl, (blk_cell BK359.out 0).trans rfl, (blk_cell BK359.out 1).trans rfl, (blk_cell BK359.out 2).trans rfl⟩ (fun hHeld => ?_)
                          clear hK K
                          refine norm_ (a' := ?_) ?_ ?_
                          rotate_left
                          · show Act.put _ (some 58) _ = _
                            simp only [Act.put, List.setIfInBounds_toArray, List.set_cons_zero, List.set_cons_succ, i64_w, i32_w]
                            rfl
                          refine pure_ (i := 8) (N := some 13) (v := ?_) (a' := ?_) #[true, true, true, true, true, true, true, true, true, false] rfl rfl (any_of HT_.out (by kernel_rfl)) (fun _ _ _ h => h) (Or.inl ⟨by rfl, ?_⟩) ?_ ?_
                          rotate_left
                          · intro w'
                            go_simp
                            with_reducible rfl
                          rotate_left
                          · simp only [Act.put, List.setIfInBounds_toArray, List.set_cons_zero, List.set_cons_succ, i64_w, i32_w]
                            rfl
                          refine pure_ (i := 9) (N := some 14) (v := ?_) (a' := ?_) #[true, true, true, true, true, true, true, true, true, true] rfl rfl (any_of HT_.out (by kernel_rfl)) (fun _ _ _ h => h) (Or.inl ⟨by rfl, ?_⟩) ?_ ?_
                          rotate_left
                          · intro w'
                            go_simp
                            with_reducible rfl
                          rotate_left
                          · simp only [Act.put, List.setIfInBounds_toArray, List.set_cons_zero, List.set_cons_succ, i64_w, i32_w]
                            rfl
                          refine done_ (done_of HT_.out (by kernel_rfl)) ?_
                          try go_wp2
                          have n0_ := Aside0.mk (blk_drew BK358.out)
                          have n1_ := Aside0.mk (blk_drew BK359.out)
                          have n2_ := Aside0.mk (below_drew1 HB.out)
                          clear BK358
                          clear BK359
                          clear HB
                          have BK358 := n0_
                          have BK359 := n1_
                          have HB := n2_
                          clear n0_ n1_ n2_
                          refine start_ (n := 14) (S := fun w' => w'.cell? ⟨gb358, 0, none⟩ = some (.int .i64 a3_0) ∧ w'.cell? ⟨gb358, 1, none⟩ = some (.int .i64 a3_1) ∧ w'.cell? ⟨gb358, 2, none⟩ = some (.string a3_2) ∧ w'.cell? ⟨gb359, 0, none⟩ = some (.int .i64 a4_0) ∧ w'.cell? ⟨gb359, 1, none⟩ = some (.int .i64 a4_1) ∧ w'.cell? ⟨gb359, 2, none⟩ = some (.string a4_2)) (ds := []) #[false, false, false, false, false, false, false, false, false, false, false, false, false, false] (by kernel_rfl) rfl rfl ⟨(blk_cell BK358.out 0).trans rfl, (blk_cell BK358.out 1).trans rfl, (blk_cell BK358.out 2).trans rfl, (blk_cell BK359.out 0).trans rfl, (blk_cell BK359.out 1).trans rfl, (blk_cell BK359.out 2).trans rfl⟩ (fun hHeld => ?_); refine with_tabW mortmainlaw07_CellOne.tab7 mortmainlaw07_CellOne.bits7 (fun HT_ HW_ => ?_)
                          generalize w61.drew = w62 at BK358 BK359 HB hHeld ⊢
                          refine pure_ (i := 0) (N := some 59) (v := ?_) (a' := ?_) #[true, false, false, false, false, false, false, false, false, false, false, false, false, false] rfl rfl (any_of HT_.out (by kernel_rfl)) (fun _ _ _ h => h) (Or.inl ⟨by rfl, ?_⟩) ?_ ?_
                          rotate_left
                          · intro w'
                            go_simp
                            with_reducible rfl
                          rotate_left
                          · simp only [Act.put, List.setIfInBounds_toArray, List.set_cons_zero, List.set_cons_succ, i64_w, i32_w]
                            rfl
                          refine pure_ (i := 2) (N := some 61) (v := ?_) (a' := ?_) #[true, false, true, false, false, false, false, false, false, false, false, false, false, false] rfl rfl (any_of HT_.out (by kernel_rfl)) (fun _ _ _ h => h) (Or.inl ⟨by rfl, ?_⟩) ?_ ?_
                          rotate_left
                          · intro w'
                            go_simp
                            with_reducible rfl
                          rotate_left
                          · simp only [Act.put, List.setIfInBounds_toArray, List.set_cons_zero, List.set_cons_succ, i64_w, i32_w]
                            rfl
                          refine pure_ (i := 3) (N := some 62) (v := ?_) (a' := ?_) #[true, false, true, true, false, false, false, false, false, false, false, false, false, false] rfl rfl (any_of HT_.out (by kernel_rfl)) (fun _ _ _ h => h) (Or.inl ⟨by rfl, ?_⟩) ?_ ?_
                          rotate_left
                          · intro w'
                            go_simp
                            with_reducible rfl
                          rotate_left
                          · simp only [Act.put, List.setIfInBounds_toArray, List.set_cons_zero, List.set_cons_succ, i64_w, i32_w]
                            rfl
                          refine pure_ (i := 6) (N := some 65) (v := ?_) (a' := ?_) #[true, false, true, true, false, false, true, false, false, false, false, false, false, false] rfl rfl (any_of HT_.out (by kernel_rfl)) (fun _ _ _ h => h) (Or.inl ⟨by rfl, ?_⟩) ?_ ?_
                          rotate_left
                          · intro w'
                            go_simp
                            with_reducible rfl
                          rotate_left
                          · simp only [Act.put, List.setIfInBounds_toArray, List.set_cons_zero, List.set_cons_succ, i64_w, i32_w]
                            rfl
                          refine pure_ (i := 8) (N := some 67) (v := ?_) (a' := ?_) #[true, false, true, true, false, false, true, false, true, false, false, false, false, false] rfl rfl (any_of HT_.out (by kernel_rfl)) (fun _ _ _ h => h) (Or.inl ⟨by rfl, ?_⟩) ?_ ?_
                          rotate_left
                          · intro w'
                            go_simp
                            with_reducible rfl
                          rotate_left
                          · simp only [Act.put, List.setIfInBounds_toArray, List.set_cons_zero, List.set_cons_succ, i64_w, i32_w]
                            rfl
                          refine pure_ (i := 9) (N := some 68) (v := ?_) (a' := ?_) #[true, false, true, true, false, false, true, false, true, true, false, false, false, false] rfl rfl (any_of HT_.out (by kernel_rfl)) (fun _ _ _ h => h) (Or.inl ⟨by rfl, ?_⟩) ?_ ?_
                          rotate_left
                          · intro w'
                            go_simp
                            with_reducible rfl
                          rotate_left
                          · simp only [Act.put, List.setIfInBounds_toArray, List.set_cons_zero, List.set_cons_succ, i64_w, i32_w]
                            rfl
                          refine take_ (i := 1) (N := some 60) (v := ?_) (a' := ?_) #[true, true, true, true, false, false, true, false, true, true, false, false, false, false] rfl rfl (take_ofW HT_.out HW_.out (by kernel_rfl)) (fun _ _ _ h => h) (Or.inl ⟨by rfl, ?_⟩) hHeld ?_ ?_
                          rotate_left
                          · rintro w' ⟨s0, s1, s2, s3, s4, s5⟩
                            go_simp
                            with_reducible rfl
                          rotate_left
                          · simp only [Act.put, List.setIfInBounds_toArray, List.set_cons_zero, List.set_cons_succ, i64_w, i32_w]
                            rfl
                          refine take_ (i := 4) (N := some 63) (v := ?_) (a' := ?_) #[true, true, true, true, true, false, true, false, true, true, false, false, false, false] rfl rfl (take_ofW HT_.out HW_.out (by kernel_rfl)) (fun _ _ _ h => h) (Or.inl ⟨by rfl, ?_⟩) hHeld ?_ ?_
                          rotate_left
                          · rintro w' ⟨s0, s1, s2, s3, s4, s5⟩
                            go_simp
                            with_reducible rfl
                          rotate_left
                          · simp only [Act.put, List.setIfInBounds_toArray, List.set_cons_zero, List.set_cons_succ, i64_w, i32_w]
                            rfl
                          refine take_ (i := 7) (N := some 66) (v := ?_) (a' := ?_) #[true, true, true, true, true, false, true, true, true, true, false, false, false, false] rfl rfl (take_ofW HT_.out HW_.out (by kernel_rfl)) (fun _ _ _ h => h) (Or.inl ⟨by rfl, ?_⟩) hHeld ?_ ?_
                          rotate_left
                          · rintro w' ⟨s0, s1, s2, s3, s4, s5⟩
                            go_simp
                            with_reducible rfl
                          rotate_left
                          · simp only [Act.put, List.setIfInBounds_toArray, List.set_cons_zero, List.set_cons_succ, i64_w, i32_w]
                            rfl
                          refine take_ (i := 10) (N := some 69) (v := ?_) (a' := ?_) #[true, true, true, true, true, false, true, true, true, true, true, false, false, false] rfl rfl (take_ofW HT_.out HW_.out (by kernel_rfl)) (fun _ _ _ h => h) (Or.inl ⟨by rfl, ?_⟩) hHeld ?_ ?_
                          rotate_left
                          · rintro w' ⟨s0, s1, s2, s3, s4, s5⟩
                            go_simp
                            with_reducible rfl
                          rotate_left
                          · simp only [Act.put, List.setIfInBounds_toArray, List.set_cons_zero, List.set_cons_succ, i64_w, i32_w]
                            rfl
                          refine one_ (i := 5) (N := some 64) #[true, true, true, true, true, true, true, true, true, true, true, false, false, false] rfl rfl (one_of HT_.out (by kernel_rfl)) (by decide) (fun K hK => ?_)
                          refine goes_ Tryd.func25 (by kernel_rfl) rfl #[.string a0, .agg #[.int .i64 a3_0, .int .i64 a3_1, .string a3_2], .string a1, .string a2, .agg #[.int .i64 a4_0, .int .i64 a4_1, .string a4_2]] (by rfl) rfl rfl (by (try simp only [List.map_toArray, List.map_cons, List.map_nil]); first | done | rfl | (simp only [List.length_drop, List.length_take]; rfl)) ?_
                          with_reducible refine (cell_OfRef.calls kj7 a0 a3_0 a3_1 a3_2 a1 a2 a4_0 a4_1 a4_2 t366 _ ?side1 A26.out).mono ?_
                          (case side1 => first | (with_reducible exact HT.out) | (with_reducible exact Tabs.drewN HT.out _) | exact Tabs.below HT.out (by repeat (first | (with_reducible first | exact HB.out | apply below_alloc | apply pw_below_drewN | apply below_drew1 | refine below_set ?_ GE358.out | refine below_set ?_ GE359.out) | exact HB.out)))
                          rintro e w63 ⟨rfl, hb⟩
                          refine ⟨_, rfl, ?_⟩
                          have n0_ := Aside0.mk (blk_below (g := gb358) (o := .cells #[.int .i64 a3_0, .int .i64 a3_1, .string a3_2] 23 (0, 0)) (by (with_reducible repeat (first | refine blk_drewN ?_ _ | refine blk_drew ?_ | refine blk_alloc ?_ _)); exact BK358.out) hb)
                          have n1_ := Aside0.mk (blk_below (g := gb359) (o := .cells #[.int .i64 a4_0, .int .i64 a4_1, .string a4_2] 23 (0, 0)) (by (with_reducible repeat (first | refine blk_drewN ?_ _ | refine blk_drew ?_ | refine blk_alloc ?_ _)); exact BK359.out) hb)
                          have n2_ := Aside0.mk (below_step (by repeat (first | (with_reducible first | exact HB.out | apply below_alloc | apply pw_below_drewN | apply below_drew1 | refine below_set ?_ GE358.out | refine below_set ?_ GE359.out) | exact HB.out)) hb)
                          clear BK358
                          clear BK359
                          clear HB
                          have BK358 := n0_
                          have BK359 := n1_
                          have HB := n2_
                          clear n0_ n1_ n2_
                          (try clear hb)
                          (try clear hb2)
                          (try clear hk)
                          (try clear hi)
                          refine hK.out _ _ ⟨(blk_cell BK358.out 0).trans rfl, (blk_cell BK358.out 1).trans rfl, (blk_cell BK358.out 2).trans rfl, (blk_cell BK359.out 0).trans rfl, (blk_cell BK359.out 1).trans rfl, (blk_cell BK359.out 2).trans rfl⟩ (fun hHeld => ?_)
                          clear hK K
                          refine norm_ (a' := ?_) ?_ ?_
                          rotate_left
                          · show Act.put _ (some 64) _ = _
                            simp only [Act.put, List.setIfInBounds_toArray, List.set_cons_zero, List.set_cons_succ, i64_w, i32_w]
                            rfl
                          refine one_ (i := 11) (N := some 70) #[true, true, true, true, true, true, true, true, true, true, true, true, false, false] rfl rfl (one_of HT_.out (by kernel_rfl)) (by decide) (fun K hK => ?_)
                          refine goes_ Tryd.func25 (by kernel_rfl) rfl #[.string a0, .agg #[.int .i64 a3_0, .int .i64 a3_1, .string a3_2], .string a2, .string a1, .agg #[.int .i64 a4_0, .int .i64 a4_1, .string a4_2]] (by rfl) rfl rfl (by (try simp only [List.map_toArray, List.map_cons, List.map_nil]); first | done | rfl | (simp only [List.length_drop, List.length_take]; rfl)) ?_
                          with_reducible refine (cell_OfRef.calls kj7 a0 a3_0 a3_1 a3_2 a2 a1 a4_0 a4_1 a4_2 t367 _ ?side1 A27.out).mono ?_
                          (case side1 => first | (with_reducible exact HT.out) | (with_reducible exact Tabs.drewN HT.out _) | exact Tabs.below HT.out (by repeat (first | (with_reducible first | exact HB.out | apply below_alloc | apply pw_below_drewN | apply below_drew1 | refine below_set ?_ GE358.out | refine below_set ?_ GE359.out) | exact HB.out)))
                          rintro e w64 ⟨rfl, hb⟩
                          refine ⟨_, rfl, ?_⟩
                          have n0_ := Aside0.mk (blk_below (g := gb358) (o := .cells #[.int .i64 a3_0, .int .i64 a3_1, .string a3_2] 23 (0, 0)) (by (with_reducible repeat (first | refine blk_drewN ?_ _ | refine blk_drew ?_ | refine blk_alloc ?_ _)); exact BK358.out) hb)
                          have n1_ := Aside0.mk (blk_below (g := gb359) (o := .cells #[.int .i64 a4_0, .int .i64 a4_1, .string a4_2] 23 (0, 0)) (by (with_reducible repeat (first | refine blk_drewN ?_ _ | refine blk_drew ?_ | refine blk_alloc ?_ _)); exact BK359.out) hb)
                          have n2_ := Aside0.mk (below_step (by repeat (first | (with_reducible first | exact HB.out | apply below_alloc | apply pw_below_drewN | apply below_drew1 | refine below_set ?_ GE358.out | refine below_set ?_ GE359.out) | exact HB.out)) hb)
                          clear BK358
                          clear BK359
                          clear HB
                          have BK358 := n0_
                          have BK359 := n1_
                          have HB := n2_
                          clear n0_ n1_ n2_
                          (try clear hb)
                          (try clear hb2)
                          (try clear hk)
                          (try clear hi)
                          refine hK.out _ _ ⟨(blk_cell BK358.out 0).trans rfl, (blk_cell BK358.out 1).trans rfl, (blk_cell BK358.out 2).trans rfl, (blk_cell BK359.out 0).trans rfl, (blk_cell BK359.out 1).trans rfl, (blk_cell BK359.out 2).trans rfl⟩ (fun hHeld => ?_)
                          clear hK K
                          refine norm_ (a' := ?_) ?_ ?_
                          rotate_left
                          · show Act.put _ (some 70) _ = _
                            simp only [Act.put, List.setIfInBounds_toArray, List.set_cons_zero, List.set_cons_succ, i64_w, i32_w]
                            rfl
                          refine pure_ (i := 12) (N := some 15) (v := ?_) (a' := ?_) #[true, true, true, true, true, true, true, true, true, true, true, true, true, false] rfl rfl (any_of HT_.out (by kernel_rfl)) (fun _ _ _ h => h) (Or.inl ⟨by rfl, ?_⟩) ?_ ?_
                          rotate_left
                          · intro w'
                            go_simp
                            with_reducible rfl
                          rotate_left
                          · simp only [Act.put, List.setIfInBounds_toArray, List.set_cons_zero, List.set_cons_succ, i64_w, i32_w]
                            rfl
                          refine pure_ (i := 13) (N := some 16) (v := ?_) (a' := ?_) #[true, true, true, true, true, true, true, true, true, true, true, true, true, true] rfl rfl (any_of HT_.out (by kernel_rfl)) (fun _ _ _ h => h) (Or.inl ⟨by rfl, ?_⟩) ?_ ?_
                          rotate_left
                          · intro w'
                            go_simp
                            with_reducible rfl
                          rotate_left
                          · simp only [Act.put, List.setIfInBounds_toArray, List.set_cons_zero, List.set_cons_succ, i64_w, i32_w]
                            rfl
                          refine done_ (done_of HT_.out (by kernel_rfl)) ?_
                          have hnb65 := NB358_359.out
                          have hnc65 := NB359_358.out
                          have hcz66_0 : w64.cell? ⟨gb358, 0, none⟩ = some (.int .i64 a3_0) := (blk_cell BK358.out 0).trans rfl
                          have hcz66_1 : w64.cell? ⟨gb358, 1, none⟩ = some (.int .i64 a3_1) := (blk_cell BK358.out 1).trans rfl
                          have hcz66_2 : w64.cell? ⟨gb358, 2, none⟩ = some (.string a3_2) := (blk_cell BK358.out 2).trans rfl
                          have hfz66_0 := blk_frozen BK358.out 0
                          have hfz66_1 := blk_frozen BK358.out 1
                          have hfz66_2 := blk_frozen BK358.out 2
                          have hcz67_0 : w64.cell? ⟨gb359, 0, none⟩ = some (.int .i64 a4_0) := (blk_cell BK359.out 0).trans rfl
                          have hcz67_1 : w64.cell? ⟨gb359, 1, none⟩ = some (.int .i64 a4_1) := (blk_cell BK359.out 1).trans rfl
                          have hcz67_2 : w64.cell? ⟨gb359, 2, none⟩ = some (.string a4_2) := (blk_cell BK359.out 2).trans rfl
                          have hfz67_0 := blk_frozen BK359.out 0
                          have hfz67_1 := blk_frozen BK359.out 1
                          have hfz67_2 := blk_frozen BK359.out 2
                          try go_wp2_with (first | (go_at_call 26; (with_reducible refine (cell_OfTable.calls kj7 a0 t369 _ ?side1 A55.out).mono ?_); (case side1 => first | (with_reducible exact HT.out) | (with_reducible exact Tabs.drewN HT.out _) | exact Tabs.below HT.out (by repeat (first | (with_reducible first | exact HB.out | apply below_alloc | apply pw_below_drewN | apply below_drew1 | refine below_set ?_ GE358.out | refine below_set ?_ GE359.out) | exact HB.out))); rintro e w68 ⟨rfl, hb⟩; have n0_ := Aside0.mk (blk_below (g := gb358) (o := .cells #[.int .i64 a3_0, .int .i64 a3_1, .string a3_2] 23 (0, 0)) (by (with_reducible repeat (first | refine blk_drewN ?_ _ | refine blk_drew ?_ | refine blk_alloc ?_ _)); exact BK358.out) hb); have n1_ := Aside0.mk (blk_below (g := gb359) (o := .cells #[.int .i64 a4_0, .int .i64 a4_1, .string a4_2] 23 (0, 0)) (by (with_reducible repeat (first | refine blk_drewN ?_ _ | refine blk_drew ?_ | refine blk_alloc ?_ _)); exact BK359.out) hb); have n2_ := Aside0.mk (below_step (by repeat (first | (with_reducible first | exact HB.out | apply below_alloc | apply pw_below_drewN | apply below_drew1 | refine below_set ?_ GE358.out | refine below_set ?_ GE359.out) | exact HB.out)) hb); clear BK358; clear BK359; clear HB; have BK358 := n0_; have BK359 := n1_; have HB := n2_; clear n0_ n1_ n2_; (try clear hb); (try clear hb2); (try clear hk); (try clear hi)))
                          go_ret
                          exact ⟨by first | rfl | (simp [errW_none, errW_some] <;> rfl) | (simp [*, errW_none, errW_some] <;> rfl), by repeat (first | (with_reducible first | exact HB.out | apply below_alloc | apply pw_below_drewN | apply below_drew1 | refine below_set ?_ GE358.out | refine below_set ?_ GE359.out) | exact HB.out)⟩
                  · rw [if_neg c51] at H
                    have c51b0 : ((t366.toList == t367.toList) == (a1.toList == a2.toList)) = false := by simpa using c51
                    (try (have c51bz := c51b0; simp only [c30b0, beq_true, beq_false, Bool.not_eq_true', Bool.not_eq_false'] at c51bz))
                    (try (have c51b1 : decide ((t366.toList == t367.toList) = (a1.toList == a2.toList)) = false := by simpa using c51))
                    (try (have c51b2 : ((t366.toList == t367.toList) == (a1.toList == a2.toList)) = false := by simpa using c51))
                    (try (have c51b3 : ¬ ((t366.toList == t367.toList) = (a1.toList == a2.toList)) := by simpa using c51))
                    clear c51
                    obtain rfl := Option.some.inj H
                    cases hr_.out
                · rw [if_neg c50] at H
                  have c50b0 : ((t364.toList == t365.toList) == false) = false := by simpa using c50
                  (try (have c50bz := c50b0; simp only [beq_true, beq_false, Bool.not_eq_true', Bool.not_eq_false'] at c50bz))
                  (try (have c50b1 : decide ((t364.toList == t365.toList) = false) = false := by simpa using c50))
                  (try (have c50b2 : ((t364.toList == t365.toList) == false) = false := by simpa using c50))
                  (try (have c50b3 : ¬ ((t364.toList == t365.toList) = false) := by simpa using c50))
                  clear c50
                  obtain rfl := Option.some.inj H
                  cases hr_.out
            · rw [if_neg c29] at H
              have c29b0 : ((t362.toList == t363.toList) == (a3_0 == a4_0 && (a3_1 == a4_1 && (a3_2.toList == a4_2.toList)))) = false := by simpa using c29
              (try (have c29bz := c29b0; simp only [beq_true, beq_false, Bool.not_eq_true', Bool.not_eq_false'] at c29bz))
              (try (have c29b1 : decide ((t362.toList == t363.toList) = (a3_0 == a4_0 && (a3_1 == a4_1 && (a3_2.toList == a4_2.toList)))) = false := by simpa using c29))
              (try (have c29b2 : ((t362.toList == t363.toList) == (a3_0 == a4_0 && (a3_1 == a4_1 && (a3_2.toList == a4_2.toList)))) = false := by simpa using c29))
              (try (have c29b3 : ¬ ((t362.toList == t363.toList) = (a3_0 == a4_0 && (a3_1 == a4_1 && (a3_2.toList == a4_2.toList)))) := by simpa using c29))
              clear c29
              obtain rfl := Option.some.inj H
              cases hr_.out
          · rw [if_neg c28] at H
            have c28b0 : (a0.toList == a1.toList) = false := beq_eq_false_iff_ne.mpr c28
            have c28b1 : (a0.toList != a1.toList) = true := bne_iff_ne.mpr c28
            by_cases c69 : ((t362.toList == t363.toList) == false) = true
            · rw [if_pos c69] at H
              have c69b0 : ((t362.toList == t363.toList) == false) = true := c69
              (try (have c69bz := c69b0; simp only [beq_true, beq_false, Bool.not_eq_true', Bool.not_eq_false'] at c69bz))
              (try (have c69b1 : decide ((t362.toList == t363.toList) = false) = true := by simpa using c69))
              (try (have c69b2 : ((t362.toList == t363.toList) == false) = true := by simpa using c69))
              clear c69
              by_cases c70 : a1.toList = a2.toList
              · rw [if_pos c70] at H
                have c70b0 : (a1.toList == a2.toList) = true := beq_iff_eq.mpr c70
                have c70b1 : (a1.toList != a2.toList) = false := bne_eq_false_iff_eq.mpr c70
                clear c70
                by_cases c71 : ((t364.toList == t365.toList) == (a3_0 == a4_0 && (a3_1 == a4_1 && (a3_2.toList == a4_2.toList)))) = true
                · rw [if_pos c71] at H
                  have c71b0 : ((t364.toList == t365.toList) == (a3_0 == a4_0 && (a3_1 == a4_1 && (a3_2.toList == a4_2.toList)))) = true := c71
                  (try (have c71bz := c71b0; simp only [beq_true, beq_false, Bool.not_eq_true', Bool.not_eq_false'] at c71bz))
                  (try (have c71b1 : decide ((t364.toList == t365.toList) = (a3_0 == a4_0 && (a3_1 == a4_1 && (a3_2.toList == a4_2.toList)))) = true := by simpa using c71))
                  (try (have c71b2 : ((t364.toList == t365.toList) == (a3_0 == a4_0 && (a3_1 == a4_1 && (a3_2.toList == a4_2.toList)))) = true := by simpa using c71))
                  clear c71
                  by_cases c72 : ((t366.toList == t367.toList) == (a1.toList == a2.toList)) = true
                  · rw [if_pos c72] at H
                    have c72b0 : ((t366.toList == t367.toList) == (a1.toList == a2.toList)) = true := c72
                    (try (have c72bz := c72b0; simp only [c70b0, beq_true, beq_false, Bool.not_eq_true', Bool.not_eq_false'] at c72bz))
                    (try (have c72b1 : decide ((t366.toList == t367.toList) = (a1.toList == a2.toList)) = true := by simpa using c72))
                    (try (have c72b2 : ((t366.toList == t367.toList) == (a1.toList == a2.toList)) = true := by simpa using c72))
                    clear c72
                    by_cases c73 : t362.toList = t364.toList
                    · rw [if_pos c73] at H
                      have c73b0 : (t362.toList == t364.toList) = true := beq_iff_eq.mpr c73
                      have c73b1 : (t362.toList != t364.toList) = false := bne_eq_false_iff_eq.mpr c73
                      clear c73
                      obtain rfl := Option.some.inj H
                      cases hr_.out
                    · rw [if_neg c73] at H
                      have c73b0 : (t362.toList == t364.toList) = false := beq_eq_false_iff_ne.mpr c73
                      have c73b1 : (t362.toList != t364.toList) = true := bne_iff_ne.mpr c73
                      by_cases c74 : t364.toList = t366.toList
                      · rw [if_pos c74] at H
                        have c74b0 : (t364.toList == t366.toList) = true := beq_iff_eq.mpr c74
                        have c74b1 : (t364.toList != t366.toList) = false := bne_eq_false_iff_eq.mpr c74
                        clear c74
                        obtain rfl := Option.some.inj H
                        cases hr_.out
                      · rw [if_neg c74] at H
                        have c74b0 : (t364.toList == t366.toList) = false := beq_eq_false_iff_ne.mpr c74
                        have c74b1 : (t364.toList != t366.toList) = true := bne_iff_ne.mpr c74
                        by_cases c75 : t362.toList = t366.toList
                        · rw [if_pos c75] at H
                          have c75b0 : (t362.toList == t366.toList) = true := beq_iff_eq.mpr c75
                          have c75b1 : (t362.toList != t366.toList) = false := bne_eq_false_iff_eq.mpr c75
                          clear c75
                          obtain rfl := Option.some.inj H
                          cases hr_.out
                        · rw [if_neg c75] at H
                          have c75b0 : (t362.toList == t366.toList) = false := beq_eq_false_iff_ne.mpr c75
                          have c75b1 : (t362.toList != t366.toList) = true := bne_iff_ne.mpr c75
                          replace H := Option.bind_eq_some_iff.mp H
                          obtain ⟨t370, A760, H⟩ := H
                          replace H : (some (t370.toList != t362.toList)) = some r := H
                          have A76 := Aside0.mk A760
                          clear A760
                          obtain rfl := Option.some.inj H
                          try go_wp2
                          have n0_ := Aside0.mk (blk_drew BK358.out)
                          have n1_ := Aside0.mk (blk_drew BK359.out)
                          have n2_ := Aside0.mk (below_drew1 HB.out)
                          clear BK358
                          clear BK359
                          clear HB
                          have BK358 := n0_
                          have BK359 := n1_
                          have HB := n2_
                          clear n0_ n1_ n2_
                          refine start_ (n := 8) (S := fun w' => w'.cell? ⟨gb358, 0, none⟩ = some (.int .i64 a3_0) ∧ w'.cell? ⟨gb358, 1, none⟩ = some (.int .i64 a3_1) ∧ w'.cell? ⟨gb358, 2, none⟩ = some (.string a3_2) ∧ w'.cell? ⟨gb359, 0, none⟩ = some (.int .i64 a4_0) ∧ w'.cell? ⟨gb359, 1, none⟩ = some (.int .i64 a4_1) ∧ w'.cell? ⟨gb359, 2, none⟩ = some (.string a4_2)) (ds := []) #[false, false, false, false, false, false, false, false] (by kernel_rfl) rfl rfl ⟨(blk_cell BK358.out 0).trans rfl, (blk_cell BK358.out 1).trans rfl, (blk_cell BK358.out 2).trans rfl, (blk_cell BK359.out 0).trans rfl, (blk_cell BK359.out 1).trans rfl, (blk_cell BK359.out 2).trans rfl⟩ (fun hHeld => ?_); refine with_tabW mortmainlaw07_CellOne.tab5 mortmainlaw07_CellOne.bits5 (fun HT_ HW_ => ?_)
                          generalize wc.drew = w77 at BK358 BK359 HB hHeld ⊢
                          refine pure_ (i := 0) (N := some 45) (v := ?_) (a' := ?_) #[true, false, false, false, false, false, false, false] rfl rfl (any_of HT_.out (by kernel_rfl)) (fun _ _ _ h => h) (Or.inl ⟨by rfl, ?_⟩) ?_ ?_
                          rotate_left
                          · intro w'
                            go_simp
                            with_reducible rfl
                          rotate_left
                          · simp only [Act.put, List.setIfInBounds_toArray, List.set_cons_zero, List.set_cons_succ, i64_w, i32_w]
                            rfl
                          refine pure_ (i := 3) (N := some 48) (v := ?_) (a' := ?_) #[true, false, false, true, false, false, false, false] rfl rfl (any_of HT_.out (by kernel_rfl)) (fun _ _ _ h => h) (Or.inl ⟨by rfl, ?_⟩) ?_ ?_
                          rotate_left
                          · intro w'
                            go_simp
                            with_reducible rfl
                          rotate_left
                          · simp only [Act.put, List.setIfInBounds_toArray, List.set_cons_zero, List.set_cons_succ, i64_w, i32_w]
                            rfl
                          refine take_ (i := 1) (N := some 46) (v := ?_) (a' := ?_) #[true, true, false, true, false, false, false, false] rfl rfl (take_ofW HT_.out HW_.out (by kernel_rfl)) (fun _ _ _ h => h) (Or.inl ⟨by rfl, ?_⟩) hHeld ?_ ?_
                          rotate_left
                          · rintro w' ⟨s0, s1, s2, s3, s4, s5⟩
                            go_simp
                            with_reducible rfl
                          rotate_left
                          · simp only [Act.put, List.setIfInBounds_toArray, List.set_cons_zero, List.set_cons_succ, i64_w, i32_w]
                            rfl
                          refine take_ (i := 4) (N := some 49) (v := ?_) (a' := ?_) #[true, true, false, true, true, false, false, false] rfl rfl (take_ofW HT_.out HW_.out (by kernel_rfl)) (fun _ _ _ h => h) (Or.inl ⟨by rfl, ?_⟩) hHeld ?_ ?_
                          rotate_left
                          · rintro w' ⟨s0, s1, s2, s3, s4, s5⟩
                            go_simp
                            with_reducible rfl
                          rotate_left
                          · simp only [Act.put, List.setIfInBounds_toArray, List.set_cons_zero, List.set_cons_succ, i64_w, i32_w]
                            rfl
                          refine one_ (i := 2) (N := some 47) #[true, true, true, true, true, false, false, false] rfl rfl (one_of HT_.out (by kernel_rfl)) (by decide) (fun K hK => ?_)
                          refine goes_ Tryd.func23 (by kernel_rfl) rfl #[.string a0, .agg #[.int .i64 a3_0, .int .i64 a3_1, .string a3_2]] (by rfl) rfl rfl (by (try simp only [List.map_toArray, List.map_cons, List.map_nil]); first | done | rfl | (simp only [List.length_drop, List.length_take]; rfl)) ?_
                          with_reducible refine (cell_OfRow.calls kj7 a0 a3_0 a3_1 a3_2 t362 _ ?side1 A22.out).mono ?_
                          (case side1 => first | (with_reducible exact HT.out) | (with_reducible exact Tabs.drewN HT.out _) | exact Tabs.below HT.out (by repeat (first | (with_reducible first | exact HB.out | apply below_alloc | apply pw_below_drewN | apply below_drew1 | refine below_set ?_ GE358.out | refine below_set ?_ GE359.out) | exact HB.out)))
                          rintro e w78 ⟨rfl, hb⟩
                          refine ⟨_, rfl, ?_⟩
                          have n0_ := Aside0.mk (blk_below (g := gb358) (o := .cells #[.int .i64 a3_0, .int .i64 a3_1, .string a3_2] 23 (0, 0)) (by (with_reducible repeat (first | refine blk_drewN ?_ _ | refine blk_drew ?_ | refine blk_alloc ?_ _)); exact BK358.out) hb)
                          have n1_ := Aside0.mk (blk_below (g := gb359) (o := .cells #[.int .i64 a4_0, .int .i64 a4_1, .string a4_2] 23 (0, 0)) (by (with_reducible repeat (first | refine blk_drewN ?_ _ | refine blk_drew ?_ | refine blk_alloc ?_ _)); exact BK359.out) hb)
                          have n2_ := Aside0.mk (below_step (by repeat (first | (with_reducible first | exact HB.out | apply below_alloc | apply pw_below_drewN | apply below_drew1 | refine below_set ?_ GE358.out | refine below_set ?_ GE359.out) | exact HB.out)) hb)
                          clear BK358
                          clear BK359
                          clear HB
                          have BK358 := n0_
                          have BK359 := n1_
                          have HB := n2_
                          clear n0_ n1_ n2_
                          (try clear hb)
                          (try clear hb2)
                          (try clear hk)
                          (try clear hi)
                          refine hK.out _ _ ⟨(blk_cell BK358.out 0).trans rfl, (blk_cell BK358.out 1).trans rfl, (blk_cell BK358.out 2).trans rfl, (blk_cell BK359.out 0).trans rfl, (blk_cell BK359.out 1).trans rfl, (blk_cell BK359.out 2).trans rfl⟩ (fun hHeld => ?_)
                          clear hK K
                          refine norm_ (a' := ?_) ?_ ?_
                          rotate_left
                          · show Act.put _ (some 47) _ = _
                            simp only [Act.put, List.setIfInBounds_toArray, List.set_cons_zero, List.set_cons_succ, i64_w, i32_w]
                            rfl
                          refine one_ (i := 5) (N := some 50) #[true, true, true, true, true, true, false, false] rfl rfl (one_of HT_.out (by kernel_rfl)) (by decide) (fun K hK => ?_)
                          refine goes_ Tryd.func23 (by kernel_rfl) rfl #[.string a1, .agg #[.int .i64 a4_0, .int .i64 a4_1, .string a4_2]] (by rfl) rfl rfl (by (try simp only [List.map_toArray, List.map_cons, List.map_nil]); first | done | rfl | (simp only [List.length_drop, List.length_take]; rfl)) ?_
                          with_reducible refine (cell_OfRow.calls kj7 a1 a4_0 a4_1 a4_2 t363 _ ?side1 A23.out).mono ?_
                          (case side1 => first | (with_reducible exact HT.out) | (with_reducible exact Tabs.drewN HT.out _) | exact Tabs.below HT.out (by repeat (first | (with_reducible first | exact HB.out | apply below_alloc | apply pw_below_drewN | apply below_drew1 | refine below_set ?_ GE358.out | refine below_set ?_ GE359.out) | exact HB.out)))
                          rintro e w79 ⟨rfl, hb⟩
                          refine ⟨_, rfl, ?_⟩
                          have n0_ := Aside0.mk (blk_below (g := gb358) (o := .cells #[.int .i64 a3_0, .int .i64 a3_1, .string a3_2] 23 (0, 0)) (by (with_reducible repeat (first | refine blk_drewN ?_ _ | refine blk_drew ?_ | refine blk_alloc ?_ _)); exact BK358.out) hb)
                          have n1_ := Aside0.mk (blk_below (g := gb359) (o := .cells #[.int .i64 a4_0, .int .i64 a4_1, .string a4_2] 23 (0, 0)) (by (with_reducible repeat (first | refine blk_drewN ?_ _ | refine blk_drew ?_ | refine blk_alloc ?_ _)); exact BK359.out) hb)
                          have n2_ := Aside0.mk (below_step (by repeat (first | (with_reducible first | exact HB.out | apply below_alloc | apply pw_below_drewN | apply below_drew1 | refine below_set ?_ GE358.out | refine below_set ?_ GE359.out) | exact HB.out)) hb)
                          clear BK358
                          clear BK359
                          clear HB
                          have BK358 := n0_
                          have BK359 := n1_
                          have HB := n2_
                          clear n0_ n1_ n2_
                          (try clear hb)
                          (try clear hb2)
                          (try clear hk)
                          (try clear hi)
                          refine hK.out _ _ ⟨(blk_cell BK358.out 0).trans rfl, (blk_cell BK358.out 1).trans rfl, (blk_cell BK358.out 2).trans rfl, (blk_cell BK359.out 0).trans rfl, (blk_cell BK359.out 1).trans rfl, (blk_cell BK359.out 2).trans rfl⟩ (fun hHeld => ?_)
                          clear hK K
                          refine norm_ (a' := ?_) ?_ ?_
                          rotate_left
                          · show Act.put _ (some 50) _ = _
                            simp only [Act.put, List.setIfInBounds_toArray, List.set_cons_zero, List.set_cons_succ, i64_w, i32_w]
                            rfl
                          refine pure_ (i := 6) (N := some 11) (v := ?_) (a' := ?_) #[true, true, true, true, true, true, true, false] rfl rfl (any_of HT_.out (by kernel_rfl)) (fun _ _ _ h => h) (Or.inl ⟨by rfl, ?_⟩) ?_ ?_
                          rotate_left
                          · intro w'
                            go_simp
                            with_reducible rfl
                          rotate_left
                          · simp only [Act.put, List.setIfInBounds_toArray, List.set_cons_zero, List.set_cons_succ, i64_w, i32_w]
                            rfl
                          refine pure_ (i := 7) (N := some 12) (v := ?_) (a' := ?_) #[true, true, true, true, true, true, true, true] rfl rfl (any_of HT_.out (by kernel_rfl)) (fun _ _ _ h => h) (Or.inl ⟨by rfl, ?_⟩) ?_ ?_
                          rotate_left
                          · intro w'
                            go_simp
                            with_reducible rfl
                          rotate_left
                          · simp only [Act.put, List.setIfInBounds_toArray, List.set_cons_zero, List.set_cons_succ, i64_w, i32_w]
                            rfl
                          refine done_ (done_of HT_.out (by kernel_rfl)) ?_
                          try go_wp2
                          have n0_ := Aside0.mk (blk_drew BK358.out)
                          have n1_ := Aside0.mk (blk_drew BK359.out)
                          have n2_ := Aside0.mk (below_drew1 HB.out)
                          clear BK358
                          clear BK359
                          clear HB
                          have BK358 := n0_
                          have BK359 := n1_
                          have HB := n2_
                          clear n0_ n1_ n2_
                          refine start_ (n := 10) (S := fun w' => w'.cell? ⟨gb358, 0, none⟩ = some (.int .i64 a3_0) ∧ w'.cell? ⟨gb358, 1, none⟩ = some (.int .i64 a3_1) ∧ w'.cell? ⟨gb358, 2, none⟩ = some (.string a3_2) ∧ w'.cell? ⟨gb359, 0, none⟩ = some (.int .i64 a4_0) ∧ w'.cell? ⟨gb359, 1, none⟩ = some (.int .i64 a4_1) ∧ w'.cell? ⟨gb359, 2, none⟩ = some (.string a4_2)) (ds := []) #[false, false, false, false, false, false, false, false, false, false] (by kernel_rfl) rfl rfl ⟨(blk_cell BK358.out 0).trans rfl, (blk_cell BK358.out 1).trans rfl, (blk_cell BK358.out 2).trans rfl, (blk_cell BK359.out 0).trans rfl, (blk_cell BK359.out 1).trans rfl, (blk_cell BK359.out 2).trans rfl⟩ (fun hHeld => ?_); refine with_tabW mortmainlaw07_CellOne.tab6 mortmainlaw07_CellOne.bits6 (fun HT_ HW_ => ?_)
                          generalize w79.drew = w80 at BK358 BK359 HB hHeld ⊢
                          refine pure_ (i := 0) (N := some 51) (v := ?_) (a' := ?_) #[true, false, false, false, false, false, false, false, false, false] rfl rfl (any_of HT_.out (by kernel_rfl)) (fun _ _ _ h => h) (Or.inl ⟨by rfl, ?_⟩) ?_ ?_
                          rotate_left
                          · intro w'
                            go_simp
                            with_reducible rfl
                          rotate_left
                          · simp only [Act.put, List.setIfInBounds_toArray, List.set_cons_zero, List.set_cons_succ, i64_w, i32_w]
                            rfl
                          refine pure_ (i := 1) (N := some 52) (v := ?_) (a' := ?_) #[true, true, false, false, false, false, false, false, false, false] rfl rfl (any_of HT_.out (by kernel_rfl)) (fun _ _ _ h => h) (Or.inl ⟨by rfl, ?_⟩) ?_ ?_
                          rotate_left
                          · intro w'
                            go_simp
                            with_reducible rfl
                          rotate_left
                          · simp only [Act.put, List.setIfInBounds_toArray, List.set_cons_zero, List.set_cons_succ, i64_w, i32_w]
                            rfl
                          refine pure_ (i := 4) (N := some 55) (v := ?_) (a' := ?_) #[true, true, false, false, true, false, false, false, false, false] rfl rfl (any_of HT_.out (by kernel_rfl)) (fun _ _ _ h => h) (Or.inl ⟨by rfl, ?_⟩) ?_ ?_
                          rotate_left
                          · intro w'
                            go_simp
                            with_reducible rfl
                          rotate_left
                          · simp only [Act.put, List.setIfInBounds_toArray, List.set_cons_zero, List.set_cons_succ, i64_w, i32_w]
                            rfl
                          refine pure_ (i := 5) (N := some 56) (v := ?_) (a' := ?_) #[true, true, false, false, true, true, false, false, false, false] rfl rfl (any_of HT_.out (by kernel_rfl)) (fun _ _ _ h => h) (Or.inl ⟨by rfl, ?_⟩) ?_ ?_
                          rotate_left
                          · intro w'
                            go_simp
                            with_reducible rfl
                          rotate_left
                          · simp only [Act.put, List.setIfInBounds_toArray, List.set_cons_zero, List.set_cons_succ, i64_w, i32_w]
                            rfl
                          refine take_ (i := 2) (N := some 53) (v := ?_) (a' := ?_) #[true, true, true, false, true, true, false, false, false, false] rfl rfl (take_ofW HT_.out HW_.out (by kernel_rfl)) (fun _ _ _ h => h) (Or.inl ⟨by rfl, ?_⟩) hHeld ?_ ?_
                          rotate_left
                          · rintro w' ⟨s0, s1, s2, s3, s4, s5⟩
                            go_simp
                            with_reducible rfl
                          rotate_left
                          · simp only [Act.put, List.setIfInBounds_toArray, List.set_cons_zero, List.set_cons_succ, i64_w, i32_w]
                            rfl
                          refine take_ (i := 6) (N := some 57) (v := ?_) (a' := ?_) #[true, true, true, false, true, true, true, false, false, false] rfl rfl (take_ofW HT_.out HW_.out (by kernel_rfl)) (fun _ _ _ h => h) (Or.inl ⟨by rfl, ?_⟩) hHeld ?_ ?_
                          rotate_left
                          · rintro w' ⟨s0, s1, s2, s3, s4, s5⟩
                            go_simp
                            with_reducible rfl
                          rotate_left
                          · simp only [Act.put, List.setIfInBounds_toArray, List.set_cons_zero, List.set_cons_succ, i64_w, i32_w]
                            rfl
                          refine one_ (i := 3) (N := some 54) #[true, true, true, true, true, true, true, false, false, false] rfl rfl (one_of HT_.out (by kernel_rfl)) (by decide) (fun K hK => ?_)
                          refine goes_ Tryd.func24 (by kernel_rfl) rfl #[.string a0, .string a1, .agg #[.int .i64 a3_0, .int .i64 a3_1, .string a3_2]] (by rfl) rfl rfl (by (try simp only [List.map_toArray, List.map_cons, List.map_nil]); first | done | rfl | (simp only [List.length_drop, List.length_take]; rfl)) ?_
                          with_reducible refine (cell_OfUniq.calls kj7 a0 a1 a3_0 a3_1 a3_2 t364 _ ?side1 A24.out).mono ?_
                          (case side1 => first | (with_reducible exact HT.out) | (with_reducible exact Tabs.drewN HT.out _) | exact Tabs.below HT.out (by repeat (first | (with_reducible first | exact HB.out | apply below_alloc | apply pw_below_drewN | apply below_drew1 | refine below_set ?_ GE358.out | refine below_set ?_ GE359.out) | exact HB.out)))
                          rintro e w81 ⟨rfl, hb⟩
                          refine ⟨_, rfl, ?_⟩
                          have n0_ := Aside0.mk (blk_below (g := gb358) (o := .cells #[.int .i64 a3_0, .int .i64 a3_1, .string a3_2] 23 (0, 0)) (by (with_reducible repeat (first | refine blk_drewN ?_ _ | refine blk_drew ?_ | refine blk_alloc ?_ _)); exact BK358.out) hb)
                          have n1_ := Aside0.mk (blk_below (g := gb359) (o := .cells #[.int .i64 a4_0, .int .i64 a4_1, .string a4_2] 23 (0, 0)) (by (with_reducible repeat (first | refine blk_drewN ?_ _ | refine blk_drew ?_ | refine blk_alloc ?_ _)); exact BK359.out) hb)
                          have n2_ := Aside0.mk (below_step (by repeat (first | (with_reducible first | exact HB.out | apply below_alloc | apply pw_below_drewN | apply below_drew1 | refine below_set ?_ GE358.out | refine below_set ?_ GE359.out) | exact HB.out)) hb)
                          clear BK358
                          clear BK359
                          clear HB
                          have BK358 := n0_
                          have BK359 := n1_
                          have HB := n2_
                          clear n0_ n1_ n2_
                          (try clear hb)
                          (try clear hb2)
                          (try clear hk)
                          (try clear hi)
                          refine hK.out _ _ ⟨(blk_cell BK358.out 0).trans rfl, (blk_cell BK358.out 1).trans rfl, (blk_cell BK358.out 2).trans rfl, (blk_cell BK359.out 0).trans rfl, (blk_cell BK359.out 1).trans rfl, (blk_cell BK359.out 2).trans rfl⟩ (fun hHeld => ?_)
                          clear hK K
                          refine norm_ (a' := ?_) ?_ ?_
                          rotate_left
                          · show Act.put _ (some 54) _ = _
                            simp only [Act.put, List.setIfInBounds_toArray, List.set_cons_zero, List.set_cons_succ, i64_w, i32_w]
                            rfl
                          refine one_ (i := 7) (N := some 58) #[true, true, true, true, true, true, true, true, false, false] rfl rfl (one_of HT_.out (by kernel_rfl)) (by decide) (fun K hK => ?_)
                          refine goes_ Tryd.func24 (by kernel_rfl) rfl #[.string a0, .string a2, .agg #[.int .i64 a4_0, .int .i64 a4_1, .string a4_2]] (by rfl) rfl rfl (by (try simp only [List.map_toArray, List.map_cons, List.map_nil]); first | done | rfl | (simp only [List.length_drop, List.length_take]; rfl)) ?_
                          with_reducible refine (cell_OfUniq.calls kj7 a0 a2 a4_0 a4_1 a4_2 t365 _ ?side1 A25.out).mono ?_
                          (case side1 => first | (with_reducible exact HT.out) | (with_reducible exact Tabs.drewN HT.out _) | exact Tabs.below HT.out (by repeat (first | (with_reducible first | exact HB.out | apply below_alloc | apply pw_below_drewN | apply below_drew1 | refine below_set ?_ GE358.out | refine below_set ?_ GE359.out) | exact HB.out)))
                          rintro e w82 ⟨rfl, hb⟩
                          refine ⟨_, rfl, ?_⟩
                          have n0_ := Aside0.mk (blk_below (g := gb358) (o := .cells #[.int .i64 a3_0, .int .i64 a3_1, .string a3_2] 23 (0, 0)) (by (with_reducible repeat (first | refine blk_drewN ?_ _ | refine blk_drew ?_ | refine blk_alloc ?_ _)); exact BK358.out) hb)
                          have n1_ := Aside0.mk (blk_below (g := gb359) (o := .cells #[.int .i64 a4_0, .int .i64 a4_1, .string a4_2] 23 (0, 0)) (by (with_reducible repeat (first | refine blk_drewN ?_ _ | refine blk_drew ?_ | refine blk_alloc ?_ _)); exact BK359.out) hb)
                          have n2_ := Aside0.mk (below_step (by repeat (first | (with_reducible first | exact HB.out | apply below_alloc | apply pw_below_drewN | apply below_drew1 | refine below_set ?_ GE358.out | refine below_set ?_ GE359.out) | exact HB.out)) hb)
                          clear BK358
                          clear BK359
                          clear HB
                          have BK358 := n0_
                          have BK359 := n1_
                          have HB := n2_
                          clear n0_ n1_ n2_
                          (try clear hb)
                          (try clear hb2)
                          (try clear hk)
                          (try clear hi)
                          refine hK.out _ _ ⟨(blk_cell BK358.out 0).trans rfl, (blk_cell BK358.out 1).trans rfl, (blk_cell BK358.out 2).trans rfl, (blk_cell BK359.out 0).trans rfl, (blk_cell BK359.out 1).trans rfl, (blk_cell BK359.out 2).trans rfl⟩ (fun hHeld => ?_)
                          clear hK K
                          refine norm_ (a' := ?_) ?_ ?_
                          rotate_left
                          · show Act.put _ (some 58) _ = _
                            simp only [Act.put, List.setIfInBounds_toArray, List.set_cons_zero, List.set_cons_succ, i64_w, i32_w]
                            rfl
                          refine pure_ (i := 8) (N := some 13) (v := ?_) (a' := ?_) #[true, true, true, true, true, true, true, true, true, false] rfl rfl (any_of HT_.out (by kernel_rfl)) (fun _ _ _ h => h) (Or.inl ⟨by rfl, ?_⟩) ?_ ?_
                          rotate_left
                          · intro w'
                            go_simp
                            with_reducible rfl
                          rotate_left
                          · simp only [Act.put, List.setIfInBounds_toArray, List.set_cons_zero, List.set_cons_succ, i64_w, i32_w]
                            rfl
                          refine pure_ (i := 9) (N := some 14) (v := ?_) (a' := ?_) #[true, true, true, true, true, true, true, true, true, true] rfl rfl (any_of HT_.out (by kernel_rfl)) (fun _ _ _ h => h) (Or.inl ⟨by rfl, ?_⟩) ?_ ?_
                          rotate_left
                          · intro w'
                            go_simp
                            with_reducible rfl
                          rotate_left
                          · simp only [Act.put, List.setIfInBounds_toArray, List.set_cons_zero, List.set_cons_succ, i64_w, i32_w]
                            rfl
                          refine done_ (done_of HT_.out (by kernel_rfl)) ?_
                          try go_wp2
                          have n0_ := Aside0.mk (blk_drew BK358.out)
                          have n1_ := Aside0.mk (blk_drew BK359.out)
                          have n2_ := Aside0.mk (below_drew1 HB.out)
                          clear BK358
                          clear BK359
                          clear HB
                          have BK358 := n0_
                          have BK359 := n1_
                          have HB := n2_
                          clear n0_ n1_ n2_
                          refine start_ (n := 14) (S := fun w' => w'.cell? ⟨gb358, 0, none⟩ = some (.int .i64 a3_0) ∧ w'.cell? ⟨gb358, 1, none⟩ = some (.int .i64 a3_1) ∧ w'.cell? ⟨gb358, 2, none⟩ = some (.string a3_2) ∧ w'.cell? ⟨gb359, 0, none⟩ = some (.int .i64 a4_0) ∧ w'.cell? ⟨gb359, 1, none⟩ = some (.int .i64 a4_1) ∧ w'.cell? ⟨gb359, 2, none⟩ = some (.string a4_2)) (ds := []) #[false, false, false, false, false, false, false, false, false, false, false, false, false, false] (by kernel_rfl) rfl rfl ⟨(blk_cell BK358.out 0).trans rfl, (blk_cell BK358.out 1).trans rfl, (blk_cell BK358.out 2).trans rfl, (blk_cell BK359.out 0).trans rfl, (blk_cell BK359.out 1).trans rfl, (blk_cell BK359.out 2).trans rfl⟩ (fun hHeld => ?_); refine with_tabW mortmainlaw07_CellOne.tab7 mortmainlaw07_CellOne.bits7 (fun HT_ HW_ => ?_)
                          generalize w82.drew = w83 at BK358 BK359 HB hHeld ⊢
                          refine pure_ (i := 0) (N := some 59) (v := ?_) (a' := ?_) #[true, false, false, false, false, false, false, false, false, false, false, false, false, false] rfl rfl (any_of HT_.out (by kernel_rfl)) (fun _ _ _ h => h) (Or.inl ⟨by rfl, ?_⟩) ?_ ?_
                          rotate_left
                          · intro w'
                            go_simp
                            with_reducible rfl
                          rotate_left
                          · simp only [Act.put, List.setIfInBounds_toArray, List.set_cons_zero, List.set_cons_succ, i64_w, i32_w]
                            rfl
                          refine pure_ (i := 2) (N := some 61) (v := ?_) (a' := ?_) #[true, false, true, false, false, false, false, false, false, false, false, false, false, false] rfl rfl (any_of HT_.out (by kernel_rfl)) (fun _ _ _ h => h) (Or.inl ⟨by rfl, ?_⟩) ?_ ?_
                          rotate_left
                          · intro w'
                            go_simp
                            with_reducible rfl
                          rotate_left
                          · simp only [Act.put, List.setIfInBounds_toArray, List.set_cons_zero, List.set_cons_succ, i64_w, i32_w]
                            rfl
                          refine pure_ (i := 3) (N := some 62) (v := ?_) (a' := ?_) #[true, false, true, true, false, false, false, false, false, false, false, false, false, false] rfl rfl (any_of HT_.out (by kernel_rfl)) (fun _ _ _ h => h) (Or.inl ⟨by rfl, ?_⟩) ?_ ?_
                          rotate_left
                          · intro w'
                            go_simp
                            with_reducible rfl
                          rotate_left
                          · simp only [Act.put, List.setIfInBounds_toArray, List.set_cons_zero, List.set_cons_succ, i64_w, i32_w]
                            rfl
                          refine pure_ (i := 6) (N := some 65) (v := ?_) (a' := ?_) #[true, false, true, true, false, false, true, false, false, false, false, false, false, false] rfl rfl (any_of HT_.out (by kernel_rfl)) (fun _ _ _ h => h) (Or.inl ⟨by rfl, ?_⟩) ?_ ?_
                          rotate_left
                          · intro w'
                            go_simp
                            with_reducible rfl
                          rotate_left
                          · simp only [Act.put, List.setIfInBounds_toArray, List.set_cons_zero, List.set_cons_succ, i64_w, i32_w]
                            rfl
                          refine pure_ (i := 8) (N := some 67) (v := ?_) (a' := ?_) #[true, false, true, true, false, false, true, false, true, false, false, false, false, false] rfl rfl (any_of HT_.out (by kernel_rfl)) (fun _ _ _ h => h) (Or.inl ⟨by rfl, ?_⟩) ?_ ?_
                          rotate_left
                          · intro w'
                            go_simp
                            with_reducible rfl
                          rotate_left
                          · simp only [Act.put, List.setIfInBounds_toArray, List.set_cons_zero, List.set_cons_succ, i64_w, i32_w]
                            rfl
                          refine pure_ (i := 9) (N := some 68) (v := ?_) (a' := ?_) #[true, false, true, true, false, false, true, false, true, true, false, false, false, false] rfl rfl (any_of HT_.out (by kernel_rfl)) (fun _ _ _ h => h) (Or.inl ⟨by rfl, ?_⟩) ?_ ?_
                          rotate_left
                          · intro w'
                            go_simp
                            with_reducible rfl
                          rotate_left
                          · simp only [Act.put, List.setIfInBounds_toArray, List.set_cons_zero, List.set_cons_succ, i64_w, i32_w]
                            rfl
                          refine take_ (i := 1) (N := some 60) (v := ?_) (a' := ?_) #[true, true, true, true, false, false, true, false, true, true, false, false, false, false] rfl rfl (take_ofW HT_.out HW_.out (by kernel_rfl)) (fun _ _ _ h => h) (Or.inl ⟨by rfl, ?_⟩) hHeld ?_ ?_
                          rotate_left
                          · rintro w' ⟨s0, s1, s2, s3, s4, s5⟩
                            go_simp
                            with_reducible rfl
                          rotate_left
                          · simp only [Act.put, List.setIfInBounds_toArray, List.set_cons_zero, List.set_cons_succ, i64_w, i32_w]
                            rfl
                          refine take_ (i := 4) (N := some 63) (v := ?_) (a' := ?_) #[true, true, true, true, true, false, true, false, true, true, false, false, false, false] rfl rfl (take_ofW HT_.out HW_.out (by kernel_rfl)) (fun _ _ _ h => h) (Or.inl ⟨by rfl, ?_⟩) hHeld ?_ ?_
                          rotate_left
                          · rintro w' ⟨s0, s1, s2, s3, s4, s5⟩
                            go_simp
                            with_reducible rfl
                          rotate_left
                          · simp only [Act.put, List.setIfInBounds_toArray, List.set_cons_zero, List.set_cons_succ, i64_w, i32_w]
                            rfl
                          refine take_ (i := 7) (N := some 66) (v := ?_) (a' := ?_) #[true, true, true, true, true, false, true, true, true, true, false, false, false, false] rfl rfl (take_ofW HT_.out HW_.out (by kernel_rfl)) (fun _ _ _ h => h) (Or.inl ⟨by rfl, ?_⟩) hHeld ?_ ?_
                          rotate_left
                          · rintro w' ⟨s0, s1, s2, s3, s4, s5⟩
                            go_simp
                            with_reducible rfl
                          rotate_left
                          · simp only [Act.put, List.setIfInBounds_toArray, List.set_cons_zero, List.set_cons_succ, i64_w, i32_w]
                            rfl
                          refine take_ (i := 10) (N := some 69) (v := ?_) (a' := ?_) #[true, true, true, true, true, false, true, true, true, true, true, false, false, false] rfl rfl (take_ofW HT_.out HW_.out (by kernel_rfl)) (fun _ _ _ h => h) (Or.inl ⟨by rfl, ?_⟩) hHeld ?_ ?_
                          rotate_left
                          · rintro w' ⟨s0, s1, s2, s3, s4, s5⟩
                            go_simp
                            with_reducible rfl
                          rotate_left
                          · simp only [Act.put, List.setIfInBounds_toArray, List.set_cons_zero, List.set_cons_succ, i64_w, i32_w]
                            rfl
                          refine one_ (i := 5) (N := some 64) #[true, true, true, true, true, true, true, true, true, true, true, false, false, false] rfl rfl (one_of HT_.out (by kernel_rfl)) (by decide) (fun K hK => ?_)
                          refine goes_ Tryd.func25 (by kernel_rfl) rfl #[.string a0, .agg #[.int .i64 a3_0, .int .i64 a3_1, .string a3_2], .string a1, .string a2, .agg #[.int .i64 a4_0, .int .i64 a4_1, .string a4_2]] (by rfl) rfl rfl (by (try simp only [List.map_toArray, List.map_cons, List.map_nil]); first | done | rfl | (simp only [List.length_drop, List.length_take]; rfl)) ?_
                          with_reducible refine (cell_OfRef.calls kj7 a0 a3_0 a3_1 a3_2 a1 a2 a4_0 a4_1 a4_2 t366 _ ?side1 A26.out).mono ?_
                          (case side1 => first | (with_reducible exact HT.out) | (with_reducible exact Tabs.drewN HT.out _) | exact Tabs.below HT.out (by repeat (first | (with_reducible first | exact HB.out | apply below_alloc | apply pw_below_drewN | apply below_drew1 | refine below_set ?_ GE358.out | refine below_set ?_ GE359.out) | exact HB.out)))
                          rintro e w84 ⟨rfl, hb⟩
                          refine ⟨_, rfl, ?_⟩
                          have n0_ := Aside0.mk (blk_below (g := gb358) (o := .cells #[.int .i64 a3_0, .int .i64 a3_1, .string a3_2] 23 (0, 0)) (by (with_reducible repeat (first | refine blk_drewN ?_ _ | refine blk_drew ?_ | refine blk_alloc ?_ _)); exact BK358.out) hb)
                          have n1_ := Aside0.mk (blk_below (g := gb359) (o := .cells #[.int .i64 a4_0, .int .i64 a4_1, .string a4_2] 23 (0, 0)) (by (with_reducible repeat (first | refine blk_drewN ?_ _ | refine blk_drew ?_ | refine blk_alloc ?_ _)); exact BK359.out) hb)
                          have n2_ := Aside0.mk (below_step (by repeat (first | (with_reducible first | exact HB.out | apply below_alloc | apply pw_below_drewN | apply below_drew1 | refine below_set ?_ GE358.out | refine below_set ?_ GE359.out) | exact HB.out)) hb)
                          clear BK358
                          clear BK359
                          clear HB
                          have BK358 := n0_
                          have BK359 := n1_
                          have HB := n2_
                          clear n0_ n1_ n2_
                          (try clear hb)
                          (try clear hb2)
                          (try clear hk)
                          (try clear hi)
                          refine hK.out _ _ ⟨(blk_cell BK358.out 0).trans rfl, (blk_cell BK358.out 1).trans rfl, (blk_cell BK358.out 2).trans rfl, (blk_cell BK359.out 0).trans rfl, (blk_cell BK359.out 1).trans rfl, (blk_cell BK359.out 2).trans rfl⟩ (fun hHeld => ?_)
                          clear hK K
                          refine norm_ (a' := ?_) ?_ ?_
                          rotate_left
                          · show Act.put _ (some 64) _ = _
                            simp only [Act.put, List.setIfInBounds_toArray, List.set_cons_zero, List.set_cons_succ, i64_w, i32_w]
                            rfl
                          refine one_ (i := 11) (N := some 70) #[true, true, true, true, true, true, true, true, true, true, true, true, false, false] rfl rfl (one_of HT_.out (by kernel_rfl)) (by decide) (fun K hK => ?_)
                          refine goes_ Tryd.func25 (by kernel_rfl) rfl #[.string a0, .agg #[.int .i64 a3_0, .int .i64 a3_1, .string a3_2], .string a2, .string a1, .agg #[.int .i64 a4_0, .int .i64 a4_1, .string a4_2]] (by rfl) rfl rfl (by (try simp only [List.map_toArray, List.map_cons, List.map_nil]); first | done | rfl | (simp only [List.length_drop, List.length_take]; rfl)) ?_
                          with_reducible refine (cell_OfRef.calls kj7 a0 a3_0 a3_1 a3_2 a2 a1 a4_0 a4_1 a4_2 t367 _ ?side1 A27.out).mono ?_
                          (case side1 => first | (with_reducible exact HT.out) | (with_reducible exact Tabs.drewN HT.out _) | exact Tabs.below HT.out (by repeat (first | (with_reducible first | exact HB.out | apply below_alloc | apply pw_below_drewN | apply below_drew1 | refine below_set ?_ GE358.out | refine below_set ?_ GE359.out) | exact HB.out)))
                          rintro e w85 ⟨rfl, hb⟩
                          refine ⟨_, rfl, ?_⟩
                          have n0_ := Aside0.mk (blk_below (g := gb358) (o := .cells #[.int .i64 a3_0, .int .i64 a3_1, .string a3_2] 23 (0, 0)) (by (with_reducible repeat (first | refine blk_drewN ?_ _ | refine blk_drew ?_ | refine blk_alloc ?_ _)); exact BK358.out) hb)
                          have n1_ := Aside0.mk (blk_below (g := gb359) (o := .cells #[.int .i64 a4_0, .int .i64 a4_1, .string a4_2] 23 (0, 0)) (by (with_reducible repeat (first | refine blk_drewN ?_ _ | refine blk_drew ?_ | refine blk_alloc ?_ _)); exact BK359.out) hb)
                          have n2_ := Aside0.mk (below_step (by repeat (first | (with_reducible first | exact HB.out | apply below_alloc | apply pw_below_drewN | apply below_drew1 | refine below_set ?_ GE358.out | refine below_set ?_ GE359.out) | exact HB.out)) hb)
                          clear BK358
                          clear BK359
                          clear HB
                          have BK358 := n0_
                          have BK359 := n1_
                          have HB := n2_
                          clear n0_ n1_ n2_
                          (try clear hb)
                          (try clear hb2)
                          (try clear hk)
                          (try clear hi)
                          refine hK.out _ _ ⟨(blk_cell BK358.out 0).trans rfl, (blk_cell BK358.out 1).trans rfl, (blk_cell BK358.out 2).trans rfl, (blk_cell BK359.out 0).trans rfl, (blk_cell BK359.out 1).trans rfl, (blk_cell BK359.out 2).trans rfl⟩ (fun hHeld => ?_)
                          clear hK K
                          refine norm_ (a' := ?_) ?_ ?_
                          rotate_left
                          · show Act.put _ (some 70) _ = _
                            simp only [Act.put, List.setIfInBounds_toArray, List.set_cons_zero, List.set_cons_succ, i64_w, i32_w]
                            rfl
                          refine pure_ (i := 12) (N := some 15) (v := ?_) (a' := ?_) #[true, true, true, true, true, true, true, true, true, true, true, true, true, false] rfl rfl (any_of HT_.out (by kernel_rfl)) (fun _ _ _ h => h) (Or.inl ⟨by rfl, ?_⟩) ?_ ?_
                          rotate_left
                          · intro w'
                            go_simp
                            with_reducible rfl
                          rotate_left
                          · simp only [Act.put, List.setIfInBounds_toArray, List.set_cons_zero, List.set_cons_succ, i64_w, i32_w]
                            rfl
                          refine pure_ (i := 13) (N := some 16) (v := ?_) (a' := ?_) #[true, true, true, true, true, true, true, true, true, true, true, true, true, true] rfl rfl (any_of HT_.out (by kernel_rfl)) (fun _ _ _ h => h) (Or.inl ⟨by rfl, ?_⟩) ?_ ?_
                          rotate_left
                          · intro w'
                            go_simp
                            with_reducible rfl
                          rotate_left
                          · simp only [Act.put, List.setIfInBounds_toArray, List.set_cons_zero, List.set_cons_succ, i64_w, i32_w]
                            rfl
                          refine done_ (done_of HT_.out (by kernel_rfl)) ?_
                          have hnb86 := NB358_359.out
                          have hnc86 := NB359_358.out
                          have hcz87_0 : w85.cell? ⟨gb358, 0, none⟩ = some (.int .i64 a3_0) := (blk_cell BK358.out 0).trans rfl
                          have hcz87_1 : w85.cell? ⟨gb358, 1, none⟩ = some (.int .i64 a3_1) := (blk_cell BK358.out 1).trans rfl
                          have hcz87_2 : w85.cell? ⟨gb358, 2, none⟩ = some (.string a3_2) := (blk_cell BK358.out 2).trans rfl
                          have hfz87_0 := blk_frozen BK358.out 0
                          have hfz87_1 := blk_frozen BK358.out 1
                          have hfz87_2 := blk_frozen BK358.out 2
                          have hcz88_0 : w85.cell? ⟨gb359, 0, none⟩ = some (.int .i64 a4_0) := (blk_cell BK359.out 0).trans rfl
                          have hcz88_1 : w85.cell? ⟨gb359, 1, none⟩ = some (.int .i64 a4_1) := (blk_cell BK359.out 1).trans rfl
                          have hcz88_2 : w85.cell? ⟨gb359, 2, none⟩ = some (.string a4_2) := (blk_cell BK359.out 2).trans rfl
                          have hfz88_0 := blk_frozen BK359.out 0
                          have hfz88_1 := blk_frozen BK359.out 1
                          have hfz88_2 := blk_frozen BK359.out 2
                          try go_wp2_with (first | (go_at_call 26; (with_reducible refine (cell_OfTable.calls kj7 a0 t370 _ ?side1 A76.out).mono ?_); (case side1 => first | (with_reducible exact HT.out) | (with_reducible exact Tabs.drewN HT.out _) | exact Tabs.below HT.out (by repeat (first | (with_reducible first | exact HB.out | apply below_alloc | apply pw_below_drewN | apply below_drew1 | refine below_set ?_ GE358.out | refine below_set ?_ GE359.out) | exact HB.out))); rintro e w89 ⟨rfl, hb⟩; have n0_ := Aside0.mk (blk_below (g := gb358) (o := .cells #[.int .i64 a3_0, .int .i64 a3_1, .string a3_2] 23 (0, 0)) (by (with_reducible repeat (first | refine blk_drewN ?_ _ | refine blk_drew ?_ | refine blk_alloc ?_ _)); exact BK358.out) hb); have n1_ := Aside0.mk (blk_below (g := gb359) (o := .cells #[.int .i64 a4_0, .int .i64 a4_1, .string a4_2] 23 (0, 0)) (by (with_reducible repeat (first | refine blk_drewN ?_ _ | refine blk_drew ?_ | refine blk_alloc ?_ _)); exact BK359.out) hb); have n2_ := Aside0.mk (below_step (by repeat (first | (with_reducible first | exact HB.out | apply below_alloc | apply pw_below_drewN | apply below_drew1 | refine below_set ?_ GE358.out | refine below_set ?_ GE359.out) | exact HB.out)) hb); clear BK358; clear BK359; clear HB; have BK358 := n0_; have BK359 := n1_; have HB := n2_; clear n0_ n1_ n2_; (try clear hb); (try clear hb2); (try clear hk); (try clear hi)))
                          go_ret
                          exact ⟨by first | rfl | (simp [errW_none, errW_some] <;> rfl) | (simp [*, errW_none, errW_some] <;> rfl), by repeat (first | (with_reducible first | exact HB.out | apply below_alloc | apply pw_below_drewN | apply below_drew1 | refine below_set ?_ GE358.out | refine below_set ?_ GE359.out) | exact HB.out)⟩
                  · rw [if_neg c72] at H
                    have c72b0 : ((t366.toList == t367.toList) == (a1.toList == a2.toList)) = false := by simpa using c72
                    (try (have c72bz := c72b0; simp only [c70b0, beq_true, beq_false, Bool.not_eq_true', Bool.not_eq_false'] at c72bz))
                    (try (have c72b1 : decide ((t366.toList == t367.toList) = (a1.toList == a2.toList)) = false := by simpa using c72))
                    (try (have c72b2 : ((t366.toList == t367.toList) == (a1.toList == a2.toList)) = false := by simpa using c72))
                    (try (have c72b3 : ¬ ((t366.toList == t367.toList) = (a1.toList == a2.toList)) := by simpa using c72))
                    clear c72
                    obtain rfl := Option.some.inj H
                    cases hr_.out
                · rw [if_neg c71] at H
                  have c71b0 : ((t364.toList == t365.toList) == (a3_0 == a4_0 && (a3_1 == a4_1 && (a3_2.toList == a4_2.toList)))) = false := by simpa using c71
                  (try (have c71bz := c71b0; simp only [beq_true, beq_false, Bool.not_eq_true', Bool.not_eq_false'] at c71bz))
                  (try (have c71b1 : decide ((t364.toList == t365.toList) = (a3_0 == a4_0 && (a3_1 == a4_1 && (a3_2.toList == a4_2.toList)))) = false := by simpa using c71))
                  (try (have c71b2 : ((t364.toList == t365.toList) == (a3_0 == a4_0 && (a3_1 == a4_1 && (a3_2.toList == a4_2.toList)))) = false := by simpa using c71))
                  (try (have c71b3 : ¬ ((t364.toList == t365.toList) = (a3_0 == a4_0 && (a3_1 == a4_1 && (a3_2.toList == a4_2.toList)))) := by simpa using c71))
                  clear c71
                  obtain rfl := Option.some.inj H
                  cases hr_.out
              · rw [if_neg c70] at H
                have c70b0 : (a1.toList == a2.toList) = false := beq_eq_false_iff_ne.mpr c70
                have c70b1 : (a1.toList != a2.toList) = true := bne_iff_ne.mpr c70
                by_cases c90 : ((t364.toList == t365.toList) == false) = true
                · rw [if_pos c90] at H
                  have c90b0 : ((t364.toList == t365.toList) == false) = true := c90
                  (try (have c90bz := c90b0; simp only [beq_true, beq_false, Bool.not_eq_true', Bool.not_eq_false'] at c90bz))
                  (try (have c90b1 : decide ((t364.toList == t365.toList) = false) = true := by simpa using c90))
                  (try (have c90b2 : ((t364.toList == t365.toList) == false) = true := by simpa using c90))
                  clear c90
                  by_cases c91 : ((t366.toList == t367.toList) == (a1.toList == a2.toList)) = true
                  · rw [if_pos c91] at H
                    have c91b0 : ((t366.toList == t367.toList) == (a1.toList == a2.toList)) = true := c91
                    (try (have c91bz := c91b0; simp only [c70b0, beq_true, beq_false, Bool.not_eq_true', Bool.not_eq_false'] at c91bz))
                    (try (have c91b1 : decide ((t366.toList == t367.toList) = (a1.toList == a2.toList)) = true := by simpa using c91))
                    (try (have c91b2 : ((t366.toList == t367.toList) == (a1.toList == a2.toList)) = true := by simpa using c91))
                    clear c91
                    by_cases c92 : t362.toList = t364.toList
                    · rw [if_pos c92] at H
                      have c92b0 : (t362.toList == t364.toList) = true := beq_iff_eq.mpr c92
                      have c92b1 : (t362.toList != t364.toList) = false := bne_eq_false_iff_eq.mpr c92
                      clear c92
                      obtain rfl := Option.some.inj H
                      cases hr_.out
                    · rw [if_neg c92] at H
                      have c92b0 : (t362.toList == t364.toList) = false := beq_eq_false_iff_ne.mpr c92
                      have c92b1 : (t362.toList != t364.toList) = true := bne_iff_ne.mpr c92
                      by_cases c93 : t364.toList = t366.toList
                      · rw [if_pos c93] at H
                        have c93b0 : (t364.toList == t366.toList) = true := beq_iff_eq.mpr c93
                        have c93b1 : (t364.toList != t366.toList) = false := bne_eq_false_iff_eq.mpr c93
                        clear c93
                        obtain rfl := Option.some.inj H
                        cases hr_.out
                      · rw [if_neg c93] at H
                        have c93b0 : (t364.toList == t366.toList) = false := beq_eq_false_iff_ne.mpr c93
                        have c93b1 : (t364.toList != t366.toList) = true := bne_iff_ne.mpr c93
                        by_cases c94 : t362.toList = t366.toList
                        · rw [if_pos c94] at H
                          have c94b0 : (t362.toList == t366.toList) = true := beq_iff_eq.mpr c94
                          have c94b1 : (t362.toList != t366.toList) = false := bne_eq_false_iff_eq.mpr c94
                          clear c94
                          obtain rfl := Option.some.inj H
                          cases hr_.out
                        · rw [if_neg c94] at H
                          have c94b0 : (t362.toList == t366.toList) = false := beq_eq_false_iff_ne.mpr c94
                          have c94b1 : (t362.toList != t366.toList) = true := bne_iff_ne.mpr c94
                          replace H := Option.bind_eq_some_iff.mp H
                          obtain ⟨t371, A950, H⟩ := H
                          replace H : (some (t371.toList != t362.toList)) = some r := H
                          have A95 := Aside0.mk A950
                          clear A950
                          obtain rfl := Option.some.inj H
                          try go_wp2
                          have n0_ := Aside0.mk (blk_drew BK358.out)
                          have n1_ := Aside0.mk (blk_drew BK359.out)
                          have n2_ := Aside0.mk (below_drew1 HB.out)
                          clear BK358
                          clear BK359
                          clear HB
                          have BK358 := n0_
                          have BK359 := n1_
                          have HB := n2_
                          clear n0_ n1_ n2_
                          refine start_ (n := 8) (S := fun w' => w'.cell? ⟨gb358, 0, none⟩ = some (.int .i64 a3_0) ∧ w'.cell? ⟨gb358, 1, none⟩ = some (.int .i64 a3_1) ∧ w'.cell? ⟨gb358, 2, none⟩ = some (.string a3_2) ∧ w'.cell? ⟨gb359, 0, none⟩ = some (.int .i64 a4_0) ∧ w'.cell? ⟨gb359, 1, none⟩ = some (.int .i64 a4_1) ∧ w'.cell? ⟨gb359, 2, none⟩ = some (.string a4_2)) (ds := []) #[false, false, false, false, false, false, false, false] (by kernel_rfl) rfl rfl ⟨(blk_cell BK358.out 0).trans rfl, (blk_cell BK358.out 1).trans rfl, (blk_cell BK358.out 2).trans rfl, (blk_cell BK359.out 0).trans rfl, (blk_cell BK359.out 1).trans rfl, (blk_cell BK359.out 2).trans rfl⟩ (fun hHeld => ?_); refine with_tabW mortmainlaw07_CellOne.tab5 mortmainlaw07_CellOne.bits5 (fun HT_ HW_ => ?_)
                          generalize wc.drew = w96 at BK358 BK359 HB hHeld ⊢
                          refine pure_ (i := 0) (N := some 45) (v := ?_) (a' := ?_) #[true, false, false, false, false, false, false, false] rfl rfl (any_of HT_.out (by kernel_rfl)) (fun _ _ _ h => h) (Or.inl ⟨by rfl, ?_⟩) ?_ ?_
                          rotate_left
                          · intro w'
                            go_simp
                            with_reducible rfl
                          rotate_left
                          · simp only [Act.put, List.setIfInBounds_toArray, List.set_cons_zero, List.set_cons_succ, i64_w, i32_w]
                            rfl
                          refine pure_ (i := 3) (N := some 48) (v := ?_) (a' := ?_) #[true, false, false, true, false, false, false, false] rfl rfl (any_of HT_.out (by kernel_rfl)) (fun _ _ _ h => h) (Or.inl ⟨by rfl, ?_⟩) ?_ ?_
                          rotate_left
                          · intro w'
                            go_simp
                            with_reducible rfl
                          rotate_left
                          · simp only [Act.put, List.setIfInBounds_toArray, List.set_cons_zero, List.set_cons_succ, i64_w, i32_w]
                            rfl
                          refine take_ (i := 1) (N := some 46) (v := ?_) (a' := ?_) #[true, true, false, true, false, false, false, false] rfl rfl (take_ofW HT_.out HW_.out (by kernel_rfl)) (fun _ _ _ h => h) (Or.inl ⟨by rfl, ?_⟩) hHeld ?_ ?_
                          rotate_left
                          · rintro w' ⟨s0, s1, s2, s3, s4, s5⟩
                            go_simp
                            with_reducible rfl
                          rotate_left
                          · simp only [Act.put, List.setIfInBounds_toArray, List.set_cons_zero, List.set_cons_succ, i64_w, i32_w]
                            rfl
                          refine take_ (i := 4) (N := some 49) (v := ?_) (a' := ?_) #[true, true, false, true, true, false, false, false] rfl rfl (take_ofW HT_.out HW_.out (by kernel_rfl)) (fun _ _ _ h => h) (Or.inl ⟨by rfl, ?_⟩) hHeld ?_ ?_
                          rotate_left
                          · rintro w' ⟨s0, s1, s2, s3, s4, s5⟩
                            go_simp
                            with_reducible rfl
                          rotate_left
                          · simp only [Act.put, List.setIfInBounds_toArray, List.set_cons_zero, List.set_cons_succ, i64_w, i32_w]
                            rfl
                          refine one_ (i := 2) (N := some 47) #[true, true, true, true, true, false, false, false] rfl rfl (one_of HT_.out (by kernel_rfl)) (by decide) (fun K hK => ?_)
                          refine goes_ Tryd.func23 (by kernel_rfl) rfl #[.string a0, .agg #[.int .i64 a3_0, .int .i64 a3_1, .string a3_2]] (by rfl) rfl rfl (by (try simp only [List.map_toArray, List.map_cons, List.map_nil]); first | done | rfl | (simp only [List.length_drop, List.length_take]; rfl)) ?_
                          with_reducible refine (cell_OfRow.calls kj7 a0 a3_0 a3_1 a3_2 t362 _ ?side1 A22.out).mono ?_
                          (case side1 => first | (with_reducible exact HT.out) | (with_reducible exact Tabs.drewN HT.out _) | exact Tabs.below HT.out (by repeat (first | (with_reducible first | exact HB.out | apply below_alloc | apply pw_below_drewN | apply below_drew1 | refine below_set ?_ GE358.out | refine below_set ?_ GE359.out) | exact HB.out)))
                          rintro e w97 ⟨rfl, hb⟩
                          refine ⟨_, rfl, ?_⟩
                          have n0_ := Aside0.mk (blk_below (g := gb358) (o := .cells #[.int .i64 a3_0, .int .i64 a3_1, .string a3_2] 23 (0, 0)) (by (with_reducible repeat (first | refine blk_drewN ?_ _ | refine blk_drew ?_ | refine blk_alloc ?_ _)); exact BK358.out) hb)
                          have n1_ := Aside0.mk (blk_below (g := gb359) (o := .cells #[.int .i64 a4_0, .int .i64 a4_1, .string a4_2] 23 (0, 0)) (by (with_reducible repeat (first | refine blk_drewN ?_ _ | refine blk_drew ?_ | refine blk_alloc ?_ _)); exact BK359.out) hb)
                          have n2_ := Aside0.mk (below_step (by repeat (first | (with_reducible first | exact HB.out | apply below_alloc | apply pw_below_drewN | apply below_drew1 | refine below_set ?_ GE358.out | refine below_set ?_ GE359.out) | exact HB.out)) hb)
                          clear BK358
                          clear BK359
                          clear HB
                          have BK358 := n0_
                          have BK359 := n1_
                          have HB := n2_
                          clear n0_ n1_ n2_
                          (try clear hb)
                          (try clear hb2)
                          (try clear hk)
                          (try clear hi)
                          refine hK.out _ _ ⟨(blk_cell BK358.out 0).trans rfl, (blk_cell BK358.out 1).trans rfl, (blk_cell BK358.out 2).trans rfl, (blk_cell BK359.out 0).trans rfl, (blk_cell BK359.out 1).trans rfl, (blk_cell BK359.out 2).trans rfl⟩ (fun hHeld => ?_)
                          clear hK K
                          refine norm_ (a' := ?_) ?_ ?_
                          rotate_left
                          · show Act.put _ (some 47) _ = _
                            simp only [Act.put, List.setIfInBounds_toArray, List.set_cons_zero, List.set_cons_succ, i64_w, i32_w]
                            rfl
                          refine one_ (i := 5) (N := some 50) #[true, true, true, true, true, true, false, false] rfl rfl (one_of HT_.out (by kernel_rfl)) (by decide) (fun K hK => ?_)
                          refine goes_ Tryd.func23 (by kernel_rfl) rfl #[.string a1, .agg #[.int .i64 a4_0, .int .i64 a4_1, .string a4_2]] (by rfl) rfl rfl (by (try simp only [List.map_toArray, List.map_cons, List.map_nil]); first | done | rfl | (simp only [List.length_drop, List.length_take]; rfl)) ?_
                          with_reducible refine (cell_OfRow.calls kj7 a1 a4_0 a4_1 a4_2 t363 _ ?side1 A23.out).mono ?_
                          (case side1 => first | (with_reducible exact HT.out) | (with_reducible exact Tabs.drewN HT.out _) | exact Tabs.below HT.out (by repeat (first | (with_reducible first | exact HB.out | apply below_alloc | apply pw_below_drewN | apply below_drew1 | refine below_set ?_ GE358.out | refine below_set ?_ GE359.out) | exact HB.out)))
                          rintro e w98 ⟨rfl, hb⟩
                          refine ⟨_, rfl, ?_⟩
                          have n0_ := Aside0.mk (blk_below (g := gb358) (o := .cells #[.int .i64 a3_0, .int .i64 a3_1, .string a3_2] 23 (0, 0)) (by (with_reducible repeat (first | refine blk_drewN ?_ _ | refine blk_drew ?_ | refine blk_alloc ?_ _)); exact BK358.out) hb)
                          have n1_ := Aside0.mk (blk_below (g := gb359) (o := .cells #[.int .i64 a4_0, .int .i64 a4_1, .string a4_2] 23 (0, 0)) (by (with_reducible repeat (first | refine blk_drewN ?_ _ | refine blk_drew ?_ | refine blk_alloc ?_ _)); exact BK359.out) hb)
                          have n2_ := Aside0.mk (below_step (by repeat (first | (with_reducible first | exact HB.out | apply below_alloc | apply pw_below_drewN | apply below_drew1 | refine below_set ?_ GE358.out | refine below_set ?_ GE359.out) | exact HB.out)) hb)
                          clear BK358
                          clear BK359
                          clear HB
                          have BK358 := n0_
                          have BK359 := n1_
                          have HB := n2_
                          clear n0_ n1_ n2_
                          (try clear hb)
                          (try clear hb2)
                          (try clear hk)
                          (try clear hi)
                          refine hK.out _ _ ⟨(blk_cell BK358.out 0).trans rfl, (blk_cell BK358.out 1).trans rfl, (blk_cell BK358.out 2).trans rfl, (blk_cell BK359.out 0).trans rfl, (blk_cell BK359.out 1).trans rfl, (blk_cell BK359.out 2).trans rfl⟩ (fun hHeld => ?_)
                          clear hK K
                          refine norm_ (a' := ?_) ?_ ?_
                          rotate_left
                          · show Act.put _ (some 50) _ = _
                            simp only [Act.put, List.setIfInBounds_toArray, List.set_cons_zero, List.set_cons_succ, i64_w, i32_w]
                            rfl
                          refine pure_ (i := 6) (N := some 11) (v := ?_) (a' := ?_) #[true, true, true, true, true, true, true, false] rfl rfl (any_of HT_.out (by kernel_rfl)) (fun _ _ _ h => h) (Or.inl ⟨by rfl, ?_⟩) ?_ ?_
                          rotate_left
                          · intro w'
                            go_simp
                            with_reducible rfl
                          rotate_left
                          · simp only [Act.put, List.setIfInBounds_toArray, List.set_cons_zero, List.set_cons_succ, i64_w, i32_w]
                            rfl
                          refine pure_ (i := 7) (N := some 12) (v := ?_) (a' := ?_) #[true, true, true, true, true, true, true, true] rfl rfl (any_of HT_.out (by kernel_rfl)) (fun _ _ _ h => h) (Or.inl ⟨by rfl, ?_⟩) ?_ ?_
                          rotate_left
                          · intro w'
                            go_simp
                            with_reducible rfl
                          rotate_left
                          · simp only [Act.put, List.setIfInBounds_toArray, List.set_cons_zero, List.set_cons_succ, i64_w, i32_w]
                            rfl
                          refine done_ (done_of HT_.out (by kernel_rfl)) ?_
                          try go_wp2
                          have n0_ := Aside0.mk (blk_drew BK358.out)
                          have n1_ := Aside0.mk (blk_drew BK359.out)
                          have n2_ := Aside0.mk (below_drew1 HB.out)
                          clear BK358
                          clear BK359
                          clear HB
                          have BK358 := n0_
                          have BK359 := n1_
                          have HB := n2_
                          clear n0_ n1_ n2_
                          refine start_ (n := 10) (S := fun w' => w'.cell? ⟨gb358, 0, none⟩ = some (.int .i64 a3_0) ∧ w'.cell? ⟨gb358, 1, none⟩ = some (.int .i64 a3_1) ∧ w'.cell? ⟨gb358, 2, none⟩ = some (.string a3_2) ∧ w'.cell? ⟨gb359, 0, none⟩ = some (.int .i64 a4_0) ∧ w'.cell? ⟨gb359, 1, none⟩ = some (.int .i64 a4_1) ∧ w'.cell? ⟨gb359, 2, none⟩ = some (.string a4_2)) (ds := []) #[false, false, false, false, false, false, false, false, false, false] (by kernel_rfl) rfl rfl ⟨(blk_cell BK358.out 0).trans rfl, (blk_cell BK358.out 1).trans rfl, (blk_cell BK358.out 2).trans rfl, (blk_cell BK359.out 0).trans rfl, (blk_cell BK359.out 1).trans rfl, (blk_cell BK359.out 2).trans rfl⟩ (fun hHeld => ?_); refine with_tabW mortmainlaw07_CellOne.tab6 mortmainlaw07_CellOne.bits6 (fun HT_ HW_ => ?_)
                          generalize w98.drew = w99 at BK358 BK359 HB hHeld ⊢
                          refine pure_ (i := 0) (N := some 51) (v := ?_) (a' := ?_) #[true, false, false, false, false, false, false, false, false, false] rfl rfl (any_of HT_.out (by kernel_rfl)) (fun _ _ _ h => h) (Or.inl ⟨by rfl, ?_⟩) ?_ ?_
                          rotate_left
                          · intro w'
                            go_simp
                            with_reducible rfl
                          rotate_left
                          · simp only [Act.put, List.setIfInBounds_toArray, List.set_cons_zero, List.set_cons_succ, i64_w, i32_w]
                            rfl
                          refine pure_ (i := 1) (N := some 52) (v := ?_) (a' := ?_) #[true, true, false, false, false, false, false, false, false, false] rfl rfl (any_of HT_.out (by kernel_rfl)) (fun _ _ _ h => h) (Or.inl ⟨by rfl, ?_⟩) ?_ ?_
                          rotate_left
                          · intro w'
                            go_simp
                            with_reducible rfl
                          rotate_left
                          · simp only [Act.put, List.setIfInBounds_toArray, List.set_cons_zero, List.set_cons_succ, i64_w, i32_w]
                            rfl
                          refine pure_ (i := 4) (N := some 55) (v := ?_) (a' := ?_) #[true, true, false, false, true, false, false, false, false, false] rfl rfl (any_of HT_.out (by kernel_rfl)) (fun _ _ _ h => h) (Or.inl ⟨by rfl, ?_⟩) ?_ ?_
                          rotate_left
                          · intro w'
                            go_simp
                            with_reducible rfl
                          rotate_left
                          · simp only [Act.put, List.setIfInBounds_toArray, List.set_cons_zero, List.set_cons_succ, i64_w, i32_w]
                            rfl
                          refine pure_ (i := 5) (N := some 56) (v := ?_) (a' := ?_) #[true, true, false, false, true, true, false, false, false, false] rfl rfl (any_of HT_.out (by kernel_rfl)) (fun _ _ _ h => h) (Or.inl ⟨by rfl, ?_⟩) ?_ ?_
                          rotate_left
                          · intro w'
                            go_simp
                            with_reducible rfl
                          rotate_left
                          · simp only [Act.put, List.setIfInBounds_toArray, List.set_cons_zero, List.set_cons_succ, i64_w, i32_w]
                            rfl
                          refine take_ (i := 2) (N := some 53) (v := ?_) (a' := ?_) #[true, true, true, false, true, true, false, false, false, false] rfl rfl (take_ofW HT_.out HW_.out (by kernel_rfl)) (fun _ _ _ h => h) (Or.inl ⟨by rfl, ?_⟩) hHeld ?_ ?_
                          rotate_left
                          · rintro w' ⟨s0, s1, s2, s3, s4, s5⟩
                            go_simp
                            with_reducible rfl
                          rotate_left
                          · simp only [Act.put, List.setIfInBounds_toArray, List.set_cons_zero, List.set_cons_succ, i64_w, i32_w]
                            rfl
                          refine take_ (i := 6) (N := some 57) (v := ?_) (a' := ?_) #[true, true, true, false, true, true, true, false, false, false] rfl rfl (take_ofW HT_.out HW_.out (by kernel_rfl)) (fun _ _ _ h => h) (Or.inl ⟨by rfl, ?_⟩) hHeld ?_ ?_
                          rotate_left
                          · rintro w' ⟨s0, s1, s2, s3, s4, s5⟩
                            go_simp
                            with_reducible rfl
                          rotate_left
                          · simp only [Act.put, List.setIfInBounds_toArray, List.set_cons_zero, List.set_cons_succ, i64_w, i32_w]
                            rfl
                          refine one_ (i := 3) (N := some 54) #[true, true, true, true, true, true, true, false, false, false] rfl rfl (one_of HT_.out (by kernel_rfl)) (by decide) (fun K hK => ?_)
                          refine goes_ Tryd.func24 (by kernel_rfl) rfl #[.string a0, .string a1, .agg #[.int .i64 a3_0, .int .i64 a3_1, .string a3_2]] (by rfl) rfl rfl (by (try simp only [List.map_toArray, List.map_cons, List.map_nil]); first | done | rfl | (simp only [List.length_drop, List.length_take]; rfl)) ?_
                          with_reducible refine (cell_OfUniq.calls kj7 a0 a1 a3_0 a3_1 a3_2 t364 _ ?side1 A24.out).mono ?_
                          (case side1 => first | (with_reducible exact HT.out) | (with_reducible exact Tabs.drewN HT.out _) | exact Tabs.below HT.out (by repeat (first | (with_reducible first | exact HB.out | apply below_alloc | apply pw_below_drewN | apply below_drew1 | refine below_set ?_ GE358.out | refine below_set ?_ GE359.out) | exact HB.out)))
                          rintro e w100 ⟨rfl, hb⟩
                          refine ⟨_, rfl, ?_⟩
                          have n0_ := Aside0.mk (blk_below (g := gb358) (o := .cells #[.int .i64 a3_0, .int .i64 a3_1, .string a3_2] 23 (0, 0)) (by (with_reducible repeat (first | refine blk_drewN ?_ _ | refine blk_drew ?_ | refine blk_alloc ?_ _)); exact BK358.out) hb)
                          have n1_ := Aside0.mk (blk_below (g := gb359) (o := .cells #[.int .i64 a4_0, .int .i64 a4_1, .string a4_2] 23 (0, 0)) (by (with_reducible repeat (first | refine blk_drewN ?_ _ | refine blk_drew ?_ | refine blk_alloc ?_ _)); exact BK359.out) hb)
                          have n2_ := Aside0.mk (below_step (by repeat (first | (with_reducible first | exact HB.out | apply below_alloc | apply pw_below_drewN | apply below_drew1 | refine below_set ?_ GE358.out | refine below_set ?_ GE359.out) | exact HB.out)) hb)
                          clear BK358
                          clear BK359
                          clear HB
                          have BK358 := n0_
                          have BK359 := n1_
                          have HB := n2_
                          clear n0_ n1_ n2_
                          (try clear hb)
                          (try clear hb2)
                          (try clear hk)
                          (try clear hi)
                          refine hK.out _ _ ⟨(blk_cell BK358.out 0).trans rfl, (blk_cell BK358.out 1).trans rfl, (blk_cell BK358.out 2).trans rfl, (blk_cell BK359.out 0).trans rfl, (blk_cell BK359.out 1).trans rfl, (blk_cell BK359.out 2).trans rfl⟩ (fun hHeld => ?_)
                          clear hK K
                          refine norm_ (a' := ?_) ?_ ?_
                          rotate_left
                          · show Act.put _ (some 54) _ = _
                            simp only [Act.put, List.setIfInBounds_toArray, List.set_cons_zero, List.set_cons_succ, i64_w, i32_w]
                            rfl
                          refine one_ (i := 7) (N := some 58) #[true, true, true, true, true, true, true, true, false, false] rfl rfl (one_of HT_.out (by kernel_rfl)) (by decide) (fun K hK => ?_)
                          refine goes_ Tryd.func24 (by kernel_rfl) rfl #[.string a0, .string a2, .agg #[.int .i64 a4_0, .int .i64 a4_1, .string a4_2]] (by rfl) rfl rfl (by (try simp only [List.map_toArray, List.map_cons, List.map_nil]); first | done | rfl | (simp only [List.length_drop, List.length_take]; rfl)) ?_
                          with_reducible refine (cell_OfUniq.calls kj7 a0 a2 a4_0 a4_1 a4_2 t365 _ ?side1 A25.out).mono ?_
                          (case side1 => first | (with_reducible exact HT.out) | (with_reducible exact Tabs.drewN HT.out _) | exact Tabs.below HT.out (by repeat (first | (with_reducible first | exact HB.out | apply below_alloc | apply pw_below_drewN | apply below_drew1 | refine below_set ?_ GE358.out | refine below_set ?_ GE359.out) | exact HB.out)))
                          rintro e w101 ⟨rfl, hb⟩
                          refine ⟨_, rfl, ?_⟩
                          have n0_ := Aside0.mk (blk_below (g := gb358) (o := .cells #[.int .i64 a3_0, .int .i64 a3_1, .string a3_2] 23 (0, 0)) (by (with_reducible repeat (first | refine blk_drewN ?_ _ | refine blk_drew ?_ | refine blk_alloc ?_ _)); exact BK358.out) hb)
                          have n1_ := Aside0.mk (blk_below (g := gb359) (o := .cells #[.int .i64 a4_0, .int .i64 a4_1, .string a4_2] 23 (0, 0)) (by (with_reducible repeat (first | refine blk_drewN ?_ _ | refine blk_drew ?_ | refine blk_alloc ?_ _)); exact BK359.out) hb)
                          have n2_ := Aside0.mk (below_step (by repeat (first | (with_reducible first | exact HB.out | apply below_alloc | apply pw_below_drewN | apply below_drew1 | refine below_set ?_ GE358.out | refine below_set ?_ GE359.out) | exact HB.out)) hb)
                          clear BK358
                          clear BK359
                          clear HB
                          have BK358 := n0_
                          have BK359 := n1_
                          have HB := n2_
                          clear n0_ n1_ n2_
                          (try clear hb)
                          (try clear hb2)
                          (try clear hk)
                          (try clear hi)
                          refine hK.out _ _ ⟨(blk_cell BK358.out 0).trans rfl, (blk_cell BK358.out 1).trans rfl, (blk_cell BK358.out 2).trans rfl, (blk_cell BK359.out 0).trans rfl, (blk_cell BK359.out 1).trans rfl, (blk_cell BK359.out 2).trans rfl⟩ (fun hHeld => ?_)
                          clear hK K
                          refine norm_ (a' := ?_) ?_ ?_
                          rotate_left
                          · show Act.put _ (some 58) _ = _
                            simp only [Act.put, List.setIfInBounds_toArray, List.set_cons_zero, List.set_cons_succ, i64_w, i32_w]
                            rfl
                          refine pure_ (i := 8) (N := some 13) (v := ?_) (a' := ?_) #[true, true, true, true, true, true, true, true, true, false] rfl rfl (any_of HT_.out (by kernel_rfl)) (fun _ _ _ h => h) (Or.inl ⟨by rfl, ?_⟩) ?_ ?_
                          rotate_left
                          · intro w'
                            go_simp
                            with_reducible rfl
                          rotate_left
                          · simp only [Act.put, List.setIfInBounds_toArray, List.set_cons_zero, List.set_cons_succ, i64_w, i32_w]
                            rfl
                          refine pure_ (i := 9) (N := some 14) (v := ?_) (a' := ?_) #[true, true, true, true, true, true, true, true, true, true] rfl rfl (any_of HT_.out (by kernel_rfl)) (fun _ _ _ h => h) (Or.inl ⟨by rfl, ?_⟩) ?_ ?_
                          rotate_left
                          · intro w'
                            go_simp
                            with_reducible rfl
                          rotate_left
                          · simp only [Act.put, List.setIfInBounds_toArray, List.set_cons_zero, List.set_cons_succ, i64_w, i32_w]
                            rfl
                          refine done_ (done_of HT_.out (by kernel_rfl)) ?_
                          try go_wp2
                          have n0_ := Aside0.mk (blk_drew BK358.out)
                          have n1_ := Aside0.mk (blk_drew BK359.out)
                          have n2_ := Aside0.mk (below_drew1 HB.out)
                          clear BK358
                          clear BK359
                          clear HB
                          have BK358 := n0_
                          have BK359 := n1_
                          have HB := n2_
                          clear n0_ n1_ n2_
                          refine start_ (n := 14) (S := fun w' => w'.cell? ⟨gb358, 0, none⟩ = some (.int .i64 a3_0) ∧ w'.cell? ⟨gb358, 1, none⟩ = some (.int .i64 a3_1) ∧ w'.cell? ⟨gb358, 2, none⟩ = some (.string a3_2) ∧ w'.cell? ⟨gb359, 0, none⟩ = some (.int .i64 a4_0) ∧ w'.cell? ⟨gb359, 1, none⟩ = some (.int .i64 a4_1) ∧ w'.cell? ⟨gb359, 2, none⟩ = some (.string a4_2)) (ds := []) #[false, false, false, false, false, false, false, false, false, false, false, false, false, false] (by kernel_rfl) rfl rfl ⟨(blk_cell BK358.out 0).trans rfl, (blk_cell BK358.out 1).trans rfl, (blk_cell BK358.out 2).trans rfl, (blk_cell BK359.out 0).trans rfl, (blk_cell BK359.out 1).trans rfl, (blk_cell BK359.out 2).trans rfl⟩ (fun hHeld => ?_); refine with_tabW mortmainlaw07_CellOne.tab7 mortmainlaw07_CellOne.bits7 (fun HT_ HW_ => ?_)
                          generalize w101.drew = w102 at BK358 BK359 HB hHeld ⊢
                          refine pure_ (i := 0) (N := some 59) (v := ?_) (a' := ?_) #[true, false, false, false, false, false, false, false, false, false, false, false, false, false] rfl rfl (any_of HT_.out (by kernel_rfl)) (fun _ _ _ h => h) (Or.inl ⟨by rfl, ?_⟩) ?_ ?_
                          rotate_left
                          · intro w'
                            go_simp
                            with_reducible rfl
                          rotate_left
                          · simp only [Act.put, List.setIfInBounds_toArray, List.set_cons_zero, List.set_cons_succ, i64_w, i32_w]
                            rfl
                          refine pure_ (i := 2) (N := some 61) (v := ?_) (a' := ?_) #[true, false, true, false, false, false, false, false, false, false, false, false, false, false] rfl rfl (any_of HT_.out (by kernel_rfl)) (fun _ _ _ h => h) (Or.inl ⟨by rfl, ?_⟩) ?_ ?_
                          rotate_left
                          · intro w'
                            go_simp
                            with_reducible rfl
                          rotate_left
                          · simp only [Act.put, List.setIfInBounds_toArray, List.set_cons_zero, List.set_cons_succ, i64_w, i32_w]
                            rfl
                          refine pure_ (i := 3) (N := some 62) (v := ?_) (a' := ?_) #[true, false, true, true, false, false, false, false, false, false, false, false, false, false] rfl rfl (any_of HT_.out (by kernel_rfl)) (fun _ _ _ h => h) (Or.inl ⟨by rfl, ?_⟩) ?_ ?_
                          rotate_left
                          · intro w'
                            go_simp
                            with_reducible rfl
                          rotate_left
                          · simp only [Act.put, List.setIfInBounds_toArray, List.set_cons_zero, List.set_cons_succ, i64_w, i32_w]
                            rfl
                          refine pure_ (i := 6) (N := some 65) (v := ?_) (a' := ?_) #[true, false, true, true, false, false, true, false, false, false, false, false, false, false] rfl rfl (any_of HT_.out (by kernel_rfl)) (fun _ _ _ h => h) (Or.inl ⟨by rfl, ?_⟩) ?_ ?_
                          rotate_left
                          · intro w'
                            go_simp
                            with_reducible rfl
                          rotate_left
                          · simp only [Act.put, List.setIfInBounds_toArray, List.set_cons_zero, List.set_cons_succ, i64_w, i32_w]
                            rfl
                          refine pure_ (i := 8) (N := some 67) (v := ?_) (a' := ?_) #[true, false, true, true, false, false, true, false, true, false, false, false, false, false] rfl rfl (any_of HT_.out (by kernel_rfl)) (fun _ _ _ h => h) (Or.inl ⟨by rfl, ?_⟩) ?_ ?_
                          rotate_left
                          · intro w'
                            go_simp
                            with_reducible rfl
                          rotate_left
                          · simp only [Act.put, List.setIfInBounds_toArray, List.set_cons_zero, List.set_cons_succ, i64_w, i32_w]
                            rfl
                          refine pure_ (i := 9) (N := some 68) (v := ?_) (a' := ?_) #[true, false, true, true, false, false, true, false, true, true, false, false, false, false] rfl rfl (any_of HT_.out (by kernel_rfl)) (fun _ _ _ h => h) (Or.inl ⟨by rfl, ?_⟩) ?_ ?_
                          rotate_left
                          · intro w'
                            go_simp
                            with_reducible rfl
                          rotate_left
                          · simp only [Act.put, List.setIfInBounds_toArray, List.set_cons_zero, List.set_cons_succ, i64_w, i32_w]
                            rfl
                          refine take_ (i := 1) (N := some 60) (v := ?_) (a' := ?_) #[true, true, true, true, false, false, true, false, true, true, false, false, false, false] rfl rfl (take_ofW HT_.out HW_.out (by kernel_rfl)) (fun _ _ _ h => h) (Or.inl ⟨by rfl, ?_⟩) hHeld ?_ ?_
                          rotate_left
                          · rintro w' ⟨s0, s1, s2, s3, s4, s5⟩
                            go_simp
                            with_reducible rfl
                          rotate_left
                          · simp only [Act.put, List.setIfInBounds_toArray, List.set_cons_zero, List.set_cons_succ, i64_w, i32_w]
                            rfl
                          refine take_ (i := 4) (N := some 63) (v := ?_) (a' := ?_) #[true, true, true, true, true, false, true, false, true, true, false, false, false, false] rfl rfl (take_ofW HT_.out HW_.out (by kernel_rfl)) (fun _ _ _ h => h) (Or.inl ⟨by rfl, ?_⟩) hHeld ?_ ?_
                          rotate_left
                          · rintro w' ⟨s0, s1, s2, s3, s4, s5⟩
                            go_simp
                            with_reducible rfl
                          rotate_left
                          · simp only [Act.put, List.setIfInBounds_toArray, List.set_cons_zero, List.set_cons_succ, i64_w, i32_w]
                            rfl
                          refine take_ (i := 7) (N := some 66) (v := ?_) (a' := ?_) #[true, true, true, true, true, false, true, true, true, true, false, false, false, false] rfl rfl (take_ofW HT_.out HW_.out (by kernel_rfl)) (fun _ _ _ h => h) (Or.inl ⟨by rfl, ?_⟩) hHeld ?_ ?_
                          rotate_left
                          · rintro w' ⟨s0, s1, s2, s3, s4, s5⟩
                            go_simp
                            with_reducible rfl
                          rotate_left
                          · simp only [Act.put, List.setIfInBounds_toArray, List.set_cons_zero, List.set_cons_succ, i64_w, i32_w]
                            rfl
                          refine take_ (i := 10) (N := some 69) (v := ?_) (a' := ?_) #[true, true, true, true, true, false, true, true, true, true, true, false, false, false] rfl rfl (take_ofW HT_.out HW_.out (by kernel_rfl)) (fun _ _ _ h => h) (Or.inl ⟨by rfl, ?_⟩) hHeld ?_ ?_
                          rotate_left
                          · rintro w' ⟨s0, s1, s2, s3, s4, s5⟩
                            go_simp
                            with_reducible rfl
                          rotate_left
                          · simp only [Act.put, List.setIfInBounds_toArray, List.set_cons_zero, List.set_cons_succ, i64_w, i32_w]
                            rfl
                          refine one_ (i := 5) (N := some 64) #[true, true, true, true, true, true, true, true, true, true, true, false, false, false] rfl rfl (one_of HT_.out (by kernel_rfl)) (by decide) (fun K hK => ?_)
                          refine goes_ Tryd.func25 (by kernel_rfl) rfl #[.string a0, .agg #[.int .i64 a3_0, .int .i64 a3_1, .string a3_2], .string a1, .string a2, .agg #[.int .i64 a4_0, .int .i64 a4_1, .string a4_2]] (by rfl) rfl rfl (by (try simp only [List.map_toArray, List.map_cons, List.map_nil]); first | done | rfl | (simp only [List.length_drop, List.length_take]; rfl)) ?_
                          with_reducible refine (cell_OfRef.calls kj7 a0 a3_0 a3_1 a3_2 a1 a2 a4_0 a4_1 a4_2 t366 _ ?side1 A26.out).mono ?_
                          (case side1 => first | (with_reducible exact HT.out) | (with_reducible exact Tabs.drewN HT.out _) | exact Tabs.below HT.out (by repeat (first | (with_reducible first | exact HB.out | apply below_alloc | apply pw_below_drewN | apply below_drew1 | refine below_set ?_ GE358.out | refine below_set ?_ GE359.out) | exact HB.out)))
                          rintro e w103 ⟨rfl, hb⟩
                          refine ⟨_, rfl, ?_⟩
                          have n0_ := Aside0.mk (blk_below (g := gb358) (o := .cells #[.int .i64 a3_0, .int .i64 a3_1, .string a3_2] 23 (0, 0)) (by (with_reducible repeat (first | refine blk_drewN ?_ _ | refine blk_drew ?_ | refine blk_alloc ?_ _)); exact BK358.out) hb)
                          have n1_ := Aside0.mk (blk_below (g := gb359) (o := .cells #[.int .i64 a4_0, .int .i64 a4_1, .string a4_2] 23 (0, 0)) (by (with_reducible repeat (first | refine blk_drewN ?_ _ | refine blk_drew ?_ | refine blk_alloc ?_ _)); exact BK359.out) hb)
                          have n2_ := Aside0.mk (below_step (by repeat (first | (with_reducible first | exact HB.out | apply below_alloc | apply pw_below_drewN | apply below_drew1 | refine below_set ?_ GE358.out | refine below_set ?_ GE359.out) | exact HB.out)) hb)
                          clear BK358
                          clear BK359
                          clear HB
                          have BK358 := n0_
                          have BK359 := n1_
                          have HB := n2_
                          clear n0_ n1_ n2_
                          (try clear hb)
                          (try clear hb2)
                          (try clear hk)
                          (try clear hi)
                          refine hK.out _ _ ⟨(blk_cell BK358.out 0).trans rfl, (blk_cell BK358.out 1).trans rfl, (blk_cell BK358.out 2).trans rfl, (blk_cell BK359.out 0).trans rfl, (blk_cell BK359.out 1).trans rfl, (blk_cell BK359.out 2).trans rfl⟩ (fun hHeld => ?_)
                          clear hK K
                          refine norm_ (a' := ?_) ?_ ?_
                          rotate_left
                          · show Act.put _ (some 64) _ = _
                            simp only [Act.put, List.setIfInBounds_toArray, List.set_cons_zero, List.set_cons_succ, i64_w, i32_w]
                            rfl
                          refine one_ (i := 11) (N := some 70) #[true, true, true, true, true, true, true, true, true, true, true, true, false, false] rfl rfl (one_of HT_.out (by kernel_rfl)) (by decide) (fun K hK => ?_)
                          refine goes_ Tryd.func25 (by kernel_rfl) rfl #[.string a0, .agg #[.int .i64 a3_0, .int .i64 a3_1, .string a3_2], .string a2, .string a1, .agg #[.int .i64 a4_0, .int .i64 a4_1, .string a4_2]] (by rfl) rfl rfl (by (try simp only [List.map_toArray, List.map_cons, List.map_nil]); first | done | rfl | (simp only [List.length_drop, List.length_take]; rfl)) ?_
                          with_reducible refine (cell_OfRef.calls kj7 a0 a3_0 a3_1 a3_2 a2 a1 a4_0 a4_1 a4_2 t367 _ ?side1 A27.out).mono ?_
                          (case side1 => first | (with_reducible exact HT.out) | (with_reducible exact Tabs.drewN HT.out _) | exact Tabs.below HT.out (by repeat (first | (with_reducible first | exact HB.out | apply below_alloc | apply pw_below_drewN | apply below_drew1 | refine below_set ?_ GE358.out | refine below_set ?_ GE359.out) | exact HB.out)))
                          rintro e w104 ⟨rfl, hb⟩
                          refine ⟨_, rfl, ?_⟩
                          have n0_ := Aside0.mk (blk_below (g := gb358) (o := .cells #[.int .i64 a3_0, .int .i64 a3_1, .string a3_2] 23 (0, 0)) (by (with_reducible repeat (first | refine blk_drewN ?_ _ | refine blk_drew ?_ | refine blk_alloc ?_ _)); exact BK358.out) hb)
                          have n1_ := Aside0.mk (blk_below (g := gb359) (o := .cells #[.int .i64 a4_0, .int .i64 a4_1, .string a4_2] 23 (0, 0)) (by (with_reducible repeat (first | refine blk_drewN ?_ _ | refine blk_drew ?_ | refine blk_alloc ?_ _)); exact BK359.out) hb)
                          have n2_ := Aside0.mk (below_step (by repeat (first | (with_reducible first | exact HB.out | apply below_alloc | apply pw_below_drewN | apply below_drew1 | refine below_set ?_ GE358.out | refine below_set ?_ GE359.out) | exact HB.out)) hb)
                          clear BK358
                          clear BK359
                          clear HB
                          have BK358 := n0_
                          have BK359 := n1_
                          have HB := n2_
                          clear n0_ n1_ n2_
                          (try clear hb)
                          (try clear hb2)
                          (try clear hk)
                          (try clear hi)
                          refine hK.out _ _ ⟨(blk_cell BK358.out 0).trans rfl, (blk_cell BK358.out 1).trans rfl, (blk_cell BK358.out 2).trans rfl, (blk_cell BK359.out 0).trans rfl, (blk_cell BK359.out 1).trans rfl, (blk_cell BK359.out 2).trans rfl⟩ (fun hHeld => ?_)
                          clear hK K
                          refine norm_ (a' := ?_) ?_ ?_
                          rotate_left
                          · show Act.put _ (some 70) _ = _
                            simp only [Act.put, List.setIfInBounds_toArray, List.set_cons_zero, List.set_cons_succ, i64_w, i32_w]
                            rfl
                          refine pure_ (i := 12) (N := some 15) (v := ?_) (a' := ?_) #[true, true, true, true, true, true, true, true, true, true, true, true, true, false] rfl rfl (any_of HT_.out (by kernel_rfl)) (fun _ _ _ h => h) (Or.inl ⟨by rfl, ?_⟩) ?_ ?_
                          rotate_left
                          · intro w'
                            go_simp
                            with_reducible rfl
                          rotate_left
                          · simp only [Act.put, List.setIfInBounds_toArray, List.set_cons_zero, List.set_cons_succ, i64_w, i32_w]
                            rfl
                          refine pure_ (i := 13) (N := some 16) (v := ?_) (a' := ?_) #[true, true, true, true, true, true, true, true, true, true, true, true, true, true] rfl rfl (any_of HT_.out (by kernel_rfl)) (fun _ _ _ h => h) (Or.inl ⟨by rfl, ?_⟩) ?_ ?_
                          rotate_left
                          · intro w'
                            go_simp
                            with_reducible rfl
                          rotate_left
                          · simp only [Act.put, List.setIfInBounds_toArray, List.set_cons_zero, List.set_cons_succ, i64_w, i32_w]
                            rfl
                          refine done_ (done_of HT_.out (by kernel_rfl)) ?_
                          try go_wp2_with (first | (go_at_call 26; (with_reducible refine (cell_OfTable.calls kj7 a0 t371 _ ?side1 A95.out).mono ?_); (case side1 => first | (with_reducible exact HT.out) | (with_reducible exact Tabs.drewN HT.out _) | exact Tabs.below HT.out (by repeat (first | (with_reducible first | exact HB.out | apply below_alloc | apply pw_below_drewN | apply below_drew1 | refine below_set ?_ GE358.out | refine below_set ?_ GE359.out) | exact HB.out))); rintro e w105 ⟨rfl, hb⟩; have n0_ := Aside0.mk (blk_below (g := gb358) (o := .cells #[.int .i64 a3_0, .int .i64 a3_1, .string a3_2] 23 (0, 0)) (by (with_reducible repeat (first | refine blk_drewN ?_ _ | refine blk_drew ?_ | refine blk_alloc ?_ _)); exact BK358.out) hb); have n1_ := Aside0.mk (blk_below (g := gb359) (o := .cells #[.int .i64 a4_0, .int .i64 a4_1, .string a4_2] 23 (0, 0)) (by (with_reducible repeat (first | refine blk_drewN ?_ _ | refine blk_drew ?_ | refine blk_alloc ?_ _)); exact BK359.out) hb); have n2_ := Aside0.mk (below_step (by repeat (first | (with_reducible first | exact HB.out | apply below_alloc | apply pw_below_drewN | apply below_drew1 | refine below_set ?_ GE358.out | refine below_set ?_ GE359.out) | exact HB.out)) hb); clear BK358; clear BK359; clear HB; have BK358 := n0_; have BK359 := n1_; have HB := n2_; clear n0_ n1_ n2_; (try clear hb); (try clear hb2); (try clear hk); (try clear hi)))
                          go_ret
                          exact ⟨by first | rfl | (simp [errW_none, errW_some] <;> rfl) | (simp [*, errW_none, errW_some] <;> rfl), by repeat (first | (with_reducible first | exact HB.out | apply below_alloc | apply pw_below_drewN | apply below_drew1 | refine below_set ?_ GE358.out | refine below_set ?_ GE359.out) | exact HB.out)⟩
                  · rw [if_neg c91] at H
                    have c91b0 : ((t366.toList == t367.toList) == (a1.toList == a2.toList)) = false := by simpa using c91
                    (try (have c91bz := c91b0; simp only [c70b0, beq_true, beq_false, Bool.not_eq_true', Bool.not_eq_false'] at c91bz))
                    (try (have c91b1 : decide ((t366.toList == t367.toList) = (a1.toList == a2.toList)) = false := by simpa using c91))
                    (try (have c91b2 : ((t366.toList == t367.toList) == (a1.toList == a2.toList)) = false := by simpa using c91))
                    (try (have c91b3 : ¬ ((t366.toList == t367.toList) = (a1.toList == a2.toList)) := by simpa using c91))
                    clear c91
                    obtain rfl := Option.some.inj H
                    cases hr_.out
                · rw [if_neg c90] at H
                  have c90b0 : ((t364.toList == t365.toList) == false) = false := by simpa using c90
                  (try (have c90bz := c90b0; simp only [beq_true, beq_false, Bool.not_eq_true', Bool.not_eq_false'] at c90bz))
                  (try (have c90b1 : decide ((t364.toList == t365.toList) = false) = false := by simpa using c90))
                  (try (have c90b2 : ((t364.toList == t365.toList) == false) = false := by simpa using c90))
                  (try (have c90b3 : ¬ ((t364.toList == t365.toList) = false) := by simpa using c90))
                  clear c90
                  obtain rfl := Option.some.inj H
                  cases hr_.out
            · rw [if_neg c69] at H
              have c69b0 : ((t362.toList == t363.toList) == false) = false := by simpa using c69
              (try (have c69bz := c69b0; simp only [beq_true, beq_false, Bool.not_eq_true', Bool.not_eq_false'] at c69bz))
              (try (have c69b1 : decide ((t362.toList == t363.toList) = false) = false := by simpa using c69))
              (try (have c69b2 : ((t362.toList == t363.toList) == false) = false := by simpa using c69))
              (try (have c69b3 : ¬ ((t362.toList == t363.toList) = false) := by simpa using c69))
              clear c69
              obtain rfl := Option.some.inj H
              cases hr_.out
  · replace c7 := Bool.eq_false_iff.mpr c7
    subst c7
    have H1 : (some false) = some r := by rw [if_neg (show ¬ (false = true) by decide)] at H; exact H
    clear H
    have H := H1
    clear H1
    obtain rfl := Option.some.inj H
    cases hr_.out

end Go.Proofs.YtmaciepkkianhaaDoor.QCell

namespace Go.Proofs.YtmaciepkkianhaaDoor.M
open Go.RowKit

/-! ### Bits -/
theorem xor_top_nat (c : Nat) (h : c < 9223372036854775808) : c ^^^ 9223372036854775808 = c + 9223372036854775808 := by
  apply Nat.eq_of_testBit_eq
  intro i
  rw [Nat.testBit_xor, show (9223372036854775808 : Nat) = 2 ^ 63 from rfl, Nat.testBit_two_pow, Nat.add_comm]
  by_cases hi : i = 63
  · subst hi
    rw [Nat.testBit_two_pow_add_eq, Nat.testBit_lt_two_pow (by simpa using h)]
    rfl
  · rcases Nat.lt_or_gt_of_ne hi with hl | hg
    · rw [Nat.testBit_two_pow_add_gt hl]
      simp [show ¬ 63 = i by omega]
    · rw [Nat.testBit_lt_two_pow (Nat.lt_of_lt_of_le h (Nat.pow_le_pow_right (n := 2) (by decide) (by omega : 63 ≤ i)))]
      rw [Nat.testBit_lt_two_pow (Nat.lt_of_lt_of_le (by omega : 2 ^ 63 + c < 2 ^ 64) (Nat.pow_le_pow_right (n := 2) (by decide) (by omega : 64 ≤ i)))]
      simp [show ¬ 63 = i by omega]
theorem xor_top_nat' (c : Nat) (h : c < 9223372036854775808) : (c + 9223372036854775808) ^^^ 9223372036854775808 = c := by
  rw [← xor_top_nat c h, Nat.xor_assoc, Nat.xor_self, Nat.xor_zero]
theorem and_top (x : Int) (h0 : 0 ≤ x) (h1 : x < 18446744073709551616) : bits .and .u64 x 9223372036854775808 = if x < 9223372036854775808 then 0 else 9223372036854775808 := by
  rw [u64_and x _ h0 h1 (by omega) (by omega)]
  rw [show (9223372036854775808 : Int).toNat = 2 ^ 63 from rfl, nat_bit]
  split <;> (simp only [show (2 : Nat) ^ 63 = 9223372036854775808 from rfl]; omega)
theorem or_top (x : Int) (h0 : 0 ≤ x) (h1 : x < 9223372036854775808) : bits .or .u64 x 9223372036854775808 = x + 9223372036854775808 := by
  rw [u64_or x _ h0 (by omega) (by omega) (by omega)]
  rw [show (9223372036854775808 : Int).toNat = 2 ^ 63 from rfl, Nat.or_comm, nat_join 63 _ _ (by simp) (by simp only [show (2 : Nat) ^ 63 = 9223372036854775808 from rfl]; omega)]
  simp only [show (2 : Nat) ^ 63 = 9223372036854775808 from rfl]; omega
theorem xor_top (x : Int) (h0 : 0 ≤ x) (h1 : x < 18446744073709551616) : bits .xor .u64 x 9223372036854775808 = if x < 9223372036854775808 then x + 9223372036854775808 else x - 9223372036854775808 := by
  rw [u64_xor x _ h0 h1 (by omega) (by omega)]
  rw [show (9223372036854775808 : Int).toNat = 9223372036854775808 from rfl]
  split
  · rw [xor_top_nat _ (by omega)]; omega
  · obtain ⟨c, hc⟩ : ∃ c, x.toNat = c + 9223372036854775808 := ⟨x.toNat - 9223372036854775808, by omega⟩
    rw [hc, xor_top_nat' c (by omega)]; omega
theorem xor_max_nat (a : Nat) (h : a < 18446744073709551616) : 18446744073709551615 ^^^ a = 18446744073709551615 - a := by
  apply Nat.eq_of_testBit_eq
  intro i
  rw [Nat.testBit_xor, show 18446744073709551615 - a = 2 ^ 64 - (a + 1) by omega, Nat.testBit_two_pow_sub_succ (by simpa using h), show (18446744073709551615 : Nat) = 2 ^ 64 - 1 from rfl, Nat.testBit_two_pow_sub_one]
  by_cases hi : i < 64
  · simp [hi]
  · rw [Nat.testBit_lt_two_pow (Nat.lt_of_lt_of_le (by simpa using h : a < 2 ^ 64) (Nat.pow_le_pow_right (by decide) (by omega)))]
    simp [hi]
theorem u64_max : IntKind.u64.max = 18446744073709551615 := by decide
theorem xor_max (x : Int) (h0 : 0 ≤ x) (h1 : x < 18446744073709551616) : bits .xor .u64 IntKind.u64.max x = 18446744073709551615 - x := by
  rw [u64_max, u64_xor _ x (by omega) (by omega) h0 h1]
  rw [show (18446744073709551615 : Int).toNat = 18446744073709551615 from rfl, xor_max_nat _ (by omega)]
  omega
theorem andNot_top (x : Int) (h0 : 0 ≤ x) (h1 : x < 18446744073709551616) : bits .andNot .u64 x 9223372036854775808 = if x < 9223372036854775808 then x else x - 9223372036854775808 := by
  rw [u64_andNot x _ h0 h1 (by omega) (by omega)]
  rw [show 18446744073709551615 - (9223372036854775808 : Int).toNat = 2 ^ 63 - 1 from rfl, Nat.and_two_pow_sub_one_eq_mod]
  simp only [show (2 : Nat) ^ 63 = 9223372036854775808 from rfl]
  split <;> omega

theorem wrap_u64 (n : Int) : IntKind.u64.wrap n = n % 18446744073709551616 := IntKind.wrap_u64 n
theorem u64_range (n : Int) : 0 ≤ IntKind.u64.wrap n ∧ IntKind.u64.wrap n < 18446744073709551616 := by rw [wrap_u64]; omega

/-! ### Floats by their bits -/
abbrev F := FloatKind.f64.format
/-- The magnitude that a rung has, in units of the least one. -/
def mval (r : Nat) : Nat := if r < 4503599627370496 then r else (4503599627370496 + r % 4503599627370496) * 2 ^ (r / 4503599627370496 - 1)
theorem mval_step (r : Nat) : mval r < mval (r + 1) := by
  unfold mval
  by_cases h : r + 1 < 4503599627370496
  · rw [if_pos h, if_pos (by omega)]; omega
  · rw [if_neg h]
    by_cases h2 : r < 4503599627370496
    · obtain rfl : r = 4503599627370495 := by omega
      decide
    · rw [if_neg h2]
      by_cases h3 : r % 4503599627370496 = 4503599627370495
      · have e1 : (r + 1) / 4503599627370496 - 1 = (r / 4503599627370496 - 1) + 1 := by omega
        have e2 : (r + 1) % 4503599627370496 = 0 := by omega
        rw [e1, e2, h3, Nat.pow_succ]
        have := Nat.two_pow_pos (r / 4503599627370496 - 1)
        generalize 2 ^ (r / 4503599627370496 - 1) = p at *
        omega
      · have e1 : (r + 1) / 4503599627370496 - 1 = r / 4503599627370496 - 1 := by omega
        have e2 : (r + 1) % 4503599627370496 = r % 4503599627370496 + 1 := by omega
        rw [e1, e2]
        exact Nat.mul_lt_mul_of_pos_right (by omega) (Nat.two_pow_pos _)
theorem mval_lt {r s : Nat} (h : r < s) : mval r < mval s := by
  induction s with
  | zero => omega
  | succ s ih =>
    rcases Nat.lt_or_ge r s with hl | hg
    · exact Nat.lt_trans (ih hl) (mval_step s)
    · obtain rfl : r = s := by omega
      exact mval_step r
theorem mval_lt_iff {r s : Nat} : mval r < mval s ↔ r < s := by
  constructor
  · intro h
    rcases Nat.lt_trichotomy r s with hl | he | hg
    · exact hl
    · subst he; omega
    · have := mval_lt hg; omega
  · exact mval_lt

/-- What is no number; what a float is ordered by. -/
def isNan (u : Nat) : Bool := decide (u % 9223372036854775808 > 9218868437227405312)
def skey (u : Nat) : Int := if u < 9223372036854775808 then (u : Int) else -((u - 9223372036854775808 : Nat) : Int)

theorem read_eq (u : Nat) : F.read u =
    (let neg := u / 9223372036854775808 % 2 == 1
     let r := u % 9223372036854775808
     if r < 4503599627370496 then .number neg r (-1074)
     else if r < 9218868437227405312 then .number neg (4503599627370496 + r % 4503599627370496) (-1074 + (r / 4503599627370496 - 1 : Nat))
     else if r = 9218868437227405312 then .infinity neg
     else .nan neg (r - 9218868437227405312)) := by
  rfl

def sg (s : Bool) (n : Nat) : Int := if s then -(n : Int) else n
theorem cmp_congr {a b c d : Int} (h1 : a < b ↔ c < d) (h2 : a = b ↔ c = d) : compare a b = compare c d := by
  simp only [compare, compareOfLessAndEq, h1, h2]
theorem sg_lt {f : Nat → Nat} (hf : ∀ {r s : Nat}, f r < f s ↔ r < s) (h0 : f 0 = 0) (s t : Bool) (a b : Nat) : sg s (f a) < sg t (f b) ↔ sg s a < sg t b := by
  have h1 := @hf a b
  have h2 := @hf b a
  have h3 := @hf 0 a
  have h4 := @hf 0 b
  rw [h0] at h3 h4
  cases s <;> cases t <;> simp only [sg] <;> simp <;> omega
theorem sg_eq {f : Nat → Nat} (hf : ∀ {r s : Nat}, f r < f s ↔ r < s) (h0 : f 0 = 0) (s t : Bool) (a b : Nat) : sg s (f a) = sg t (f b) ↔ sg s a = sg t b := by
  have h1 := @hf a b
  have h2 := @hf b a
  have h3 := @hf 0 a
  have h4 := @hf 0 b
  rw [h0] at h3 h4
  cases s <;> cases t <;> simp only [sg] <;> simp <;> omega
theorem signed_sg (s : Bool) (m up : Nat) : Ieee.signed s m up = sg s (m * 2 ^ up) := by
  unfold Ieee.signed sg
  rw [Nat.shiftLeft_eq]
theorem sg_mul (s : Bool) (m p : Nat) : sg s (m * p) = sg s m * (p : Int) := by
  cases s <;> simp [sg, Int.neg_mul]
theorem cmp_scale (s t : Bool) (m n e1 e2 : Nat) :
    compare (Ieee.signed s m ((-1074 + (e1 : Int)) - min (-1074 + (e1 : Int)) (-1074 + (e2 : Int))).toNat) (Ieee.signed t n ((-1074 + (e2 : Int)) - min (-1074 + (e1 : Int)) (-1074 + (e2 : Int))).toNat) = compare (sg s (m * 2 ^ e1)) (sg t (n * 2 ^ e2)) := by
  rw [signed_sg, signed_sg]
  have q1 : ((-1074 + (e1 : Int)) - min (-1074 + (e1 : Int)) (-1074 + (e2 : Int))).toNat = e1 - min e1 e2 := by omega
  have q2 : ((-1074 + (e2 : Int)) - min (-1074 + (e1 : Int)) (-1074 + (e2 : Int))).toNat = e2 - min e1 e2 := by omega
  rw [q1, q2]
  have p1 : m * 2 ^ e1 = m * 2 ^ (e1 - min e1 e2) * 2 ^ min e1 e2 := by rw [Nat.mul_assoc, ← Nat.pow_add]; congr 2; omega
  have p2 : n * 2 ^ e2 = n * 2 ^ (e2 - min e1 e2) * 2 ^ min e1 e2 := by rw [Nat.mul_assoc, ← Nat.pow_add]; congr 2; omega
  rw [p1, p2, sg_mul s (m * 2 ^ (e1 - min e1 e2)), sg_mul t (n * 2 ^ (e2 - min e1 e2))]
  have hp : (0 : Int) < ((2 ^ min e1 e2 : Nat) : Int) := by exact_mod_cast Nat.two_pow_pos _
  generalize ((2 ^ min e1 e2 : Nat) : Int) = p at *
  apply cmp_congr
  · exact (Int.mul_lt_mul_right hp).symm
  · exact ⟨fun h => by rw [h], fun h => Int.eq_of_mul_eq_mul_right (by omega) h⟩

def neg (u : Nat) : Bool := u / 9223372036854775808 % 2 == 1
theorem skey_sg (u : Nat) (hu : u < 18446744073709551616) : skey u = sg (neg u) (u % 9223372036854775808) := by
  unfold skey sg neg
  by_cases h : u < 9223372036854775808
  · rw [if_pos h, if_neg (by simp; omega)]; omega
  · rw [if_neg h, if_pos (by simp; omega)]; omega
/-- A finite float's datum: the magnitude of its rung, in units of the least one. -/
theorem read_fin (u : Nat) (h : u % 9223372036854775808 < 9218868437227405312) :
    ∃ m e : Nat, F.read u = .number (neg u) m (-1074 + (e : Int)) ∧ m * 2 ^ e = mval (u % 9223372036854775808) := by
  rw [read_eq]
  by_cases h1 : u % 9223372036854775808 < 4503599627370496
  · exact ⟨u % 9223372036854775808, 0, by simp only [if_pos h1]; rfl, by unfold mval; rw [if_pos h1]; simp⟩
  · exact ⟨_, _, by simp only [if_neg h1, if_pos h]; rfl, by unfold mval; rw [if_neg h1]⟩
theorem read_inf (u : Nat) (h : u % 9223372036854775808 = 9218868437227405312) : F.read u = .infinity (neg u) := by
  rw [read_eq]
  simp only [h]; rfl
theorem read_nan (u : Nat) (h : isNan u = true) : ∃ t, F.read u = .nan (neg u) t := by
  have h' : u % 9223372036854775808 > 9218868437227405312 := by simpa [isNan] using h
  rw [read_eq]
  exact ⟨_, by simp only [if_neg (show ¬ u % 9223372036854775808 < 4503599627370496 by omega), if_neg (show ¬ u % 9223372036854775808 < 9218868437227405312 by omega), if_neg (show ¬ u % 9223372036854775808 = 9218868437227405312 by omega)]; rfl⟩

theorem cmp_eq_iff (a b : Int) : compare a b = .eq ↔ a = b := by
  simp only [compare, compareOfLessAndEq]
  split
  · constructor
    · intro h; cases h
    · intro h; omega
  · split <;> simp_all
theorem cmp_lt_iff (a b : Int) : compare a b = .lt ↔ a < b := by
  simp only [compare, compareOfLessAndEq]
  split
  · simp_all
  · split <;> simp_all
theorem cmp_gt_iff (a b : Int) : compare a b = .gt ↔ b < a := by
  simp only [compare, compareOfLessAndEq]
  split
  · constructor
    · intro h; cases h
    · intro h; omega
  · split
    · constructor
      · intro h; cases h
      · intro h; omega
    · constructor
      · intro _; omega
      · intro _; rfl
theorem sg_bound (s : Bool) (r : Nat) (h : r < 9218868437227405312) : sg s r < sg false 9218868437227405312 ∧ sg true 9218868437227405312 < sg s r := by
  simp only [sg, if_true, Bool.false_eq_true, if_false]
  cases s <;> simp <;> omega
/-- The order of two floats that are numbers. -/
theorem order_num (u v : Nat) (hu : u < 18446744073709551616) (hv : v < 18446744073709551616) (nu : isNan u = false) (nv : isNan v = false) :
    F.order u v = some (compare (skey u) (skey v)) := by
  have au : u % 9223372036854775808 ≤ 9218868437227405312 := by simpa [isNan] using nu
  have av : v % 9223372036854775808 ≤ 9218868437227405312 := by simpa [isNan] using nv
  rw [skey_sg u hu, skey_sg v hv]
  show (F.read u).order (F.read v) = _
  by_cases fu : u % 9223372036854775808 < 9218868437227405312
  · obtain ⟨m, e, ru, mu⟩ := read_fin u fu
    rw [ru]
    by_cases fv : v % 9223372036854775808 < 9218868437227405312
    · obtain ⟨n, f, rv, mv⟩ := read_fin v fv
      rw [rv]
      simp only [Ieee.Datum.order]
      rw [cmp_scale, mu, mv]
      exact congrArg some (cmp_congr (sg_lt mval_lt_iff (by decide) _ _ _ _) (sg_eq mval_lt_iff (by decide) _ _ _ _))
    · have rv := read_inf v (by omega)
      rw [rv]
      simp only [Ieee.Datum.order]
      have ev : v % 9223372036854775808 = 9218868437227405312 := by omega
      rw [ev]
      have hb := sg_bound (neg u) _ fu
      generalize sg (neg u) (u % 9223372036854775808) = q at *
      congr 1
      cases neg v
      · exact ((cmp_lt_iff _ _).mpr hb.1).symm
      · exact ((cmp_gt_iff _ _).mpr hb.2).symm
  · have ru := read_inf u (by omega)
    rw [ru]
    have eu : u % 9223372036854775808 = 9218868437227405312 := by omega
    rw [eu]
    by_cases fv : v % 9223372036854775808 < 9218868437227405312
    · obtain ⟨n, f, rv, mv⟩ := read_fin v fv
      rw [rv]
      simp only [Ieee.Datum.order]
      have hb := sg_bound (neg v) _ fv
      generalize sg (neg v) (v % 9223372036854775808) = q at *
      congr 1
      cases neg u
      · exact ((cmp_gt_iff _ _).mpr hb.1).symm
      · exact ((cmp_lt_iff _ _).mpr hb.2).symm
    · have rv := read_inf v (by omega)
      rw [rv]
      have ev : v % 9223372036854775808 = 9218868437227405312 := by omega
      rw [ev]
      simp only [Ieee.Datum.order]
      generalize neg u = s
      generalize neg v = t
      cases s <;> cases t <;> decide
theorem order_nan_l (u v : Nat) (h : isNan u = true) : F.order u v = none := by
  obtain ⟨t, hr⟩ := read_nan u h
  show (F.read u).order (F.read v) = _
  rw [hr]; rfl
theorem ne_self (u : Nat) (hu : u < 18446744073709551616) : (F.order u u != some Ordering.eq) = isNan u := by
  cases h : isNan u
  · rw [order_num u u hu hu h h, (cmp_eq_iff _ _).mpr rfl]; rfl
  · rw [order_nan_l u u h]; rfl
theorem eq_zero (u : Nat) (hu : u < 18446744073709551616) (h : isNan u = false) : (F.order u 0 == some Ordering.eq) = decide (u % 9223372036854775808 = 0) := by
  rw [order_num u 0 hu (by omega) h (by decide)]
  have e : compare (skey u) (skey 0) = .eq ↔ u % 9223372036854775808 = 0 := by
    rw [cmp_eq_iff, skey_sg u hu]
    show sg (neg u) _ = 0 ↔ _
    cases neg u <;> simp [sg] <;> omega
  by_cases q : u % 9223372036854775808 = 0
  · rw [e.mpr q]; simp [q]
  · simp only [q, decide_false]
    have : compare (skey u) (skey 0) ≠ .eq := fun h => q (e.mp h)
    cases hc : compare (skey u) (skey 0) <;> simp_all
/-- The bits by which a float is kept. -/
def kept (u : Nat) : Int := if isNan u = true then 9221120237041090560 else if u % 9223372036854775808 = 0 then 0 else wrap64 (u : Int)
/-- The bits that an int's are. -/
def ub (n : Int) : Nat := (IntKind.u64.wrap n).toNat
theorem ub_lt (n : Int) : ub n < 18446744073709551616 := by unfold ub; have := u64_range n; omega
end Go.Proofs.YtmaciepkkianhaaDoor.M

set_option linter.unusedSimpArgs false
namespace Go.Proofs.YtmaciepkkianhaaDoor.M
open Go.RowKit Go.Proofs.YtmaciepkkianhaaDoor.H

/-! ### Eight bytes -/
def by8 (n : Nat) : UInt8 := UInt8.ofNat n
def be8 (u : Nat) : List UInt8 := [by8 (u / 72057594037927936), by8 (u / 281474976710656), by8 (u / 1099511627776), by8 (u / 4294967296), by8 (u / 16777216), by8 (u / 65536), by8 (u / 256), by8 u]
def un8 (l : List UInt8) : Nat := l.foldl (fun u b => u * 256 + b.toNat) 0
theorem be8_length (u : Nat) : (be8 u).length = 8 := rfl
theorem by8_toNat (n : Nat) : (by8 n).toNat = n % 256 := by simp [by8]
theorem un8_be8 (u : Nat) (h : u < 18446744073709551616) : un8 (be8 u) = u := by
  simp only [un8, be8, List.foldl, by8_toNat]
  omega
theorem toNat_by8 (a : UInt8) (n : Nat) (h : n % 256 = a.toNat) : by8 n = a := by
  apply UInt8.toNat_inj.mp
  rw [by8_toNat, h]
theorem be8_un8 (l : List UInt8) (h : l.length = 8) : be8 (un8 l) = l ∧ un8 l < 18446744073709551616 := by
  match l, h with
  | [a, b, c, d, e, f, g, i], _ =>
    have ha := a.toNat_lt; have hb := b.toNat_lt; have hc := c.toNat_lt; have hd := d.toNat_lt
    have he := e.toNat_lt; have hf := f.toNat_lt; have hg := g.toNat_lt; have hi := i.toNat_lt
    simp only [un8, List.foldl, be8]
    refine ⟨?_, by omega⟩
    rw [toNat_by8 a _ (by omega), toNat_by8 b _ (by omega), toNat_by8 c _ (by omega), toNat_by8 d _ (by omega), toNat_by8 e _ (by omega), toNat_by8 f _ (by omega), toNat_by8 g _ (by omega), toNat_by8 i _ (by omega)]

/-! ### Texts -/
def esc : List UInt8 → List UInt8
  | [] => []
  | c :: r => if c = 0 then 0 :: 255 :: esc r else c :: esc r
theorem esc_length (t : List UInt8) : t.length ≤ (esc t).length ∧ (esc t).length ≤ 2 * t.length := by
  induction t with
  | nil => simp [esc]
  | cons c r ih => simp only [esc]; split <;> simp <;> omega
theorem txt_step (c : UInt8) (r acc : List UInt8) (h : c ≠ 0) (hr : r ≠ []) : txt (c :: r) acc = txt r (acc ++ [c]) := by
  match r, hr with
  | d :: r, _ => simp [txt, h]
theorem txt_esc (t : List UInt8) : ∀ (acc r : List UInt8), txt (esc t ++ 0 :: 0 :: r) acc = some (acc ++ t, r) := by
  induction t with
  | nil => intro acc r; simp [esc, txt]
  | cons c t ih =>
    intro acc r
    by_cases hc : c = 0
    · subst hc
      simp only [esc, if_true, List.cons_append]
      simp [txt, ih]
    · simp only [esc, if_neg hc, List.cons_append]
      rw [txt_step c _ acc hc (by simp), ih]
      simp
theorem txt_back : ∀ (n : Nat) (s acc t r : List UInt8), s.length ≤ n → txt s acc = some (t, r) → ∃ q, t = acc ++ q ∧ s = esc q ++ 0 :: 0 :: r := by
  intro n
  induction n with
  | zero => intro s acc t r hn h; match s, hn with | [], _ => simp [txt] at h
  | succ n ih =>
    intro s acc t r hn h
    match s, hn with
    | [], _ => simp [txt] at h
    | [_], _ => simp [txt] at h
    | c :: d :: s, hn =>
      simp only [txt] at h
      by_cases hc : c = 0
      · rw [if_neg (by simpa using hc)] at h
        by_cases hd : d = 0
        · rw [if_pos hd] at h
          simp only [Option.some.injEq, Prod.mk.injEq] at h
          exact ⟨[], by simp [h.1], by rw [hc, hd, h.2]; rfl⟩
        · rw [if_neg hd] at h
          by_cases he : d = 255
          · rw [if_neg (by simpa using he)] at h
            obtain ⟨q, h1, h2⟩ := ih s _ t r (by simp at hn; omega) h
            exact ⟨0 :: q, by rw [h1]; simp, by rw [hc, he, h2]; simp [esc]⟩
          · rw [if_pos he] at h
            cases h
      · rw [if_pos hc] at h
        obtain ⟨q, h1, h2⟩ := ih (d :: s) _ t r (by simp at hn ⊢; omega) h
        exact ⟨c :: q, by rw [h1]; simp, by rw [h2]; simp [esc, hc]⟩
theorem index_zero_cons (c : UInt8) (l : List UInt8) : Lib.index (c :: l) [0] = if c = 0 then 0 else if Lib.index l [0] == -1 then -1 else Lib.index l [0] + 1 := by
  show (if ([0] : List UInt8).isPrefixOf (c :: l) then 0 else if Lib.index l [0] == -1 then -1 else Lib.index l [0] + 1) = _
  by_cases hc : c = 0
  · subst hc; rfl
  · have h : ((0 : UInt8) == c) = false := beq_eq_false_iff_ne.mpr (Ne.symm hc)
    rw [if_neg hc, if_neg (by simp only [List.isPrefixOf, h]; decide)]
theorem replaceK_esc : ∀ (s : List UInt8) (k : Nat), s.count 0 ≤ k → Lib.replaceK [0] [0, 255] k s = esc s := by
  intro s
  induction s with
  | nil =>
    intro k _
    cases k with
    | zero => rfl
    | succ k => simp [Lib.replaceK, Lib.index, esc]
  | cons c l ih =>
    intro k hk
    by_cases hc : c = 0
    · subst hc
      cases k with
      | zero => simp at hk
      | succ k =>
        rw [List.count_cons_self] at hk
        simp only [Lib.replaceK, index_zero_cons, if_true]
        simp [esc, ih k (by omega)]
    · rw [List.count_cons_of_ne (by simpa [eq_comm] using hc)] at hk
      have h1 := ih k hk
      cases k with
      | zero => simp only [Lib.replaceK] at h1 ⊢; simp only [esc, if_neg hc]; rw [← h1]
      | succ k =>
        simp only [Lib.replaceK] at h1 ⊢
        rw [index_zero_cons, if_neg hc]
        simp only [esc, if_neg hc]
        by_cases hm : Lib.index l [0] = -1
        · rw [hm] at h1 ⊢
          simp at h1 ⊢
          exact h1
        · have hge := Lib.index_ge l [0]
          have h2 : (Lib.index l [0] == -1) = false := beq_eq_false_iff_ne.mpr hm
          have h3 : (Lib.index l [0] + 1 == -1) = false := beq_eq_false_iff_ne.mpr (by omega)
          rw [h2] at h1 ⊢
          simp only [Bool.false_eq_true, if_false] at h1 ⊢
          rw [h3]
          simp only [Bool.false_eq_true, if_false]
          rw [← h1]
          obtain ⟨i, hi⟩ : ∃ i : Nat, Lib.index l [0] = i := ⟨(Lib.index l [0]).toNat, by omega⟩
          rw [hi]
          have e1 : ((i : Int) + 1).toNat = i + 1 := by omega
          have e2 : ((i : Int)).toNat = i := by omega
          rw [e1, e2]
          simp
theorem replaceAll_esc (s : List UInt8) : Lib.replaceAll s [0] [0, 255] = esc s := by
  unfold Lib.replaceAll Lib.replace
  rw [if_neg (by decide)]
  unfold Lib.replaceNum
  rw [if_pos (Or.inl (by decide)), Lib.count_one]
  exact replaceK_esc s _ (Nat.le_refl _)
end Go.Proofs.YtmaciepkkianhaaDoor.M

set_option linter.unusedSimpArgs false
namespace Go.Proofs.YtmaciepkkianhaaDoor.M
open Go.RowKit Go.Proofs.YtmaciepkkianhaaDoor.H

abbrev Val := Int × Int × List UInt8
/-- Can a value be? -/
def good (v : Val) : Prop :=
  (v.1 = 0 ∧ v.2.1 = 0 ∧ v.2.2 = []) ∨ (v.1 = 1 ∧ v.2.2 = []) ∨ (v.1 = 2 ∧ v.2.2 = [] ∧ kept (ub v.2.1) = v.2.1) ∨ (v.1 = 3 ∧ v.2.1 = 0 ∧ v.2.2.length ≤ 24)
instance (v : Val) : Decidable (good v) := by unfold good; infer_instance
/-- A float's key, by the bits by which it is kept. -/
def fk (n : Int) : Nat := if ub n < 9223372036854775808 then ub n + 9223372036854775808 else 18446744073709551615 - ub n
def fkey (n : Int) : Nat := fk (kept (ub n))
theorem fk_lt (n : Int) : fk n < 18446744073709551616 := by unfold fk; split <;> omega
/-- The number whose key a number is, if there is one. -/
def back (key : Nat) : Int := wrap64 (if key < 9223372036854775808 then (18446744073709551615 - key : Nat) else (key - 9223372036854775808 : Nat) : Int)
theorem back_fk (n : Int) (hn : -9223372036854775808 ≤ n ∧ n ≤ 9223372036854775807) : back (fk n) = n := by
  have h1 := ub_lt n
  unfold back fk
  unfold ub at *
  rw [wrap_u64] at *
  unfold wrap64
  by_cases h : (n % 18446744073709551616).toNat < 9223372036854775808
  · simp only [if_pos h]
    rw [if_neg (by omega)]; omega
  · simp only [if_neg h]
    rw [if_pos (by omega)]; omega
theorem fk_back (key : Nat) (h : key < 18446744073709551616) : fk (back key) = key := by
  unfold back fk ub wrap64
  simp only [wrap_u64]
  split <;> split <;> omega
theorem back_range (key : Nat) : -9223372036854775808 ≤ back key ∧ back key ≤ 9223372036854775807 := by
  unfold back wrap64; omega

/-- A value's key; nothing of one that can't be. -/
def tail (v : Val) : List UInt8 := if v.1 = 1 then be8 (v.2.1 + 9223372036854775808).toNat else if v.1 = 2 then be8 (fkey v.2.1) else if v.1 = 3 then esc v.2.2 ++ [0, 0] else []
def keyL (v : Val) : List UInt8 := if good v then by8 v.1.toNat :: tail v else []
/-- The value with whose key bytes begin, and what stands behind it. -/
def cutL (s : List UInt8) : Option (Val × List UInt8) :=
  match s with
  | [] => none
  | c :: r =>
    if c = 0 then some ((0, 0, []), r)
    else if c = 1 then (if 8 ≤ r.length then some ((1, (un8 (r.take 8) : Int) - 9223372036854775808, []), r.drop 8) else none)
    else if c = 2 then (if 8 ≤ r.length then (if kept (ub (back (un8 (r.take 8)))) = back (un8 (r.take 8)) then some ((2, back (un8 (r.take 8)), []), r.drop 8) else none) else none)
    else if c = 3 then (match txt r [] with | none => none | some (t, q) => if t.length ≤ 24 then some ((3, 0, t), q) else none)
    else none
/-- The numbers are ints. -/
def inR (v : Val) : Prop := -9223372036854775808 ≤ v.2.1 ∧ v.2.1 ≤ 9223372036854775807
theorem good_kind {v : Val} (h : good v) : v.1 = 0 ∨ v.1 = 1 ∨ v.1 = 2 ∨ v.1 = 3 := by
  rcases h with h | h | h | h
  · exact .inl h.1
  · exact .inr (.inl h.1)
  · exact .inr (.inr (.inl h.1))
  · exact .inr (.inr (.inr h.1))
theorem take8 (u : Nat) (r : List UInt8) : (be8 u ++ r).take 8 = be8 u := rfl
theorem drop8 (u : Nat) (r : List UInt8) : (be8 u ++ r).drop 8 = r := rfl
theorem cut_key (v : Val) (hg : good v) (hr : inR v) (r : List UInt8) : cutL (keyL v ++ r) = some (v, r) := by
  unfold keyL
  rw [if_pos hg]
  obtain ⟨k, n, t⟩ := v
  rcases hg with h | h | h | h
  · obtain ⟨h1, h2, h3⟩ := h
    simp only at h1 h2 h3
    subst h1; subst h2; subst h3
    rfl
  · obtain ⟨h1, h3⟩ := h
    simp only at h1 h3
    subst h1; subst h3
    have hn : (n + 9223372036854775808).toNat < 18446744073709551616 := by unfold inR at hr; simp only at hr; omega
    show cutL (1 :: (be8 (n + 9223372036854775808).toNat ++ r)) = _
    simp only [cutL]
    rw [if_neg (by decide), if_pos True.intro, if_pos (by simp [be8_length]), take8, drop8, un8_be8 _ hn]
    unfold inR at hr; simp only at hr
    have e : ((n + 9223372036854775808).toNat : Int) - 9223372036854775808 = n := by omega
    rw [e]
  · obtain ⟨h1, h3, h4⟩ := h
    simp only at h1 h3 h4
    subst h1; subst h3
    show cutL (2 :: (be8 (fkey n) ++ r)) = _
    have e : fkey n = fk n := by unfold fkey; rw [h4]
    simp only [cutL]
    rw [e, if_neg (by decide), if_neg (by decide), if_pos True.intro, if_pos (by simp [be8_length]), take8, drop8, un8_be8 _ (fk_lt n), back_fk n hr, if_pos h4]
  · obtain ⟨h1, h2, h3⟩ := h
    simp only at h1 h2 h3
    subst h1; subst h2
    show cutL (3 :: ((esc t ++ [0, 0]) ++ r)) = _
    have e : txt ((esc t ++ [0, 0]) ++ r) [] = some (t, r) := by
      have := txt_esc t [] r
      simpa using this
    simp only [cutL]
    rw [if_neg (by decide), if_neg (by decide), if_neg (by decide), if_pos True.intro, e]
    simp only
    rw [if_pos h3]
theorem cut_back (s r : List UInt8) (v : Val) (h : cutL s = some (v, r)) : good v ∧ inR v ∧ s = keyL v ++ r := by
  match s with
  | [] => simp [cutL] at h
  | c :: s =>
    simp only [cutL] at h
    by_cases c0 : c = 0
    · rw [if_pos c0] at h
      simp only [Option.some.injEq, Prod.mk.injEq] at h
      obtain ⟨rfl, rfl⟩ := h
      have g : good (0, 0, []) := .inl ⟨rfl, rfl, rfl⟩
      exact ⟨g, by unfold inR; simp, by unfold keyL; rw [if_pos g, c0]; rfl⟩
    rw [if_neg c0] at h
    by_cases c1 : c = 1
    · rw [if_pos c1] at h
      by_cases hl : 8 ≤ s.length
      · rw [if_pos hl] at h
        simp only [Option.some.injEq, Prod.mk.injEq] at h
        obtain ⟨rfl, rfl⟩ := h
        have h8 := be8_un8 (s.take 8) (by simp; omega)
        generalize hu : un8 (s.take 8) = u at *
        have g : good (1, (u : Int) - 9223372036854775808, []) := .inr (.inl ⟨rfl, rfl⟩)
        refine ⟨g, by unfold inR; simp only; omega, ?_⟩
        unfold keyL
        rw [if_pos g, c1]
        show 1 :: s = 1 :: (be8 (((u : Int) - 9223372036854775808 + 9223372036854775808).toNat) ++ s.drop 8)
        have e : ((u : Int) - 9223372036854775808 + 9223372036854775808).toNat = u := by omega
        rw [e, h8.1, List.take_append_drop]
      · rw [if_neg hl] at h; cases h
    rw [if_neg c1] at h
    by_cases c2 : c = 2
    · rw [if_pos c2] at h
      by_cases hl : 8 ≤ s.length
      · rw [if_pos hl] at h
        have h8 := be8_un8 (s.take 8) (by simp; omega)
        generalize hu : un8 (s.take 8) = u at *
        by_cases hk : kept (ub (back u)) = back u
        · rw [if_pos hk] at h
          simp only [Option.some.injEq, Prod.mk.injEq] at h
          obtain ⟨rfl, rfl⟩ := h
          have g : good (2, back u, []) := .inr (.inr (.inl ⟨rfl, rfl, hk⟩))
          refine ⟨g, back_range u, ?_⟩
          unfold keyL
          rw [if_pos g, c2]
          show 2 :: s = 2 :: (be8 (fkey (back u)) ++ s.drop 8)
          have e : fkey (back u) = u := by unfold fkey; rw [hk, fk_back u h8.2]
          rw [e, h8.1, List.take_append_drop]
        · rw [if_neg hk] at h; cases h
      · rw [if_neg hl] at h; cases h
    rw [if_neg c2] at h
    by_cases c3 : c = 3
    · rw [if_pos c3] at h
      cases ht : txt s [] with
      | none => rw [ht] at h; cases h
      | some p =>
        obtain ⟨t, q⟩ := p
        rw [ht] at h
        simp only at h
        by_cases hl : t.length ≤ 24
        · rw [if_pos hl] at h
          simp only [Option.some.injEq, Prod.mk.injEq] at h
          obtain ⟨rfl, rfl⟩ := h
          obtain ⟨x, h1, h2⟩ := txt_back s.length s [] t q (Nat.le_refl _) ht
          have g : good (3, 0, t) := .inr (.inr (.inr ⟨rfl, rfl, hl⟩))
          refine ⟨g, by unfold inR; simp, ?_⟩
          unfold keyL
          rw [if_pos g, c3]
          rw [List.nil_append] at h1
          subst h1
          show 3 :: s = 3 :: ((esc t ++ [0, 0]) ++ q)
          rw [h2]; simp
        · rw [if_neg hl] at h; cases h
    · rw [if_neg c3] at h; cases h

end Go.Proofs.YtmaciepkkianhaaDoor.M
