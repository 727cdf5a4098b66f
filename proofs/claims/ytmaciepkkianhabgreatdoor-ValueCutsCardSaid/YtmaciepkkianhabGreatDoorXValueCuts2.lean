/- The law mortmainlaw03.ValueCuts: its row and its card, out of the walk (printed) and the plain fact that it answers true. Written by rowgen.py, this claim's own program. Lean checks it. -/
import Derived.Test.YtmaciepkkianhabGreatDoorXValueCuts0
import Derived.Test.YtmaciepkkianhabGreatDoorXValueCuts1
import Derived.Laws.BitsAllLaws
import Derived.Laws.FloatBits
import Derived.WalkKit
import Derived.Lib.SplitLaws
import Derived.Laws.Strings
import Derived.Shaped
import Derived.Lay
import Derived.Deep.DeepHandedRow
import Derived.Test.YtmaciepkkianhabGreatDoorCards
import Derived.Test.YtmaciepkkianhabGreatDoorTie
import Derived.ProofKit
import Derived.OpenShut
import Derived.ShutString
import Derived.ChangeOld
import Derived.Below
import Derived.SizedLaws
import Derived.Carry
import Derived.Lib.LaidTab
import Derived.Lib.SmallJoins
import Derived.Shelf.Vars
import Derived.Lib.LaidU8
import Derived.Laws.Cover2
namespace Go.Proofs.YtmaciepkkianhabGreatDoor.QVal
open Go.Proofs.YtmaciepkkianhabGreatDoor.H
attribute [local go_sem] ite_signed_u64 ite_signed_u32
open Go.RowKit Go.Proofs.YtmaciepkkianhabGreatDoorW.PrintWords Go.Proofs.YtmaciepkkianhabGreatDoorW.PrintLast Go.Proofs.YtmaciepkkianhabGreatDoorW.PrintMore
attribute [local go_sem] max2_int min2_int max_two min_two max_three min_three max_four min_four   -- for this text's walks alone
set_option linter.unusedVariables false
set_option linter.unusedSimpArgs false

attribute [local go_sem high] eqA23
/-! ### mortmainlaw03_ValueCuts: function 4 -/
mutual
def mortmainlaw03_ValueCuts.j0 : Nat → ByteArray → Bool → Int → Int → ByteArray → Option (Bool)
  | 0, _, _, _, _, _ => none
  | k + 1, x0, x21, x206000, x206001, x206002 => if x21 = true then (some true) else ((value_Cut.f k x0).bind fun bt211 => (if bt211.2.2.2.2 = 0 then ((mortmainref03_Good.f bt211.1 bt211.2.1 bt211.2.2.1).bind fun t217 => (if t217 = true then ((mortmainref03_Key.f k bt211.1 bt211.2.1 bt211.2.2.1).bind fun t218 => (if t218.size + bt211.2.2.2.1.size ≤ 9223372036854775807 then (if (t218 ++ bt211.2.2.2.1).toList = x0.toList then (mortmainlaw03_ValueCuts.j1 k x0 bt211.2.2.2.2 false x206000 x206001 x206002) else (mortmainlaw03_ValueCuts.j1 k x0 bt211.2.2.2.2 true x206000 x206001 x206002)) else (none))) else (mortmainlaw03_ValueCuts.j1 k x0 bt211.2.2.2.2 true x206000 x206001 x206002))) else (if bt211.2.2.2.2 = 4 then (if (!(bt211.1 == 0) || (!(bt211.2.1 == 0) || (!bt211.2.2.1.toList.isEmpty))) = true then (mortmainlaw03_ValueCuts.j1 k x0 bt211.2.2.2.2 true x206000 x206001 x206002) else (mortmainlaw03_ValueCuts.j1 k x0 bt211.2.2.2.2 (bt211.2.2.2.1.toList != ([] : List UInt8)) x206000 x206001 x206002)) else (mortmainlaw03_ValueCuts.j1 k x0 bt211.2.2.2.2 true x206000 x206001 x206002))))
def mortmainlaw03_ValueCuts.j1 : Nat → ByteArray → Int → Bool → Int → Int → ByteArray → Option (Bool)
  | 0, _, _, _, _, _, _ => none
  | k + 1, x0, x7, x59, x206000, x206001, x206002 => if x59 = true then (some false) else ((mortmainref03_Good.f x206000 x206001 x206002).bind fun t219 => (if t219 = true then ((mortmainref03_Key.f k x206000 x206001 x206002).bind fun t220 => (if t220.size + x0.size ≤ 9223372036854775807 then ((value_Cut.f k (t220 ++ x0)).bind fun bt221 => (if (bt221.1 == x206000 && (bt221.2.1 == x206001 && (bt221.2.2.1.toList == x206002.toList))) = true then (if bt221.2.2.2.1.toList = x0.toList then (if bt221.2.2.2.2 = 0 then (if x7 = 0 then (some true) else (if (x0.size : Int) < (t220.size : Int) then (some true) else (if 0 ≤ (t220.size : Int) then (if (t220.size : Int) ≤ (x0.size : Int) then (some ((x0.extract 0 ((t220.size : Int) : Int).toNat).toList != t220.toList)) else (none)) else (none)))) else (some false)) else (some false)) else (some false))) else (none))) else (some true)))
end
def mortmainlaw03_ValueCuts.f (k : Nat) (a0 : ByteArray) (a1_0 : Int) (a1_1 : Int) (a1_2 : ByteArray) : Option (Bool) := (mortmainlaw03_alive.f k).bind fun t206 => (if t206 = true then (if (a0.size : Int) > 200 then (mortmainlaw03_ValueCuts.j0 k a0 true a1_0 a1_1 a1_2) else ((mortmainlaw03_great.f k (([(⟨a1_0, a1_1, a1_2⟩ : S23)] : List (S23)))).bind fun t210 => (mortmainlaw03_ValueCuts.j0 k a0 t210 a1_0 a1_1 a1_2))) else (some false))
set_option maxHeartbeats 8000000 in
set_option maxRecDepth 100000 in
theorem mortmainlaw03_ValueCuts.calls (k : Nat) (a0 : ByteArray) (a1_0 : Int) (a1_1 : Int) (a1_2 : ByteArray) (r : Bool) (w : World) (hT : Tabs w) (hr_ : Aside0 (r = true)) (h : mortmainlaw03_ValueCuts.f k a0 a1_0 a1_1 a1_2 = some r) :
    Calls Tryz.prog 4 #[.string a0, .agg #[.int .i64 a1_0, .int .i64 a1_1, .string a1_2]] w fun e w' => e = .returned (.bool r) ∧ Below w.heap.size w w' := by
  have hu23 := Tryz.underlying23
  have HT := Aside0.mk hT
  clear hT
  have HB := Aside0.mk (Below.refl w.heap.size w)
  have H : ((mortmainlaw03_alive.f k).bind fun t206 => (if t206 = true then (if (a0.size : Int) > 200 then (mortmainlaw03_ValueCuts.j0 k a0 true a1_0 a1_1 a1_2) else ((mortmainlaw03_great.f k (([(⟨a1_0, a1_1, a1_2⟩ : S23)] : List (S23)))).bind fun t210 => (mortmainlaw03_ValueCuts.j0 k a0 t210 a1_0 a1_1 a1_2))) else (some false))) = some r := h
  clear h
  replace H := Option.bind_eq_some_iff.mp H
  obtain ⟨t206, A30, H⟩ := H
  replace H : (if t206 = true then (if (a0.size : Int) > 200 then (mortmainlaw03_ValueCuts.j0 k a0 true a1_0 a1_1 a1_2) else ((mortmainlaw03_great.f k (([(⟨a1_0, a1_1, a1_2⟩ : S23)] : List (S23)))).bind fun t210 => (mortmainlaw03_ValueCuts.j0 k a0 t210 a1_0 a1_1 a1_2))) else (some false)) = some r := H
  have A3 := Aside0.mk A30
  clear A30
  by_cases c4 : t206 = true
  · subst c4
    have H1 : (if (a0.size : Int) > 200 then (mortmainlaw03_ValueCuts.j0 k a0 true a1_0 a1_1 a1_2) else ((mortmainlaw03_great.f k (([(⟨a1_0, a1_1, a1_2⟩ : S23)] : List (S23)))).bind fun t210 => (mortmainlaw03_ValueCuts.j0 k a0 t210 a1_0 a1_1 a1_2))) = some r := by rw [if_pos rfl] at H; exact H
    clear H
    have H := H1
    clear H1
    have HC5 := Aside0.mk H
    clear H
    go_enter Tryz.func4, Tryz.ntmps4
    go_upto_region 3 with (first | ((with_reducible refine gate_dst (N := 3) rfl ?_); (try (refine gate_guard (by rfl) ?_; dsimp only)); refine box_event ?hg (N := 3) ?hd (cs := #[.int .i64 a1_0, .int .i64 a1_1, .string a1_2]) (t := 23) ?hr ?_; (case hd => rfl); (case hg => rfl); (case hr => first | (go_simp; done) | (go_simp; rfl)); intro gb205 hg w6 hbox hb; have n0_ := Aside0.mk (below_step (by repeat (first | (with_reducible first | exact HB.out | apply below_alloc | apply pw_below_drewN | apply below_drew1) | exact HB.out)) hb); have n1_ := Aside0.mk (hbox); have n2_ := Aside0.mk ((by rw [hg]; exact (below_size (by repeat (first | (with_reducible first | exact HB.out | apply below_alloc | apply pw_below_drewN | apply below_drew1) | exact HB.out))) : w.heap.size ≤ gb205)); have n3_ := Aside0.mk ((by rw [hg]; exact (below_size (by repeat (first | (with_reducible first | exact HB.out | apply below_alloc | apply pw_below_drewN | apply below_drew1) | exact HB.out))) : w.heap.size ≤ gb205)); clear HB; have HB := n0_; have BK205 := n1_; have GW205 := n2_; have GE205 := n3_; clear n0_ n1_ n2_ n3_; clear hb hbox hg) | ((with_reducible refine gate_callee (f := 9) rfl ?_); refine goesL_ (some 12) rfl rfl Tryz.func9 (by kernel_rfl) rfl #[] rfl (by (try simp only [List.map_toArray, List.map_cons, List.map_nil]); first | done | rfl | (simp only [List.length_drop, List.length_take]; rfl)) ?_; (with_reducible refine (mortmainlaw03_alive.calls k  true _ ?side1 A3.out).mono ?_); (case side1 => first | (with_reducible exact HT.out) | (with_reducible exact Tabs.drewN HT.out _) | exact Tabs.below HT.out (by repeat (first | (with_reducible first | exact HB.out | apply below_alloc | apply pw_below_drewN | apply below_drew1 | refine below_set ?_ GE205.out) | exact HB.out))); rintro e w7 ⟨rfl, hb⟩; refine ⟨_, rfl, ?_⟩; have n0_ := Aside0.mk (blk_below (g := gb205) (o := .cells #[.int .i64 a1_0, .int .i64 a1_1, .string a1_2] 23 (0, 0)) (by (with_reducible repeat (first | refine blk_drewN ?_ _ | refine blk_drew ?_ | refine blk_alloc ?_ _)); exact BK205.out) hb); have n1_ := Aside0.mk (below_step (by repeat (first | (with_reducible first | exact HB.out | apply below_alloc | apply pw_below_drewN | apply below_drew1 | refine below_set ?_ GE205.out) | exact HB.out)) hb); clear BK205; clear HB; have BK205 := n0_; have HB := n1_; clear n0_ n1_; (try clear hb); (try clear hb2); (try clear hk); (try clear hi)))
    (try simp only [Act.put, List.setIfInBounds_toArray, List.set_cons_zero, List.set_cons_succ])
    go_cut [21] (fun v21 wc => ∃ (kq : Nat) (x21_4 : Bool), v21 = .bool x21_4 ∧ Aside0 (mortmainlaw03_ValueCuts.j0 kq a0 x21_4 a1_0 a1_1 a1_2 = some r) ∧ Aside0 (kq ≤ k) ∧ Aside0 (wc.heap[gb205]? = some (.cells #[.int .i64 a1_0, .int .i64 a1_1, .string a1_2] 23 (0, 0))) ∧ Aside0 (Below w.heap.size w wc))
    case first =>
      have H := HC5.out
      clear HC5
      by_cases c8 : (a0.size : Int) > 200
      · rw [if_pos c8] at H
        have c8b0 : decide (200 < (a0.size : Int)) = true := decide_eq_true c8
        have c8b1 : decide (200 < a0.size) = true := decide_eq_true (by omega)
        clear c8
        (first | rw [c8b0] | (simp only [i64_w, i32_w]; rw [c8b0]) | skip)
        have H' := Aside0.mk H
        clear H
        go_wp2
        go_meet
        case rel => exact ⟨_, (true), (by first | rfl | (simp; done) | (simp [*]; done) | (generalize ByteArray.toList _ = l_; cases l_ <;> rfl)), H', ⟨by first | omega | exact Nat.le_refl _⟩, ⟨by (with_reducible repeat (first | refine blk_drewN ?_ _ | refine blk_drew ?_ | refine blk_alloc ?_ _)); exact BK205.out⟩, ⟨by repeat (first | (with_reducible first | exact HB.out | apply below_alloc | apply pw_below_drewN | apply below_drew1 | refine below_set ?_ GE205.out) | exact HB.out)⟩⟩
      · rw [if_neg c8] at H
        have c8b0 : decide (200 < (a0.size : Int)) = false := decide_eq_false c8
        have c8b1 : decide (200 < a0.size) = false := decide_eq_false (by omega)
        clear c8
        (first | rw [c8b0] | (simp only [i64_w, i32_w]; rw [c8b0]) | skip)
        obtain ⟨y207, hy207⟩ : ∃ y_ : List (S23), y_ = (([(⟨a1_0, a1_1, a1_2⟩ : S23)] : List (S23))) := ⟨_, rfl⟩
        replace H : ((mortmainlaw03_great.f k y207).bind fun t210 => (mortmainlaw03_ValueCuts.j0 k a0 t210 a1_0 a1_1 a1_2)) = some r := by first | (rw [hy207]; with_reducible exact H) | (have H2_ := (Option.bind_some _ _).symm.trans H; rw [hy207]; with_reducible exact H2_) | (have H2_ := (Option.bind_some _ _).symm.trans H; with_reducible exact H2_) | with_reducible exact H | (rw [hy207]; exact H) | exact H
        have Ny207 := Aside0.mk hy207
        clear hy207
        replace H := Option.bind_eq_some_iff.mp H
        obtain ⟨t210, A90, H⟩ := H
        replace H : (mortmainlaw03_ValueCuts.j0 k a0 t210 a1_0 a1_1 a1_2) = some r := H
        have A9 := Aside0.mk A90
        clear A90
        have H' := Aside0.mk H
        clear H
        have hcz10_0 : w7.cell? ⟨gb205, 0, none⟩ = some (.int .i64 a1_0) := (blk_cell BK205.out 0).trans rfl
        have hcz10_1 : w7.cell? ⟨gb205, 1, none⟩ = some (.int .i64 a1_1) := (blk_cell BK205.out 1).trans rfl
        have hcz10_2 : w7.cell? ⟨gb205, 2, none⟩ = some (.string a1_2) := (blk_cell BK205.out 2).trans rfl
        have hfz10_0 := blk_frozen BK205.out 0
        have hfz10_1 := blk_frozen BK205.out 1
        have hfz10_2 := blk_frozen BK205.out 2
        go_wp2_with (first | ((with_reducible refine gate_dst (N := 19) rfl ?_); (try (refine gate_guard (by rfl) ?_; dsimp only)); refine Kd.R_lit k23 _ 23 ?hg (N := 19) ?hd (xs := ([(⟨a1_0, a1_1, a1_2⟩ : S23)] : List (S23))) (inner := [.int .i64 a1_0, .int .i64 a1_1, .string a1_2]) (ok := fun _ => True) (okp := fun _ => True) ?hr ?hp (fun _ hk => hk) trivial (Below.refl _ _) (Nat.le_refl _) (by simp) ?_; (case hd => rfl); (case hg => rfl); (case hr => first | (go_simp; done) | (go_simp; rfl)); (case hp => exact (Reps.c3 (show Kd.M k23 _ _ _ (⟨a1_0, a1_1, a1_2⟩ : S23) [.int .i64 a1_0, .int .i64 a1_1, .string a1_2] from (k23_mkM _ _ _ (⟨a1_0, a1_1, a1_2⟩ : S23) )) (Reps.none _ _))); intro v208 w11 ho12 hb hg_ hnew_; clear hg_ hnew_; (first | rw [← Ny207.out] at ho12 | (simp only [Int.reduceToNat] at ho12; rw [← Ny207.out] at ho12)); have n0_ := Aside0.mk (Kd.R_lower (Kd.R_newB ho12 (g := gb205) (o := .cells #[.int .i64 a1_0, .int .i64 a1_1, .string a1_2] 23 (0, 0)) (by (with_reducible repeat (first | refine blk_drewN ?_ _ | refine blk_drew ?_ | refine blk_alloc ?_ _)); exact BK205.out)) (below_size (by repeat (first | (with_reducible first | exact HB.out | apply below_alloc | apply pw_below_drewN | apply below_drew1 | refine below_set ?_ GE205.out) | exact HB.out)))); have n1_ := Aside0.mk (blk_below (g := gb205) (o := .cells #[.int .i64 a1_0, .int .i64 a1_1, .string a1_2] 23 (0, 0)) (by (with_reducible repeat (first | refine blk_drewN ?_ _ | refine blk_drew ?_ | refine blk_alloc ?_ _)); exact BK205.out) hb); have n2_ := Aside0.mk (below_step (by repeat (first | (with_reducible first | exact HB.out | apply below_alloc | apply pw_below_drewN | apply below_drew1 | refine below_set ?_ GE205.out) | exact HB.out)) hb); clear BK205; clear HB; have HO209 := n0_; have BK205 := n1_; have HB := n2_; clear n0_ n1_ n2_; clear hb ho12; obtain ⟨Ao13, co13, eo13⟩ := Kd.R_slice HO209.out; subst eo13) | (go_at_call 10; (with_reducible refine (mortmainlaw03_great.calls k _ _ y207 t210 _ ?side1 ?side2 A9.out).mono ?_); (case side1 => repeat (first | exact (Kd.R_reads' HO209.out).2.2 | (with_reducible refine Kd.C_alloc ?_ _) | (with_reducible refine Kd.C_drewN ?_ _) | (with_reducible refine Kd.C_drew ?_))); (case side2 => exact (Kd.R_reads' HO209.out).2.1); rintro e w14 ⟨rfl, hb⟩; have n0_ := Aside0.mk (Kd.R_below (by (with_reducible repeat (first | apply Kd.R_alloc | apply Kd.R_drewN | apply Kd.R_drew)); exact HO209.out) hb); have n1_ := Aside0.mk (blk_below (g := gb205) (o := .cells #[.int .i64 a1_0, .int .i64 a1_1, .string a1_2] 23 (0, 0)) (by (with_reducible repeat (first | refine blk_drewN ?_ _ | refine blk_drew ?_ | refine blk_alloc ?_ _)); exact BK205.out) hb); have n2_ := Aside0.mk (below_step (by repeat (first | (with_reducible first | exact HB.out | apply below_alloc | apply pw_below_drewN | apply below_drew1 | refine below_set ?_ GE205.out) | exact HB.out)) hb); clear HO209; clear BK205; clear HB; have HO209 := n0_; have BK205 := n1_; have HB := n2_; clear n0_ n1_ n2_; (try clear hb); (try clear hb2); (try clear hk); (try clear hi)))
        go_meet
        case rel => exact ⟨_, (t210), (by first | rfl | (simp; done) | (simp [*]; done) | (generalize ByteArray.toList _ = l_; cases l_ <;> rfl)), H', ⟨by first | omega | exact Nat.le_refl _⟩, ⟨by (with_reducible repeat (first | refine blk_drewN ?_ _ | refine blk_drew ?_ | refine blk_alloc ?_ _)); exact BK205.out⟩, ⟨by repeat (first | (with_reducible first | exact HB.out | apply below_alloc | apply pw_below_drewN | apply below_drew1 | refine below_set ?_ GE205.out) | exact HB.out)⟩⟩
    case rest =>
      clear HC5
      try clear p2
      try clear c3
      try clear c4
      try clear c8
      try clear c8b0
      try clear c8b1
      try clear c9
      try clear hcz10_0
      try clear hcz10_1
      try clear hcz10_2
      try clear hfz10_0
      try clear hfz10_1
      try clear hfz10_2
      obtain ⟨kq, x21_4, rfl, HA, HJ4, BK205, HB⟩ := hcut
      cases kq with
      | zero => exact absurd HA.out (by simp [mortmainlaw03_ValueCuts.j0])
      | succ kj4 =>
        have H := HA.out
        clear HA
        simp only [mortmainlaw03_ValueCuts.j0] at H
        by_cases c15 : x21_4 = true
        · subst c15
          have H1 : (some true) = some r := by rw [if_pos rfl] at H; exact H
          clear H
          have H := H1
          clear H1
          obtain rfl := Option.some.inj H
          go_wp2
          go_ret
          exact ⟨by first | rfl | (simp [errW_none, errW_some] <;> rfl) | (simp [*, errW_none, errW_some] <;> rfl), by repeat (first | (with_reducible first | exact HB.out | apply below_alloc | apply pw_below_drewN | apply below_drew1 | refine below_set ?_ GE205.out) | exact HB.out)⟩
        · replace c15 := Bool.eq_false_iff.mpr c15
          subst c15
          have H1 : ((value_Cut.f kj4 a0).bind fun bt211 => (if bt211.2.2.2.2 = 0 then ((mortmainref03_Good.f bt211.1 bt211.2.1 bt211.2.2.1).bind fun t217 => (if t217 = true then ((mortmainref03_Key.f kj4 bt211.1 bt211.2.1 bt211.2.2.1).bind fun t218 => (if t218.size + bt211.2.2.2.1.size ≤ 9223372036854775807 then (if (t218 ++ bt211.2.2.2.1).toList = a0.toList then (mortmainlaw03_ValueCuts.j1 kj4 a0 bt211.2.2.2.2 false a1_0 a1_1 a1_2) else (mortmainlaw03_ValueCuts.j1 kj4 a0 bt211.2.2.2.2 true a1_0 a1_1 a1_2)) else (none))) else (mortmainlaw03_ValueCuts.j1 kj4 a0 bt211.2.2.2.2 true a1_0 a1_1 a1_2))) else (if bt211.2.2.2.2 = 4 then (if (!(bt211.1 == 0) || (!(bt211.2.1 == 0) || (!bt211.2.2.1.toList.isEmpty))) = true then (mortmainlaw03_ValueCuts.j1 kj4 a0 bt211.2.2.2.2 true a1_0 a1_1 a1_2) else (mortmainlaw03_ValueCuts.j1 kj4 a0 bt211.2.2.2.2 (bt211.2.2.2.1.toList != ([] : List UInt8)) a1_0 a1_1 a1_2)) else (mortmainlaw03_ValueCuts.j1 kj4 a0 bt211.2.2.2.2 true a1_0 a1_1 a1_2)))) = some r := by rw [if_neg (show ¬ (false = true) by decide)] at H; exact H
          clear H
          have H := H1
          clear H1
          replace H := Option.bind_eq_some_iff.mp H
          obtain ⟨⟨t211, t212, t213, t214, t215⟩, A160, H⟩ := H
          replace H : (if t215 = 0 then ((mortmainref03_Good.f t211 t212 t213).bind fun t217 => (if t217 = true then ((mortmainref03_Key.f kj4 t211 t212 t213).bind fun t218 => (if t218.size + t214.size ≤ 9223372036854775807 then (if (t218 ++ t214).toList = a0.toList then (mortmainlaw03_ValueCuts.j1 kj4 a0 t215 false a1_0 a1_1 a1_2) else (mortmainlaw03_ValueCuts.j1 kj4 a0 t215 true a1_0 a1_1 a1_2)) else (none))) else (mortmainlaw03_ValueCuts.j1 kj4 a0 t215 true a1_0 a1_1 a1_2))) else (if t215 = 4 then (if (!(t211 == 0) || (!(t212 == 0) || (!t213.toList.isEmpty))) = true then (mortmainlaw03_ValueCuts.j1 kj4 a0 t215 true a1_0 a1_1 a1_2) else (mortmainlaw03_ValueCuts.j1 kj4 a0 t215 (t214.toList != ([] : List UInt8)) a1_0 a1_1 a1_2)) else (mortmainlaw03_ValueCuts.j1 kj4 a0 t215 true a1_0 a1_1 a1_2))) = some r := H
          have A16 := Aside0.mk A160
          clear A160
          have HC17 := Aside0.mk H
          clear H
          go_upto_region 6 with (first | ((with_reducible refine gate_callee (f := 15) rfl ?_); refine goesL_ (some 24) rfl rfl Tryz.func15 (by kernel_rfl) rfl #[.string a0] rfl (by (try simp only [List.map_toArray, List.map_cons, List.map_nil]); first | done | rfl | (simp only [List.length_drop, List.length_take]; rfl)) ?_; (with_reducible refine (value_Cut.calls kj4 a0 t211 t212 t213 t214 t215 _ A16.out).mono ?_); rintro e w18 ⟨rfl, hb⟩; refine ⟨_, rfl, ?_⟩; have n0_ := Aside0.mk (blk_below (g := gb205) (o := .cells #[.int .i64 a1_0, .int .i64 a1_1, .string a1_2] 23 (0, 0)) (by (with_reducible repeat (first | refine blk_drewN ?_ _ | refine blk_drew ?_ | refine blk_alloc ?_ _)); exact BK205.out) hb); have n1_ := Aside0.mk (below_step (by repeat (first | (with_reducible first | exact HB.out | apply below_alloc | apply pw_below_drewN | apply below_drew1 | refine below_set ?_ GE205.out) | exact HB.out)) hb); clear BK205; clear HB; have BK205 := n0_; have HB := n1_; clear n0_ n1_; (try clear hb); (try clear hb2); (try clear hk); (try clear hi)) | ((with_reducible refine gate_dst (N := 5) rfl ?_); (try (refine gate_guard (by rfl) ?_; dsimp only)); refine box_event ?hg (N := 5) ?hd (cs := #[.int .i64 0, .int .i64 0, .string (⟨#[]⟩ : ByteArray)]) (t := 23) ?hr ?_; (case hd => rfl); (case hg => rfl); (case hr => first | (go_simp; done) | (go_simp; rfl)); intro gb216 hg w19 hbox hb; have n0_ := Aside0.mk (blk_below (g := gb205) (o := .cells #[.int .i64 a1_0, .int .i64 a1_1, .string a1_2] 23 (0, 0)) (by (with_reducible repeat (first | refine blk_drewN ?_ _ | refine blk_drew ?_ | refine blk_alloc ?_ _)); exact BK205.out) hb); have n1_ := Aside0.mk (below_step (by repeat (first | (with_reducible first | exact HB.out | apply below_alloc | apply pw_below_drewN | apply below_drew1 | refine below_set ?_ GE205.out) | exact HB.out)) hb); have n2_ := Aside0.mk (hbox); have n3_ := Aside0.mk ((by rw [hg]; exact (below_size (by repeat (first | (with_reducible first | exact HB.out | apply below_alloc | apply pw_below_drewN | apply below_drew1 | refine below_set ?_ GE205.out) | exact HB.out))) : w.heap.size ≤ gb216)); have n4_ := Aside0.mk ((by rw [hg]; exact (below_size (by repeat (first | (with_reducible first | exact HB.out | apply below_alloc | apply pw_below_drewN | apply below_drew1 | refine below_set ?_ GE205.out) | exact HB.out))) : w.heap.size ≤ gb216)); have n5_ := Aside0.mk ((by rw [hg]; exact Nat.ne_of_lt (blk_lt (g := gb205) (o := .cells #[.int .i64 a1_0, .int .i64 a1_1, .string a1_2] 23 (0, 0)) (by (with_reducible repeat (first | refine blk_drewN ?_ _ | refine blk_drew ?_ | refine blk_alloc ?_ _)); exact BK205.out)) : gb205 ≠ gb216)); have n6_ := Aside0.mk ((by rw [hg]; exact Nat.ne_of_gt (blk_lt (g := gb205) (o := .cells #[.int .i64 a1_0, .int .i64 a1_1, .string a1_2] 23 (0, 0)) (by (with_reducible repeat (first | refine blk_drewN ?_ _ | refine blk_drew ?_ | refine blk_alloc ?_ _)); exact BK205.out)) : gb216 ≠ gb205)); clear BK205; clear HB; have BK205 := n0_; have HB := n1_; have BK216 := n2_; have GW216 := n3_; have GE216 := n4_; have NB205_216 := n5_; have NB216_205 := n6_; clear n0_ n1_ n2_ n3_ n4_ n5_ n6_; clear hb hbox hg; have hnb20 := NB216_205.out; have hnc20 := NB205_216.out; have hcz21_0 : w19.cell? ⟨gb216, 0, none⟩ = some (.int .i64 0) := (blk_cell BK216.out 0).trans rfl; have hcz21_1 : w19.cell? ⟨gb216, 1, none⟩ = some (.int .i64 0) := (blk_cell BK216.out 1).trans rfl; have hcz21_2 : w19.cell? ⟨gb216, 2, none⟩ = some (.string (⟨#[]⟩ : ByteArray)) := (blk_cell BK216.out 2).trans rfl; have hfz21_0 := blk_frozen BK216.out 0; have hfz21_1 := blk_frozen BK216.out 1; have hfz21_2 := blk_frozen BK216.out 2))
          (try simp only [Act.put, List.setIfInBounds_toArray, List.set_cons_zero, List.set_cons_succ])
          go_cut [59] (fun v59 wc => ∃ (kq : Nat) (x59_16 : Bool), v59 = .bool x59_16 ∧ Aside0 (mortmainlaw03_ValueCuts.j1 kq a0 t215 x59_16 a1_0 a1_1 a1_2 = some r) ∧ Aside0 (kq ≤ kj4) ∧ Aside0 (wc.heap[gb205]? = some (.cells #[.int .i64 a1_0, .int .i64 a1_1, .string a1_2] 23 (0, 0))) ∧ Aside0 (wc.heap[gb216]? = some (.cells #[.int .i64 t211, .int .i64 t212, .string t213] 23 (0, 0))) ∧ Aside0 (Below w.heap.size w wc))
          case first =>
            have H := HC17.out
            clear HC17
            by_cases c22 : t215 = 0
            · rw [if_pos c22] at H
              have c22b0 : (t215 == 0) = true := beq_iff_eq.mpr c22
              have c22b1 : (t215 != 0) = false := bne_eq_false_iff_eq.mpr c22
              clear c22
              (first | rw [c22b0] | (simp only [i64_w, i32_w]; rw [c22b0]) | skip)
              replace H := Option.bind_eq_some_iff.mp H
              obtain ⟨t217, A230, H⟩ := H
              replace H : (if t217 = true then ((mortmainref03_Key.f kj4 t211 t212 t213).bind fun t218 => (if t218.size + t214.size ≤ 9223372036854775807 then (if (t218 ++ t214).toList = a0.toList then (mortmainlaw03_ValueCuts.j1 kj4 a0 t215 false a1_0 a1_1 a1_2) else (mortmainlaw03_ValueCuts.j1 kj4 a0 t215 true a1_0 a1_1 a1_2)) else (none))) else (mortmainlaw03_ValueCuts.j1 kj4 a0 t215 true a1_0 a1_1 a1_2)) = some r := H
              have A23 := Aside0.mk A230
              clear A230
              by_cases c24 : t217 = true
              · subst c24
                have H1 : ((mortmainref03_Key.f kj4 t211 t212 t213).bind fun t218 => (if t218.size + t214.size ≤ 9223372036854775807 then (if (t218 ++ t214).toList = a0.toList then (mortmainlaw03_ValueCuts.j1 kj4 a0 t215 false a1_0 a1_1 a1_2) else (mortmainlaw03_ValueCuts.j1 kj4 a0 t215 true a1_0 a1_1 a1_2)) else (none))) = some r := by rw [if_pos rfl] at H; exact H
                clear H
                have H := H1
                clear H1
                replace H := Option.bind_eq_some_iff.mp H
                obtain ⟨t218, A250, H⟩ := H
                replace H : (if t218.size + t214.size ≤ 9223372036854775807 then (if (t218 ++ t214).toList = a0.toList then (mortmainlaw03_ValueCuts.j1 kj4 a0 t215 false a1_0 a1_1 a1_2) else (mortmainlaw03_ValueCuts.j1 kj4 a0 t215 true a1_0 a1_1 a1_2)) else (none)) = some r := H
                have A25 := Aside0.mk A250
                clear A250
                by_cases c26 : t218.size + t214.size ≤ 9223372036854775807
                · rw [if_pos c26] at H
                  have c26b0 := eq_true c26
                  have c26b1 : decide (t218.size + t214.size ≤ 9223372036854775807) = true := decide_eq_true c26
                  try have c26b2 : (9223372036854775807 < t218.size + t214.size) = False := eq_false (Nat.not_lt.2 c26)
                  by_cases c27 : (t218 ++ t214).toList = a0.toList
                  · rw [if_pos c27] at H
                    have c27b0 : ((t218 ++ t214).toList == a0.toList) = true := beq_iff_eq.mpr c27
                    have c27b1 : ((t218 ++ t214).toList != a0.toList) = false := bne_eq_false_iff_eq.mpr c27
                    clear c27
                    have H' := Aside0.mk H
                    clear H
                    have hnb28 := NB216_205.out
                    have hnc28 := NB205_216.out
                    have hcz29_0 : w19.cell? ⟨gb216, 0, none⟩ = some (.int .i64 0) := (blk_cell BK216.out 0).trans rfl
                    have hcz29_1 : w19.cell? ⟨gb216, 1, none⟩ = some (.int .i64 0) := (blk_cell BK216.out 1).trans rfl
                    have hcz29_2 : w19.cell? ⟨gb216, 2, none⟩ = some (.string (⟨#[]⟩ : ByteArray)) := (blk_cell BK216.out 2).trans rfl
                    have hfz29_0 := blk_frozen BK216.out 0
                    have hfz29_1 := blk_frozen BK216.out 1
                    have hfz29_2 := blk_frozen BK216.out 2
                    go_wp2_with (first | (go_at_call 13; (with_reducible refine (mortmainref03_Good.calls t211 t212 t213 true _ A23.out).mono ?_); rintro e w30 ⟨rfl, hb⟩; have n0_ := Aside0.mk (blk_below (g := gb205) (o := .cells #[.int .i64 a1_0, .int .i64 a1_1, .string a1_2] 23 (0, 0)) (by (with_reducible repeat (first | refine blk_drewN ?_ _ | refine blk_drew ?_ | refine blk_alloc ?_ _)); refine blk_far ?_ NB205_216.out _; (with_reducible repeat (first | refine blk_drewN ?_ _ | refine blk_drew ?_ | refine blk_alloc ?_ _)); refine blk_far ?_ NB205_216.out _; (with_reducible repeat (first | refine blk_drewN ?_ _ | refine blk_drew ?_ | refine blk_alloc ?_ _)); refine blk_far ?_ NB205_216.out _; (with_reducible repeat (first | refine blk_drewN ?_ _ | refine blk_drew ?_ | refine blk_alloc ?_ _)); exact BK205.out) hb); have n1_ := Aside0.mk (blk_below (g := gb216) (o := .cells #[.int .i64 t211, .int .i64 t212, .string t213] 23 (0, 0)) (by (with_reducible repeat (first | refine blk_drewN ?_ _ | refine blk_drew ?_ | refine blk_alloc ?_ _)); refine blk_put (cs := #[.int .i64 t211, .int .i64 t212, .string (⟨#[]⟩ : ByteArray)]) ?_ 2 _ rfl; (with_reducible repeat (first | refine blk_drewN ?_ _ | refine blk_drew ?_ | refine blk_alloc ?_ _)); refine blk_put (cs := #[.int .i64 t211, .int .i64 0, .string (⟨#[]⟩ : ByteArray)]) ?_ 1 _ rfl; (with_reducible repeat (first | refine blk_drewN ?_ _ | refine blk_drew ?_ | refine blk_alloc ?_ _)); refine blk_put (cs := #[.int .i64 0, .int .i64 0, .string (⟨#[]⟩ : ByteArray)]) ?_ 0 _ rfl; (with_reducible repeat (first | refine blk_drewN ?_ _ | refine blk_drew ?_ | refine blk_alloc ?_ _)); exact BK216.out) hb); have n2_ := Aside0.mk (below_step (by repeat (first | (with_reducible first | exact HB.out | apply below_alloc | apply pw_below_drewN | apply below_drew1 | refine below_set ?_ GE205.out | refine below_set ?_ GE216.out) | exact HB.out)) hb); clear BK205; clear BK216; clear HB; have BK205 := n0_; have BK216 := n1_; have HB := n2_; clear n0_ n1_ n2_; (try clear hb); (try clear hb2); (try clear hk); (try clear hi); have hcz31_0 : w30.cell? ⟨gb216, 0, none⟩ = some (.int .i64 t211) := (blk_cell BK216.out 0).trans rfl; have hcz31_1 : w30.cell? ⟨gb216, 1, none⟩ = some (.int .i64 t212) := (blk_cell BK216.out 1).trans rfl; have hcz31_2 : w30.cell? ⟨gb216, 2, none⟩ = some (.string t213) := (blk_cell BK216.out 2).trans rfl; have hfz31_0 := blk_frozen BK216.out 0; have hfz31_1 := blk_frozen BK216.out 1; have hfz31_2 := blk_frozen BK216.out 2) | (go_at_call 12; (with_reducible refine (mortmainref03_Key.calls kj4 t211 t212 t213 t218 _ A25.out).mono ?_); rintro e w32 ⟨rfl, hb⟩; have n0_ := Aside0.mk (blk_below (g := gb205) (o := .cells #[.int .i64 a1_0, .int .i64 a1_1, .string a1_2] 23 (0, 0)) (by (with_reducible repeat (first | refine blk_drewN ?_ _ | refine blk_drew ?_ | refine blk_alloc ?_ _)); exact BK205.out) hb); have n1_ := Aside0.mk (blk_below (g := gb216) (o := .cells #[.int .i64 t211, .int .i64 t212, .string t213] 23 (0, 0)) (by (with_reducible repeat (first | refine blk_drewN ?_ _ | refine blk_drew ?_ | refine blk_alloc ?_ _)); exact BK216.out) hb); have n2_ := Aside0.mk (below_step (by repeat (first | (with_reducible first | exact HB.out | apply below_alloc | apply pw_below_drewN | apply below_drew1 | refine below_set ?_ GE205.out | refine below_set ?_ GE216.out) | exact HB.out)) hb); clear BK205; clear BK216; clear HB; have BK205 := n0_; have BK216 := n1_; have HB := n2_; clear n0_ n1_ n2_; (try clear hb); (try clear hb2); (try clear hk); (try clear hi)))
                    go_meet
                    case rel => exact ⟨_, (false), (by first | rfl | (simp; done) | (simp [*]; done) | (generalize ByteArray.toList _ = l_; cases l_ <;> rfl)), H', ⟨by have := HJ4.out; first | omega | exact Nat.le_refl _⟩, ⟨by (with_reducible repeat (first | refine blk_drewN ?_ _ | refine blk_drew ?_ | refine blk_alloc ?_ _)); exact BK205.out⟩, ⟨by (with_reducible repeat (first | refine blk_drewN ?_ _ | refine blk_drew ?_ | refine blk_alloc ?_ _)); exact BK216.out⟩, ⟨by repeat (first | (with_reducible first | exact HB.out | apply below_alloc | apply pw_below_drewN | apply below_drew1 | refine below_set ?_ GE205.out | refine below_set ?_ GE216.out) | exact HB.out)⟩⟩
                  · rw [if_neg c27] at H
                    have c27b0 : ((t218 ++ t214).toList == a0.toList) = false := beq_eq_false_iff_ne.mpr c27
                    have c27b1 : ((t218 ++ t214).toList != a0.toList) = true := bne_iff_ne.mpr c27
                    have H' := Aside0.mk H
                    clear H
                    have hnb33 := NB216_205.out
                    have hnc33 := NB205_216.out
                    have hcz34_0 : w19.cell? ⟨gb216, 0, none⟩ = some (.int .i64 0) := (blk_cell BK216.out 0).trans rfl
                    have hcz34_1 : w19.cell? ⟨gb216, 1, none⟩ = some (.int .i64 0) := (blk_cell BK216.out 1).trans rfl
                    have hcz34_2 : w19.cell? ⟨gb216, 2, none⟩ = some (.string (⟨#[]⟩ : ByteArray)) := (blk_cell BK216.out 2).trans rfl
                    have hfz34_0 := blk_frozen BK216.out 0
                    have hfz34_1 := blk_frozen BK216.out 1
                    have hfz34_2 := blk_frozen BK216.out 2
                    go_wp2_with (first | (go_at_call 13; (with_reducible refine (mortmainref03_Good.calls t211 t212 t213 true _ A23.out).mono ?_); rintro e w35 ⟨rfl, hb⟩; have n0_ := Aside0.mk (blk_below (g := gb205) (o := .cells #[.int .i64 a1_0, .int .i64 a1_1, .string a1_2] 23 (0, 0)) (by (with_reducible repeat (first | refine blk_drewN ?_ _ | refine blk_drew ?_ | refine blk_alloc ?_ _)); refine blk_far ?_ NB205_216.out _; (with_reducible repeat (first | refine blk_drewN ?_ _ | refine blk_drew ?_ | refine blk_alloc ?_ _)); refine blk_far ?_ NB205_216.out _; (with_reducible repeat (first | refine blk_drewN ?_ _ | refine blk_drew ?_ | refine blk_alloc ?_ _)); refine blk_far ?_ NB205_216.out _; (with_reducible repeat (first | refine blk_drewN ?_ _ | refine blk_drew ?_ | refine blk_alloc ?_ _)); exact BK205.out) hb); have n1_ := Aside0.mk (blk_below (g := gb216) (o := .cells #[.int .i64 t211, .int .i64 t212, .string t213] 23 (0, 0)) (by (with_reducible repeat (first | refine blk_drewN ?_ _ | refine blk_drew ?_ | refine blk_alloc ?_ _)); refine blk_put (cs := #[.int .i64 t211, .int .i64 t212, .string (⟨#[]⟩ : ByteArray)]) ?_ 2 _ rfl; (with_reducible repeat (first | refine blk_drewN ?_ _ | refine blk_drew ?_ | refine blk_alloc ?_ _)); refine blk_put (cs := #[.int .i64 t211, .int .i64 0, .string (⟨#[]⟩ : ByteArray)]) ?_ 1 _ rfl; (with_reducible repeat (first | refine blk_drewN ?_ _ | refine blk_drew ?_ | refine blk_alloc ?_ _)); refine blk_put (cs := #[.int .i64 0, .int .i64 0, .string (⟨#[]⟩ : ByteArray)]) ?_ 0 _ rfl; (with_reducible repeat (first | refine blk_drewN ?_ _ | refine blk_drew ?_ | refine blk_alloc ?_ _)); exact BK216.out) hb); have n2_ := Aside0.mk (below_step (by repeat (first | (with_reducible first | exact HB.out | apply below_alloc | apply pw_below_drewN | apply below_drew1 | refine below_set ?_ GE205.out | refine below_set ?_ GE216.out) | exact HB.out)) hb); clear BK205; clear BK216; clear HB; have BK205 := n0_; have BK216 := n1_; have HB := n2_; clear n0_ n1_ n2_; (try clear hb); (try clear hb2); (try clear hk); (try clear hi); have hcz36_0 : w35.cell? ⟨gb216, 0, none⟩ = some (.int .i64 t211) := (blk_cell BK216.out 0).trans rfl; have hcz36_1 : w35.cell? ⟨gb216, 1, none⟩ = some (.int .i64 t212) := (blk_cell BK216.out 1).trans rfl; have hcz36_2 : w35.cell? ⟨gb216, 2, none⟩ = some (.string t213) := (blk_cell BK216.out 2).trans rfl; have hfz36_0 := blk_frozen BK216.out 0; have hfz36_1 := blk_frozen BK216.out 1; have hfz36_2 := blk_frozen BK216.out 2) | (go_at_call 12; (with_reducible refine (mortmainref03_Key.calls kj4 t211 t212 t213 t218 _ A25.out).mono ?_); rintro e w37 ⟨rfl, hb⟩; have n0_ := Aside0.mk (blk_below (g := gb205) (o := .cells #[.int .i64 a1_0, .int .i64 a1_1, .string a1_2] 23 (0, 0)) (by (with_reducible repeat (first | refine blk_drewN ?_ _ | refine blk_drew ?_ | refine blk_alloc ?_ _)); exact BK205.out) hb); have n1_ := Aside0.mk (blk_below (g := gb216) (o := .cells #[.int .i64 t211, .int .i64 t212, .string t213] 23 (0, 0)) (by (with_reducible repeat (first | refine blk_drewN ?_ _ | refine blk_drew ?_ | refine blk_alloc ?_ _)); exact BK216.out) hb); have n2_ := Aside0.mk (below_step (by repeat (first | (with_reducible first | exact HB.out | apply below_alloc | apply pw_below_drewN | apply below_drew1 | refine below_set ?_ GE205.out | refine below_set ?_ GE216.out) | exact HB.out)) hb); clear BK205; clear BK216; clear HB; have BK205 := n0_; have BK216 := n1_; have HB := n2_; clear n0_ n1_ n2_; (try clear hb); (try clear hb2); (try clear hk); (try clear hi)))
                    go_meet
                    case rel => exact ⟨_, (true), (by first | rfl | (simp; done) | (simp [*]; done) | (generalize ByteArray.toList _ = l_; cases l_ <;> rfl)), H', ⟨by have := HJ4.out; first | omega | exact Nat.le_refl _⟩, ⟨by (with_reducible repeat (first | refine blk_drewN ?_ _ | refine blk_drew ?_ | refine blk_alloc ?_ _)); exact BK205.out⟩, ⟨by (with_reducible repeat (first | refine blk_drewN ?_ _ | refine blk_drew ?_ | refine blk_alloc ?_ _)); exact BK216.out⟩, ⟨by repeat (first | (with_reducible first | exact HB.out | apply below_alloc | apply pw_below_drewN | apply below_drew1 | refine below_set ?_ GE205.out | refine below_set ?_ GE216.out) | exact HB.out)⟩⟩
                · rw [if_neg c26] at H
                  exact absurd H (by simp)
              · replace c24 := Bool.eq_false_iff.mpr c24
                subst c24
                have H1 : (mortmainlaw03_ValueCuts.j1 kj4 a0 t215 true a1_0 a1_1 a1_2) = some r := by rw [if_neg (show ¬ (false = true) by decide)] at H; exact H
                clear H
                have H := H1
                clear H1
                have H' := Aside0.mk H
                clear H
                have hnb38 := NB216_205.out
                have hnc38 := NB205_216.out
                have hcz39_0 : w19.cell? ⟨gb216, 0, none⟩ = some (.int .i64 0) := (blk_cell BK216.out 0).trans rfl
                have hcz39_1 : w19.cell? ⟨gb216, 1, none⟩ = some (.int .i64 0) := (blk_cell BK216.out 1).trans rfl
                have hcz39_2 : w19.cell? ⟨gb216, 2, none⟩ = some (.string (⟨#[]⟩ : ByteArray)) := (blk_cell BK216.out 2).trans rfl
                have hfz39_0 := blk_frozen BK216.out 0
                have hfz39_1 := blk_frozen BK216.out 1
                have hfz39_2 := blk_frozen BK216.out 2
                go_wp2_with (first | (go_at_call 13; (with_reducible refine (mortmainref03_Good.calls t211 t212 t213 false _ A23.out).mono ?_); rintro e w40 ⟨rfl, hb⟩; have n0_ := Aside0.mk (blk_below (g := gb205) (o := .cells #[.int .i64 a1_0, .int .i64 a1_1, .string a1_2] 23 (0, 0)) (by (with_reducible repeat (first | refine blk_drewN ?_ _ | refine blk_drew ?_ | refine blk_alloc ?_ _)); refine blk_far ?_ NB205_216.out _; (with_reducible repeat (first | refine blk_drewN ?_ _ | refine blk_drew ?_ | refine blk_alloc ?_ _)); refine blk_far ?_ NB205_216.out _; (with_reducible repeat (first | refine blk_drewN ?_ _ | refine blk_drew ?_ | refine blk_alloc ?_ _)); refine blk_far ?_ NB205_216.out _; (with_reducible repeat (first | refine blk_drewN ?_ _ | refine blk_drew ?_ | refine blk_alloc ?_ _)); exact BK205.out) hb); have n1_ := Aside0.mk (blk_below (g := gb216) (o := .cells #[.int .i64 t211, .int .i64 t212, .string t213] 23 (0, 0)) (by (with_reducible repeat (first | refine blk_drewN ?_ _ | refine blk_drew ?_ | refine blk_alloc ?_ _)); refine blk_put (cs := #[.int .i64 t211, .int .i64 t212, .string (⟨#[]⟩ : ByteArray)]) ?_ 2 _ rfl; (with_reducible repeat (first | refine blk_drewN ?_ _ | refine blk_drew ?_ | refine blk_alloc ?_ _)); refine blk_put (cs := #[.int .i64 t211, .int .i64 0, .string (⟨#[]⟩ : ByteArray)]) ?_ 1 _ rfl; (with_reducible repeat (first | refine blk_drewN ?_ _ | refine blk_drew ?_ | refine blk_alloc ?_ _)); refine blk_put (cs := #[.int .i64 0, .int .i64 0, .string (⟨#[]⟩ : ByteArray)]) ?_ 0 _ rfl; (with_reducible repeat (first | refine blk_drewN ?_ _ | refine blk_drew ?_ | refine blk_alloc ?_ _)); exact BK216.out) hb); have n2_ := Aside0.mk (below_step (by repeat (first | (with_reducible first | exact HB.out | apply below_alloc | apply pw_below_drewN | apply below_drew1 | refine below_set ?_ GE205.out | refine below_set ?_ GE216.out) | exact HB.out)) hb); clear BK205; clear BK216; clear HB; have BK205 := n0_; have BK216 := n1_; have HB := n2_; clear n0_ n1_ n2_; (try clear hb); (try clear hb2); (try clear hk); (try clear hi)))
                go_meet
                case rel => exact ⟨_, (true), (by first | rfl | (simp; done) | (simp [*]; done) | (generalize ByteArray.toList _ = l_; cases l_ <;> rfl)), H', ⟨by have := HJ4.out; first | omega | exact Nat.le_refl _⟩, ⟨by (with_reducible repeat (first | refine blk_drewN ?_ _ | refine blk_drew ?_ | refine blk_alloc ?_ _)); exact BK205.out⟩, ⟨by (with_reducible repeat (first | refine blk_drewN ?_ _ | refine blk_drew ?_ | refine blk_alloc ?_ _)); exact BK216.out⟩, ⟨by repeat (first | (with_reducible first | exact HB.out | apply below_alloc | apply pw_below_drewN | apply below_drew1 | refine below_set ?_ GE205.out | refine below_set ?_ GE216.out) | exact HB.out)⟩⟩
            · rw [if_neg c22] at H
              have c22b0 : (t215 == 0) = false := beq_eq_false_iff_ne.mpr c22
              have c22b1 : (t215 != 0) = true := bne_iff_ne.mpr c22
              (first | rw [c22b0] | (simp only [i64_w, i32_w]; rw [c22b0]) | skip)
              by_cases c41 : t215 = 4
              · rw [if_pos c41] at H
                have c41b0 : (t215 == 4) = true := beq_iff_eq.mpr c41
                have c41b1 : (t215 != 4) = false := bne_eq_false_iff_eq.mpr c41
                clear c41
                by_cases c42 : (!(t211 == 0) || (!(t212 == 0) || (!t213.toList.isEmpty))) = true
                · rw [if_pos c42] at H
                  have c42b0 : (!(t211 == 0) || (!(t212 == 0) || (!t213.toList.isEmpty))) = true := c42
                  clear c42
                  have H' := Aside0.mk H
                  clear H
                  have hnb43 := NB216_205.out
                  have hnc43 := NB205_216.out
                  have hcz44_0 : w19.cell? ⟨gb216, 0, none⟩ = some (.int .i64 0) := (blk_cell BK216.out 0).trans rfl
                  have hcz44_1 : w19.cell? ⟨gb216, 1, none⟩ = some (.int .i64 0) := (blk_cell BK216.out 1).trans rfl
                  have hcz44_2 : w19.cell? ⟨gb216, 2, none⟩ = some (.string (⟨#[]⟩ : ByteArray)) := (blk_cell BK216.out 2).trans rfl
                  have hfz44_0 := blk_frozen BK216.out 0
                  have hfz44_1 := blk_frozen BK216.out 1
                  have hfz44_2 := blk_frozen BK216.out 2
                  go_wp2
                  go_meet
                  case rel => exact ⟨_, (true), (by first | rfl | (simp; done) | (simp [*]; done) | (generalize ByteArray.toList _ = l_; cases l_ <;> rfl)), H', ⟨by have := HJ4.out; first | omega | exact Nat.le_refl _⟩, ⟨by (with_reducible repeat (first | refine blk_drewN ?_ _ | refine blk_drew ?_ | refine blk_alloc ?_ _)); refine blk_far ?_ NB205_216.out _; (with_reducible repeat (first | refine blk_drewN ?_ _ | refine blk_drew ?_ | refine blk_alloc ?_ _)); refine blk_far ?_ NB205_216.out _; (with_reducible repeat (first | refine blk_drewN ?_ _ | refine blk_drew ?_ | refine blk_alloc ?_ _)); refine blk_far ?_ NB205_216.out _; (with_reducible repeat (first | refine blk_drewN ?_ _ | refine blk_drew ?_ | refine blk_alloc ?_ _)); exact BK205.out⟩, ⟨by (with_reducible repeat (first | refine blk_drewN ?_ _ | refine blk_drew ?_ | refine blk_alloc ?_ _)); refine blk_put (cs := #[.int .i64 t211, .int .i64 t212, .string (⟨#[]⟩ : ByteArray)]) ?_ 2 _ rfl; (with_reducible repeat (first | refine blk_drewN ?_ _ | refine blk_drew ?_ | refine blk_alloc ?_ _)); refine blk_put (cs := #[.int .i64 t211, .int .i64 0, .string (⟨#[]⟩ : ByteArray)]) ?_ 1 _ rfl; (with_reducible repeat (first | refine blk_drewN ?_ _ | refine blk_drew ?_ | refine blk_alloc ?_ _)); refine blk_put (cs := #[.int .i64 0, .int .i64 0, .string (⟨#[]⟩ : ByteArray)]) ?_ 0 _ rfl; (with_reducible repeat (first | refine blk_drewN ?_ _ | refine blk_drew ?_ | refine blk_alloc ?_ _)); exact BK216.out⟩, ⟨by repeat (first | (with_reducible first | exact HB.out | apply below_alloc | apply pw_below_drewN | apply below_drew1 | refine below_set ?_ GE205.out | refine below_set ?_ GE216.out) | exact HB.out)⟩⟩
                · rw [if_neg c42] at H
                  have c42b0 : (!(t211 == 0) || (!(t212 == 0) || (!t213.toList.isEmpty))) = false := by simpa using c42
                  clear c42
                  have H' := Aside0.mk H
                  clear H
                  have hnb45 := NB216_205.out
                  have hnc45 := NB205_216.out
                  have hcz46_0 : w19.cell? ⟨gb216, 0, none⟩ = some (.int .i64 0) := (blk_cell BK216.out 0).trans rfl
                  have hcz46_1 : w19.cell? ⟨gb216, 1, none⟩ = some (.int .i64 0) := (blk_cell BK216.out 1).trans rfl
                  have hcz46_2 : w19.cell? ⟨gb216, 2, none⟩ = some (.string (⟨#[]⟩ : ByteArray)) := (blk_cell BK216.out 2).trans rfl
                  have hfz46_0 := blk_frozen BK216.out 0
                  have hfz46_1 := blk_frozen BK216.out 1
                  have hfz46_2 := blk_frozen BK216.out 2
                  go_wp2
                  go_meet
                  case rel => exact ⟨_, ((t214.toList != ([] : List UInt8))), (by first | rfl | (simp; done) | (simp [*]; done) | (generalize ByteArray.toList _ = l_; cases l_ <;> rfl)), H', ⟨by have := HJ4.out; first | omega | exact Nat.le_refl _⟩, ⟨by (with_reducible repeat (first | refine blk_drewN ?_ _ | refine blk_drew ?_ | refine blk_alloc ?_ _)); refine blk_far ?_ NB205_216.out _; (with_reducible repeat (first | refine blk_drewN ?_ _ | refine blk_drew ?_ | refine blk_alloc ?_ _)); refine blk_far ?_ NB205_216.out _; (with_reducible repeat (first | refine blk_drewN ?_ _ | refine blk_drew ?_ | refine blk_alloc ?_ _)); refine blk_far ?_ NB205_216.out _; (with_reducible repeat (first | refine blk_drewN ?_ _ | refine blk_drew ?_ | refine blk_alloc ?_ _)); exact BK205.out⟩, ⟨by (with_reducible repeat (first | refine blk_drewN ?_ _ | refine blk_drew ?_ | refine blk_alloc ?_ _)); refine blk_put (cs := #[.int .i64 t211, .int .i64 t212, .string (⟨#[]⟩ : ByteArray)]) ?_ 2 _ rfl; (with_reducible repeat (first | refine blk_drewN ?_ _ | refine blk_drew ?_ | refine blk_alloc ?_ _)); refine blk_put (cs := #[.int .i64 t211, .int .i64 0, .string (⟨#[]⟩ : ByteArray)]) ?_ 1 _ rfl; (with_reducible repeat (first | refine blk_drewN ?_ _ | refine blk_drew ?_ | refine blk_alloc ?_ _)); refine blk_put (cs := #[.int .i64 0, .int .i64 0, .string (⟨#[]⟩ : ByteArray)]) ?_ 0 _ rfl; (with_reducible repeat (first | refine blk_drewN ?_ _ | refine blk_drew ?_ | refine blk_alloc ?_ _)); exact BK216.out⟩, ⟨by repeat (first | (with_reducible first | exact HB.out | apply below_alloc | apply pw_below_drewN | apply below_drew1 | refine below_set ?_ GE205.out | refine below_set ?_ GE216.out) | exact HB.out)⟩⟩
              · rw [if_neg c41] at H
                have c41b0 : (t215 == 4) = false := beq_eq_false_iff_ne.mpr c41
                have c41b1 : (t215 != 4) = true := bne_iff_ne.mpr c41
                have H' := Aside0.mk H
                clear H
                go_wp2
                go_meet
                case rel => exact ⟨_, (true), (by first | rfl | (simp; done) | (simp [*]; done) | (generalize ByteArray.toList _ = l_; cases l_ <;> rfl)), H', ⟨by have := HJ4.out; first | omega | exact Nat.le_refl _⟩, ⟨by (with_reducible repeat (first | refine blk_drewN ?_ _ | refine blk_drew ?_ | refine blk_alloc ?_ _)); refine blk_far ?_ NB205_216.out _; (with_reducible repeat (first | refine blk_drewN ?_ _ | refine blk_drew ?_ | refine blk_alloc ?_ _)); refine blk_far ?_ NB205_216.out _; (with_reducible repeat (first | refine blk_drewN ?_ _ | refine blk_drew ?_ | refine blk_alloc ?_ _)); refine blk_far ?_ NB205_216.out _; (with_reducible repeat (first | refine blk_drewN ?_ _ | refine blk_drew ?_ | refine blk_alloc ?_ _)); exact BK205.out⟩, ⟨by (with_reducible repeat (first | refine blk_drewN ?_ _ | refine blk_drew ?_ | refine blk_alloc ?_ _)); refine blk_put (cs := #[.int .i64 t211, .int .i64 t212, .string (⟨#[]⟩ : ByteArray)]) ?_ 2 _ rfl; (with_reducible repeat (first | refine blk_drewN ?_ _ | refine blk_drew ?_ | refine blk_alloc ?_ _)); refine blk_put (cs := #[.int .i64 t211, .int .i64 0, .string (⟨#[]⟩ : ByteArray)]) ?_ 1 _ rfl; (with_reducible repeat (first | refine blk_drewN ?_ _ | refine blk_drew ?_ | refine blk_alloc ?_ _)); refine blk_put (cs := #[.int .i64 0, .int .i64 0, .string (⟨#[]⟩ : ByteArray)]) ?_ 0 _ rfl; (with_reducible repeat (first | refine blk_drewN ?_ _ | refine blk_drew ?_ | refine blk_alloc ?_ _)); exact BK216.out⟩, ⟨by repeat (first | (with_reducible first | exact HB.out | apply below_alloc | apply pw_below_drewN | apply below_drew1 | refine below_set ?_ GE205.out | refine below_set ?_ GE216.out) | exact HB.out)⟩⟩
          case rest =>
            clear HC17
            try clear c1
            try clear c2
            try clear p2
            try clear c3
            try clear c4
            try clear c8
            try clear c8b0
            try clear c8b1
            try clear c9
            try clear c15
            try clear c20
            try clear c22
            try clear c22b0
            try clear c22b1
            try clear c24
            try clear c26
            try clear c26b0
            try clear c26b1
            try clear c26b2
            try clear c27
            try clear c27b0
            try clear c27b1
            try clear c28
            try clear c33
            try clear c38
            try clear c41
            try clear c41b0
            try clear c41b1
            try clear c42
            try clear c42b0
            try clear c43
            try clear c45
            try clear hcz10_0
            try clear hcz10_1
            try clear hcz10_2
            try clear hcz21_0
            try clear hcz21_1
            try clear hcz21_2
            try clear hcz29_0
            try clear hcz29_1
            try clear hcz29_2
            try clear hcz31_0
            try clear hcz31_1
            try clear hcz31_2
            try clear hcz34_0
            try clear hcz34_1
            try clear hcz34_2
            try clear hcz36_0
            try clear hcz36_1
            try clear hcz36_2
            try clear hcz39_0
            try clear hcz39_1
            try clear hcz39_2
            try clear hcz44_0
            try clear hcz44_1
            try clear hcz44_2
            try clear hcz46_0
            try clear hcz46_1
            try clear hcz46_2
            try clear hfz10_0
            try clear hfz10_1
            try clear hfz10_2
            try clear hfz21_0
            try clear hfz21_1
            try clear hfz21_2
            try clear hfz29_0
            try clear hfz29_1
            try clear hfz29_2
            try clear hfz31_0
            try clear hfz31_1
            try clear hfz31_2
            try clear hfz34_0
            try clear hfz34_1
            try clear hfz34_2
            try clear hfz36_0
            try clear hfz36_1
            try clear hfz36_2
            try clear hfz39_0
            try clear hfz39_1
            try clear hfz39_2
            try clear hfz44_0
            try clear hfz44_1
            try clear hfz44_2
            try clear hfz46_0
            try clear hfz46_1
            try clear hfz46_2
            try clear p2
            obtain ⟨kq, x59_16, rfl, HA, HJ16, BK205, BK216, HB⟩ := hcut
            cases kq with
            | zero => exact absurd HA.out (by simp [mortmainlaw03_ValueCuts.j1])
            | succ kj16 =>
              have H := HA.out
              clear HA
              simp only [mortmainlaw03_ValueCuts.j1] at H
              by_cases c47 : x59_16 = true
              · subst c47
                have H1 : (some false) = some r := by rw [if_pos rfl] at H; exact H
                clear H
                have H := H1
                clear H1
                obtain rfl := Option.some.inj H
                cases hr_.out
              · replace c47 := Bool.eq_false_iff.mpr c47
                subst c47
                have H1 : ((mortmainref03_Good.f a1_0 a1_1 a1_2).bind fun t219 => (if t219 = true then ((mortmainref03_Key.f kj16 a1_0 a1_1 a1_2).bind fun t220 => (if t220.size + a0.size ≤ 9223372036854775807 then ((value_Cut.f kj16 (t220 ++ a0)).bind fun bt221 => (if (bt221.1 == a1_0 && (bt221.2.1 == a1_1 && (bt221.2.2.1.toList == a1_2.toList))) = true then (if bt221.2.2.2.1.toList = a0.toList then (if bt221.2.2.2.2 = 0 then (if t215 = 0 then (some true) else (if (a0.size : Int) < (t220.size : Int) then (some true) else (if 0 ≤ (t220.size : Int) then (if (t220.size : Int) ≤ (a0.size : Int) then (some ((a0.extract 0 ((t220.size : Int) : Int).toNat).toList != t220.toList)) else (none)) else (none)))) else (some false)) else (some false)) else (some false))) else (none))) else (some true))) = some r := by rw [if_neg (show ¬ (false = true) by decide)] at H; exact H
                clear H
                have H := H1
                clear H1
                replace H := Option.bind_eq_some_iff.mp H
                obtain ⟨t219, A480, H⟩ := H
                replace H : (if t219 = true then ((mortmainref03_Key.f kj16 a1_0 a1_1 a1_2).bind fun t220 => (if t220.size + a0.size ≤ 9223372036854775807 then ((value_Cut.f kj16 (t220 ++ a0)).bind fun bt221 => (if (bt221.1 == a1_0 && (bt221.2.1 == a1_1 && (bt221.2.2.1.toList == a1_2.toList))) = true then (if bt221.2.2.2.1.toList = a0.toList then (if bt221.2.2.2.2 = 0 then (if t215 = 0 then (some true) else (if (a0.size : Int) < (t220.size : Int) then (some true) else (if 0 ≤ (t220.size : Int) then (if (t220.size : Int) ≤ (a0.size : Int) then (some ((a0.extract 0 ((t220.size : Int) : Int).toNat).toList != t220.toList)) else (none)) else (none)))) else (some false)) else (some false)) else (some false))) else (none))) else (some true)) = some r := H
                have A48 := Aside0.mk A480
                clear A480
                by_cases c49 : t219 = true
                · subst c49
                  have H1 : ((mortmainref03_Key.f kj16 a1_0 a1_1 a1_2).bind fun t220 => (if t220.size + a0.size ≤ 9223372036854775807 then ((value_Cut.f kj16 (t220 ++ a0)).bind fun bt221 => (if (bt221.1 == a1_0 && (bt221.2.1 == a1_1 && (bt221.2.2.1.toList == a1_2.toList))) = true then (if bt221.2.2.2.1.toList = a0.toList then (if bt221.2.2.2.2 = 0 then (if t215 = 0 then (some true) else (if (a0.size : Int) < (t220.size : Int) then (some true) else (if 0 ≤ (t220.size : Int) then (if (t220.size : Int) ≤ (a0.size : Int) then (some ((a0.extract 0 ((t220.size : Int) : Int).toNat).toList != t220.toList)) else (none)) else (none)))) else (some false)) else (some false)) else (some false))) else (none))) = some r := by rw [if_pos rfl] at H; exact H
                  clear H
                  have H := H1
                  clear H1
                  replace H := Option.bind_eq_some_iff.mp H
                  obtain ⟨t220, A500, H⟩ := H
                  replace H : (if t220.size + a0.size ≤ 9223372036854775807 then ((value_Cut.f kj16 (t220 ++ a0)).bind fun bt221 => (if (bt221.1 == a1_0 && (bt221.2.1 == a1_1 && (bt221.2.2.1.toList == a1_2.toList))) = true then (if bt221.2.2.2.1.toList = a0.toList then (if bt221.2.2.2.2 = 0 then (if t215 = 0 then (some true) else (if (a0.size : Int) < (t220.size : Int) then (some true) else (if 0 ≤ (t220.size : Int) then (if (t220.size : Int) ≤ (a0.size : Int) then (some ((a0.extract 0 ((t220.size : Int) : Int).toNat).toList != t220.toList)) else (none)) else (none)))) else (some false)) else (some false)) else (some false))) else (none)) = some r := H
                  have A50 := Aside0.mk A500
                  clear A500
                  by_cases c51 : t220.size + a0.size ≤ 9223372036854775807
                  · rw [if_pos c51] at H
                    have c51b0 := eq_true c51
                    have c51b1 : decide (t220.size + a0.size ≤ 9223372036854775807) = true := decide_eq_true c51
                    try have c51b2 : (9223372036854775807 < t220.size + a0.size) = False := eq_false (Nat.not_lt.2 c51)
                    replace H := Option.bind_eq_some_iff.mp H
                    obtain ⟨⟨t221, t222, t223, t224, t225⟩, A520, H⟩ := H
                    replace H : (if (t221 == a1_0 && (t222 == a1_1 && (t223.toList == a1_2.toList))) = true then (if t224.toList = a0.toList then (if t225 = 0 then (if t215 = 0 then (some true) else (if (a0.size : Int) < (t220.size : Int) then (some true) else (if 0 ≤ (t220.size : Int) then (if (t220.size : Int) ≤ (a0.size : Int) then (some ((a0.extract 0 ((t220.size : Int) : Int).toNat).toList != t220.toList)) else (none)) else (none)))) else (some false)) else (some false)) else (some false)) = some r := H
                    have A52 := Aside0.mk A520
                    clear A520
                    by_cases c53 : (t221 == a1_0 && (t222 == a1_1 && (t223.toList == a1_2.toList))) = true
                    · rw [if_pos c53] at H
                      have c53b0 : (t221 == a1_0 && (t222 == a1_1 && (t223.toList == a1_2.toList))) = true := c53
                      (try (have c53b1 : decide (t221 = a1_0 && (t222 == a1_1 && (t223.toList == a1_2.toList))) = true := by simpa using c53))
                      (try (have c53b2 : (t221 == a1_0 && (t222 == a1_1 && (t223.toList == a1_2.toList))) = true := by simpa using c53))
                      clear c53
                      by_cases c54 : t224.toList = a0.toList
                      · rw [if_pos c54] at H
                        have c54b0 : (t224.toList == a0.toList) = true := beq_iff_eq.mpr c54
                        have c54b1 : (t224.toList != a0.toList) = false := bne_eq_false_iff_eq.mpr c54
                        clear c54
                        by_cases c55 : t225 = 0
                        · rw [if_pos c55] at H
                          have c55b0 : (t225 == 0) = true := beq_iff_eq.mpr c55
                          have c55b1 : (t225 != 0) = false := bne_eq_false_iff_eq.mpr c55
                          clear c55
                          by_cases c56 : t215 = 0
                          · rw [if_pos c56] at H
                            have c56b0 : (t215 == 0) = true := beq_iff_eq.mpr c56
                            have c56b1 : (t215 != 0) = false := bne_eq_false_iff_eq.mpr c56
                            clear c56
                            obtain rfl := Option.some.inj H
                            have hnb57 := NB205_216.out
                            have hnc57 := NB216_205.out
                            have hcz58_0 : wc.cell? ⟨gb205, 0, none⟩ = some (.int .i64 a1_0) := (blk_cell BK205.out 0).trans rfl
                            have hcz58_1 : wc.cell? ⟨gb205, 1, none⟩ = some (.int .i64 a1_1) := (blk_cell BK205.out 1).trans rfl
                            have hcz58_2 : wc.cell? ⟨gb205, 2, none⟩ = some (.string a1_2) := (blk_cell BK205.out 2).trans rfl
                            have hfz58_0 := blk_frozen BK205.out 0
                            have hfz58_1 := blk_frozen BK205.out 1
                            have hfz58_2 := blk_frozen BK205.out 2
                            go_wp2_with (first | ((with_reducible refine gate_callee (f := 13) rfl ?_); refine goesL_ (some 61) rfl rfl Tryz.func13 (by kernel_rfl) rfl #[.agg #[.int .i64 a1_0, .int .i64 a1_1, .string a1_2]] rfl (by (try simp only [List.map_toArray, List.map_cons, List.map_nil]); first | done | rfl | (simp only [List.length_drop, List.length_take]; rfl)) ?_; (with_reducible refine (mortmainref03_Good.calls a1_0 a1_1 a1_2 true _ A48.out).mono ?_); rintro e w59 ⟨rfl, hb⟩; refine ⟨_, rfl, ?_⟩; have n0_ := Aside0.mk (blk_below (g := gb205) (o := .cells #[.int .i64 a1_0, .int .i64 a1_1, .string a1_2] 23 (0, 0)) (by (with_reducible repeat (first | refine blk_drewN ?_ _ | refine blk_drew ?_ | refine blk_alloc ?_ _)); exact BK205.out) hb); have n1_ := Aside0.mk (blk_below (g := gb216) (o := .cells #[.int .i64 t211, .int .i64 t212, .string t213] 23 (0, 0)) (by (with_reducible repeat (first | refine blk_drewN ?_ _ | refine blk_drew ?_ | refine blk_alloc ?_ _)); exact BK216.out) hb); have n2_ := Aside0.mk (below_step (by repeat (first | (with_reducible first | exact HB.out | apply below_alloc | apply pw_below_drewN | apply below_drew1 | refine below_set ?_ GE205.out | refine below_set ?_ GE216.out) | exact HB.out)) hb); clear BK205; clear BK216; clear HB; have BK205 := n0_; have BK216 := n1_; have HB := n2_; clear n0_ n1_ n2_; (try clear hb); (try clear hb2); (try clear hk); (try clear hi); have hcz60_0 : w59.cell? ⟨gb205, 0, none⟩ = some (.int .i64 a1_0) := (blk_cell BK205.out 0).trans rfl; have hcz60_1 : w59.cell? ⟨gb205, 1, none⟩ = some (.int .i64 a1_1) := (blk_cell BK205.out 1).trans rfl; have hcz60_2 : w59.cell? ⟨gb205, 2, none⟩ = some (.string a1_2) := (blk_cell BK205.out 2).trans rfl; have hfz60_0 := blk_frozen BK205.out 0; have hfz60_1 := blk_frozen BK205.out 1; have hfz60_2 := blk_frozen BK205.out 2) | ((with_reducible refine gate_callee (f := 12) rfl ?_); refine goesL_ (some 64) rfl rfl Tryz.func12 (by kernel_rfl) rfl #[.agg #[.int .i64 a1_0, .int .i64 a1_1, .string a1_2]] rfl (by (try simp only [List.map_toArray, List.map_cons, List.map_nil]); first | done | rfl | (simp only [List.length_drop, List.length_take]; rfl)) ?_; (with_reducible refine (mortmainref03_Key.calls kj16 a1_0 a1_1 a1_2 t220 _ A50.out).mono ?_); rintro e w61 ⟨rfl, hb⟩; refine ⟨_, rfl, ?_⟩; have n0_ := Aside0.mk (blk_below (g := gb205) (o := .cells #[.int .i64 a1_0, .int .i64 a1_1, .string a1_2] 23 (0, 0)) (by (with_reducible repeat (first | refine blk_drewN ?_ _ | refine blk_drew ?_ | refine blk_alloc ?_ _)); exact BK205.out) hb); have n1_ := Aside0.mk (blk_below (g := gb216) (o := .cells #[.int .i64 t211, .int .i64 t212, .string t213] 23 (0, 0)) (by (with_reducible repeat (first | refine blk_drewN ?_ _ | refine blk_drew ?_ | refine blk_alloc ?_ _)); exact BK216.out) hb); have n2_ := Aside0.mk (below_step (by repeat (first | (with_reducible first | exact HB.out | apply below_alloc | apply pw_below_drewN | apply below_drew1 | refine below_set ?_ GE205.out | refine below_set ?_ GE216.out) | exact HB.out)) hb); clear BK205; clear BK216; clear HB; have BK205 := n0_; have BK216 := n1_; have HB := n2_; clear n0_ n1_ n2_; (try clear hb); (try clear hb2); (try clear hk); (try clear hi)) | ((with_reducible refine gate_callee (f := 15) rfl ?_); refine goesL_ (some 69) rfl rfl Tryz.func15 (by kernel_rfl) rfl #[.string (t220 ++ a0)] rfl (by (try simp only [List.map_toArray, List.map_cons, List.map_nil]); first | done | rfl | (simp only [List.length_drop, List.length_take]; rfl)) ?_; (with_reducible refine (value_Cut.calls kj16 (t220 ++ a0) t221 t222 t223 t224 t225 _ A52.out).mono ?_); rintro e w62 ⟨rfl, hb⟩; refine ⟨_, rfl, ?_⟩; have n0_ := Aside0.mk (blk_below (g := gb205) (o := .cells #[.int .i64 a1_0, .int .i64 a1_1, .string a1_2] 23 (0, 0)) (by (with_reducible repeat (first | refine blk_drewN ?_ _ | refine blk_drew ?_ | refine blk_alloc ?_ _)); exact BK205.out) hb); have n1_ := Aside0.mk (blk_below (g := gb216) (o := .cells #[.int .i64 t211, .int .i64 t212, .string t213] 23 (0, 0)) (by (with_reducible repeat (first | refine blk_drewN ?_ _ | refine blk_drew ?_ | refine blk_alloc ?_ _)); exact BK216.out) hb); have n2_ := Aside0.mk (below_step (by repeat (first | (with_reducible first | exact HB.out | apply below_alloc | apply pw_below_drewN | apply below_drew1 | refine below_set ?_ GE205.out | refine below_set ?_ GE216.out) | exact HB.out)) hb); clear BK205; clear BK216; clear HB; have BK205 := n0_; have BK216 := n1_; have HB := n2_; clear n0_ n1_ n2_; (try clear hb); (try clear hb2); (try clear hk); (try clear hi)) | ((with_reducible refine gate_dst (N := 9) rfl ?_); (try (refine gate_guard (by rfl) ?_; dsimp only)); refine box_event ?hg (N := 9) ?hd (cs := #[.int .i64 0, .int .i64 0, .string (⟨#[]⟩ : ByteArray)]) (t := 23) ?hr ?_; (case hd => rfl); (case hg => rfl); (case hr => first | (go_simp; done) | (go_simp; rfl)); intro gb226 hg w63 hbox hb; have n0_ := Aside0.mk (blk_below (g := gb205) (o := .cells #[.int .i64 a1_0, .int .i64 a1_1, .string a1_2] 23 (0, 0)) (by (with_reducible repeat (first | refine blk_drewN ?_ _ | refine blk_drew ?_ | refine blk_alloc ?_ _)); exact BK205.out) hb); have n1_ := Aside0.mk (blk_below (g := gb216) (o := .cells #[.int .i64 t211, .int .i64 t212, .string t213] 23 (0, 0)) (by (with_reducible repeat (first | refine blk_drewN ?_ _ | refine blk_drew ?_ | refine blk_alloc ?_ _)); exact BK216.out) hb); have n2_ := Aside0.mk (below_step (by repeat (first | (with_reducible first | exact HB.out | apply below_alloc | apply pw_below_drewN | apply below_drew1 | refine below_set ?_ GE205.out | refine below_set ?_ GE216.out) | exact HB.out)) hb); have n3_ := Aside0.mk (hbox); have n4_ := Aside0.mk ((by rw [hg]; exact (below_size (by repeat (first | (with_reducible first | exact HB.out | apply below_alloc | apply pw_below_drewN | apply below_drew1 | refine below_set ?_ GE205.out | refine below_set ?_ GE216.out) | exact HB.out))) : w.heap.size ≤ gb226)); have n5_ := Aside0.mk ((by rw [hg]; exact (below_size (by repeat (first | (with_reducible first | exact HB.out | apply below_alloc | apply pw_below_drewN | apply below_drew1 | refine below_set ?_ GE205.out | refine below_set ?_ GE216.out) | exact HB.out))) : w.heap.size ≤ gb226)); have n6_ := Aside0.mk ((by rw [hg]; exact Nat.ne_of_lt (blk_lt (g := gb205) (o := .cells #[.int .i64 a1_0, .int .i64 a1_1, .string a1_2] 23 (0, 0)) (by (with_reducible repeat (first | refine blk_drewN ?_ _ | refine blk_drew ?_ | refine blk_alloc ?_ _)); exact BK205.out)) : gb205 ≠ gb226)); have n7_ := Aside0.mk ((by rw [hg]; exact Nat.ne_of_gt (blk_lt (g := gb205) (o := .cells #[.int .i64 a1_0, .int .i64 a1_1, .string a1_2] 23 (0, 0)) (by (with_reducible repeat (first | refine blk_drewN ?_ _ | refine blk_drew ?_ | refine blk_alloc ?_ _)); exact BK205.out)) : gb226 ≠ gb205)); have n8_ := Aside0.mk ((by rw [hg]; exact Nat.ne_of_lt (blk_lt (g := gb216) (o := .cells #[.int .i64 t211, .int .i64 t212, .string t213] 23 (0, 0)) (by (with_reducible repeat (first | refine blk_drewN ?_ _ | refine blk_drew ?_ | refine blk_alloc ?_ _)); exact BK216.out)) : gb216 ≠ gb226)); have n9_ := Aside0.mk ((by rw [hg]; exact Nat.ne_of_gt (blk_lt (g := gb216) (o := .cells #[.int .i64 t211, .int .i64 t212, .string t213] 23 (0, 0)) (by (with_reducible repeat (first | refine blk_drewN ?_ _ | refine blk_drew ?_ | refine blk_alloc ?_ _)); exact BK216.out)) : gb226 ≠ gb216)); clear BK205; clear BK216; clear HB; have BK205 := n0_; have BK216 := n1_; have HB := n2_; have BK226 := n3_; have GW226 := n4_; have GE226 := n5_; have NB205_226 := n6_; have NB226_205 := n7_; have NB216_226 := n8_; have NB226_216 := n9_; clear n0_ n1_ n2_ n3_ n4_ n5_ n6_ n7_ n8_ n9_; clear hb hbox hg; have hnb64 := NB226_205.out; have hnc64 := NB205_226.out; have hnb65 := NB226_216.out; have hnc65 := NB216_226.out; have hcz66_0 : w63.cell? ⟨gb226, 0, none⟩ = some (.int .i64 0) := (blk_cell BK226.out 0).trans rfl; have hcz66_1 : w63.cell? ⟨gb226, 1, none⟩ = some (.int .i64 0) := (blk_cell BK226.out 1).trans rfl; have hcz66_2 : w63.cell? ⟨gb226, 2, none⟩ = some (.string (⟨#[]⟩ : ByteArray)) := (blk_cell BK226.out 2).trans rfl; have hfz66_0 := blk_frozen BK226.out 0; have hfz66_1 := blk_frozen BK226.out 1; have hfz66_2 := blk_frozen BK226.out 2; have hcz67_0 : w63.cell? ⟨gb205, 0, none⟩ = some (.int .i64 a1_0) := (blk_cell BK205.out 0).trans rfl; have hcz67_1 : w63.cell? ⟨gb205, 1, none⟩ = some (.int .i64 a1_1) := (blk_cell BK205.out 1).trans rfl; have hcz67_2 : w63.cell? ⟨gb205, 2, none⟩ = some (.string a1_2) := (blk_cell BK205.out 2).trans rfl; have hfz67_0 := blk_frozen BK205.out 0; have hfz67_1 := blk_frozen BK205.out 1; have hfz67_2 := blk_frozen BK205.out 2))
                            go_ret
                            exact ⟨by first | rfl | (simp [errW_none, errW_some] <;> rfl) | (simp [*, errW_none, errW_some] <;> rfl), by repeat (first | (with_reducible first | exact HB.out | apply below_alloc | apply pw_below_drewN | apply below_drew1 | refine below_set ?_ GE205.out | refine below_set ?_ GE216.out | refine below_set ?_ GE226.out) | exact HB.out)⟩
                          · rw [if_neg c56] at H
                            have c56b0 : (t215 == 0) = false := beq_eq_false_iff_ne.mpr c56
                            have c56b1 : (t215 != 0) = true := bne_iff_ne.mpr c56
                            by_cases c68 : (a0.size : Int) < (t220.size : Int)
                            · rw [if_pos c68] at H
                              have c68b0 : decide ((a0.size : Int) < (t220.size : Int)) = true := decide_eq_true c68
                              have c68b1 : decide (a0.size < t220.size) = true := decide_eq_true (Int.ofNat_lt.mp c68)
                              clear c68
                              obtain rfl := Option.some.inj H
                              have hnb69 := NB205_216.out
                              have hnc69 := NB216_205.out
                              have hcz70_0 : wc.cell? ⟨gb205, 0, none⟩ = some (.int .i64 a1_0) := (blk_cell BK205.out 0).trans rfl
                              have hcz70_1 : wc.cell? ⟨gb205, 1, none⟩ = some (.int .i64 a1_1) := (blk_cell BK205.out 1).trans rfl
                              have hcz70_2 : wc.cell? ⟨gb205, 2, none⟩ = some (.string a1_2) := (blk_cell BK205.out 2).trans rfl
                              have hfz70_0 := blk_frozen BK205.out 0
                              have hfz70_1 := blk_frozen BK205.out 1
                              have hfz70_2 := blk_frozen BK205.out 2
                              go_wp2_with (first | ((with_reducible refine gate_callee (f := 13) rfl ?_); refine goesL_ (some 61) rfl rfl Tryz.func13 (by kernel_rfl) rfl #[.agg #[.int .i64 a1_0, .int .i64 a1_1, .string a1_2]] rfl (by (try simp only [List.map_toArray, List.map_cons, List.map_nil]); first | done | rfl | (simp only [List.length_drop, List.length_take]; rfl)) ?_; (with_reducible refine (mortmainref03_Good.calls a1_0 a1_1 a1_2 true _ A48.out).mono ?_); rintro e w71 ⟨rfl, hb⟩; refine ⟨_, rfl, ?_⟩; have n0_ := Aside0.mk (blk_below (g := gb205) (o := .cells #[.int .i64 a1_0, .int .i64 a1_1, .string a1_2] 23 (0, 0)) (by (with_reducible repeat (first | refine blk_drewN ?_ _ | refine blk_drew ?_ | refine blk_alloc ?_ _)); exact BK205.out) hb); have n1_ := Aside0.mk (blk_below (g := gb216) (o := .cells #[.int .i64 t211, .int .i64 t212, .string t213] 23 (0, 0)) (by (with_reducible repeat (first | refine blk_drewN ?_ _ | refine blk_drew ?_ | refine blk_alloc ?_ _)); exact BK216.out) hb); have n2_ := Aside0.mk (below_step (by repeat (first | (with_reducible first | exact HB.out | apply below_alloc | apply pw_below_drewN | apply below_drew1 | refine below_set ?_ GE205.out | refine below_set ?_ GE216.out) | exact HB.out)) hb); clear BK205; clear BK216; clear HB; have BK205 := n0_; have BK216 := n1_; have HB := n2_; clear n0_ n1_ n2_; (try clear hb); (try clear hb2); (try clear hk); (try clear hi); have hcz72_0 : w71.cell? ⟨gb205, 0, none⟩ = some (.int .i64 a1_0) := (blk_cell BK205.out 0).trans rfl; have hcz72_1 : w71.cell? ⟨gb205, 1, none⟩ = some (.int .i64 a1_1) := (blk_cell BK205.out 1).trans rfl; have hcz72_2 : w71.cell? ⟨gb205, 2, none⟩ = some (.string a1_2) := (blk_cell BK205.out 2).trans rfl; have hfz72_0 := blk_frozen BK205.out 0; have hfz72_1 := blk_frozen BK205.out 1; have hfz72_2 := blk_frozen BK205.out 2) | ((with_reducible refine gate_callee (f := 12) rfl ?_); refine goesL_ (some 64) rfl rfl Tryz.func12 (by kernel_rfl) rfl #[.agg #[.int .i64 a1_0, .int .i64 a1_1, .string a1_2]] rfl (by (try simp only [List.map_toArray, List.map_cons, List.map_nil]); first | done | rfl | (simp only [List.length_drop, List.length_take]; rfl)) ?_; (with_reducible refine (mortmainref03_Key.calls kj16 a1_0 a1_1 a1_2 t220 _ A50.out).mono ?_); rintro e w73 ⟨rfl, hb⟩; refine ⟨_, rfl, ?_⟩; have n0_ := Aside0.mk (blk_below (g := gb205) (o := .cells #[.int .i64 a1_0, .int .i64 a1_1, .string a1_2] 23 (0, 0)) (by (with_reducible repeat (first | refine blk_drewN ?_ _ | refine blk_drew ?_ | refine blk_alloc ?_ _)); exact BK205.out) hb); have n1_ := Aside0.mk (blk_below (g := gb216) (o := .cells #[.int .i64 t211, .int .i64 t212, .string t213] 23 (0, 0)) (by (with_reducible repeat (first | refine blk_drewN ?_ _ | refine blk_drew ?_ | refine blk_alloc ?_ _)); exact BK216.out) hb); have n2_ := Aside0.mk (below_step (by repeat (first | (with_reducible first | exact HB.out | apply below_alloc | apply pw_below_drewN | apply below_drew1 | refine below_set ?_ GE205.out | refine below_set ?_ GE216.out) | exact HB.out)) hb); clear BK205; clear BK216; clear HB; have BK205 := n0_; have BK216 := n1_; have HB := n2_; clear n0_ n1_ n2_; (try clear hb); (try clear hb2); (try clear hk); (try clear hi)) | ((with_reducible refine gate_callee (f := 15) rfl ?_); refine goesL_ (some 69) rfl rfl Tryz.func15 (by kernel_rfl) rfl #[.string (t220 ++ a0)] rfl (by (try simp only [List.map_toArray, List.map_cons, List.map_nil]); first | done | rfl | (simp only [List.length_drop, List.length_take]; rfl)) ?_; (with_reducible refine (value_Cut.calls kj16 (t220 ++ a0) t221 t222 t223 t224 t225 _ A52.out).mono ?_); rintro e w74 ⟨rfl, hb⟩; refine ⟨_, rfl, ?_⟩; have n0_ := Aside0.mk (blk_below (g := gb205) (o := .cells #[.int .i64 a1_0, .int .i64 a1_1, .string a1_2] 23 (0, 0)) (by (with_reducible repeat (first | refine blk_drewN ?_ _ | refine blk_drew ?_ | refine blk_alloc ?_ _)); exact BK205.out) hb); have n1_ := Aside0.mk (blk_below (g := gb216) (o := .cells #[.int .i64 t211, .int .i64 t212, .string t213] 23 (0, 0)) (by (with_reducible repeat (first | refine blk_drewN ?_ _ | refine blk_drew ?_ | refine blk_alloc ?_ _)); exact BK216.out) hb); have n2_ := Aside0.mk (below_step (by repeat (first | (with_reducible first | exact HB.out | apply below_alloc | apply pw_below_drewN | apply below_drew1 | refine below_set ?_ GE205.out | refine below_set ?_ GE216.out) | exact HB.out)) hb); clear BK205; clear BK216; clear HB; have BK205 := n0_; have BK216 := n1_; have HB := n2_; clear n0_ n1_ n2_; (try clear hb); (try clear hb2); (try clear hk); (try clear hi)) | ((with_reducible refine gate_dst (N := 9) rfl ?_); (try (refine gate_guard (by rfl) ?_; dsimp only)); refine box_event ?hg (N := 9) ?hd (cs := #[.int .i64 0, .int .i64 0, .string (⟨#[]⟩ : ByteArray)]) (t := 23) ?hr ?_; (case hd => rfl); (case hg => rfl); (case hr => first | (go_simp; done) | (go_simp; rfl)); intro gb226 hg w75 hbox hb; have n0_ := Aside0.mk (blk_below (g := gb205) (o := .cells #[.int .i64 a1_0, .int .i64 a1_1, .string a1_2] 23 (0, 0)) (by (with_reducible repeat (first | refine blk_drewN ?_ _ | refine blk_drew ?_ | refine blk_alloc ?_ _)); exact BK205.out) hb); have n1_ := Aside0.mk (blk_below (g := gb216) (o := .cells #[.int .i64 t211, .int .i64 t212, .string t213] 23 (0, 0)) (by (with_reducible repeat (first | refine blk_drewN ?_ _ | refine blk_drew ?_ | refine blk_alloc ?_ _)); exact BK216.out) hb); have n2_ := Aside0.mk (below_step (by repeat (first | (with_reducible first | exact HB.out | apply below_alloc | apply pw_below_drewN | apply below_drew1 | refine below_set ?_ GE205.out | refine below_set ?_ GE216.out) | exact HB.out)) hb); have n3_ := Aside0.mk (hbox); have n4_ := Aside0.mk ((by rw [hg]; exact (below_size (by repeat (first | (with_reducible first | exact HB.out | apply below_alloc | apply pw_below_drewN | apply below_drew1 | refine below_set ?_ GE205.out | refine below_set ?_ GE216.out) | exact HB.out))) : w.heap.size ≤ gb226)); have n5_ := Aside0.mk ((by rw [hg]; exact (below_size (by repeat (first | (with_reducible first | exact HB.out | apply below_alloc | apply pw_below_drewN | apply below_drew1 | refine below_set ?_ GE205.out | refine below_set ?_ GE216.out) | exact HB.out))) : w.heap.size ≤ gb226)); have n6_ := Aside0.mk ((by rw [hg]; exact Nat.ne_of_lt (blk_lt (g := gb205) (o := .cells #[.int .i64 a1_0, .int .i64 a1_1, .string a1_2] 23 (0, 0)) (by (with_reducible repeat (first | refine blk_drewN ?_ _ | refine blk_drew ?_ | refine blk_alloc ?_ _)); exact BK205.out)) : gb205 ≠ gb226)); have n7_ := Aside0.mk ((by rw [hg]; exact Nat.ne_of_gt (blk_lt (g := gb205) (o := .cells #[.int .i64 a1_0, .int .i64 a1_1, .string a1_2] 23 (0, 0)) (by (with_reducible repeat (first | refine blk_drewN ?_ _ | refine blk_drew ?_ | refine blk_alloc ?_ _)); exact BK205.out)) : gb226 ≠ gb205)); have n8_ := Aside0.mk ((by rw [hg]; exact Nat.ne_of_lt (blk_lt (g := gb216) (o := .cells #[.int .i64 t211, .int .i64 t212, .string t213] 23 (0, 0)) (by (with_reducible repeat (first | refine blk_drewN ?_ _ | refine blk_drew ?_ | refine blk_alloc ?_ _)); exact BK216.out)) : gb216 ≠ gb226)); have n9_ := Aside0.mk ((by rw [hg]; exact Nat.ne_of_gt (blk_lt (g := gb216) (o := .cells #[.int .i64 t211, .int .i64 t212, .string t213] 23 (0, 0)) (by (with_reducible repeat (first | refine blk_drewN ?_ _ | refine blk_drew ?_ | refine blk_alloc ?_ _)); exact BK216.out)) : gb226 ≠ gb216)); clear BK205; clear BK216; clear HB; have BK205 := n0_; have BK216 := n1_; have HB := n2_; have BK226 := n3_; have GW226 := n4_; have GE226 := n5_; have NB205_226 := n6_; have NB226_205 := n7_; have NB216_226 := n8_; have NB226_216 := n9_; clear n0_ n1_ n2_ n3_ n4_ n5_ n6_ n7_ n8_ n9_; clear hb hbox hg; have hnb76 := NB226_205.out; have hnc76 := NB205_226.out; have hnb77 := NB226_216.out; have hnc77 := NB216_226.out; have hcz78_0 : w75.cell? ⟨gb226, 0, none⟩ = some (.int .i64 0) := (blk_cell BK226.out 0).trans rfl; have hcz78_1 : w75.cell? ⟨gb226, 1, none⟩ = some (.int .i64 0) := (blk_cell BK226.out 1).trans rfl; have hcz78_2 : w75.cell? ⟨gb226, 2, none⟩ = some (.string (⟨#[]⟩ : ByteArray)) := (blk_cell BK226.out 2).trans rfl; have hfz78_0 := blk_frozen BK226.out 0; have hfz78_1 := blk_frozen BK226.out 1; have hfz78_2 := blk_frozen BK226.out 2; have hcz79_0 : w75.cell? ⟨gb205, 0, none⟩ = some (.int .i64 a1_0) := (blk_cell BK205.out 0).trans rfl; have hcz79_1 : w75.cell? ⟨gb205, 1, none⟩ = some (.int .i64 a1_1) := (blk_cell BK205.out 1).trans rfl; have hcz79_2 : w75.cell? ⟨gb205, 2, none⟩ = some (.string a1_2) := (blk_cell BK205.out 2).trans rfl; have hfz79_0 := blk_frozen BK205.out 0; have hfz79_1 := blk_frozen BK205.out 1; have hfz79_2 := blk_frozen BK205.out 2))
                              go_ret
                              exact ⟨by first | rfl | (simp [errW_none, errW_some] <;> rfl) | (simp [*, errW_none, errW_some] <;> rfl), by repeat (first | (with_reducible first | exact HB.out | apply below_alloc | apply pw_below_drewN | apply below_drew1 | refine below_set ?_ GE205.out | refine below_set ?_ GE216.out | refine below_set ?_ GE226.out) | exact HB.out)⟩
                            · rw [if_neg c68] at H
                              have c68b0 : decide ((a0.size : Int) < (t220.size : Int)) = false := decide_eq_false c68
                              have c68b1 : decide (a0.size < t220.size) = false := decide_eq_false (fun h => c68 (Int.ofNat_lt.mpr h))
                              clear c68
                              by_cases c80 : 0 ≤ (t220.size : Int)
                              · rw [if_pos c80] at H
                                have c80b0 := eq_true c80
                                have c80b1 : decide (0 ≤ (t220.size : Int)) = true := decide_eq_true c80
                                clear c80
                                by_cases c81 : (t220.size : Int) ≤ (a0.size : Int)
                                · rw [if_pos c81] at H
                                  have c81b0 := eq_true c81
                                  have c81b1 : decide ((t220.size : Int) ≤ (a0.size : Int)) = true := decide_eq_true c81
                                  clear c81
                                  obtain rfl := Option.some.inj H
                                  have hnb82 := NB205_216.out
                                  have hnc82 := NB216_205.out
                                  have hcz83_0 : wc.cell? ⟨gb205, 0, none⟩ = some (.int .i64 a1_0) := (blk_cell BK205.out 0).trans rfl
                                  have hcz83_1 : wc.cell? ⟨gb205, 1, none⟩ = some (.int .i64 a1_1) := (blk_cell BK205.out 1).trans rfl
                                  have hcz83_2 : wc.cell? ⟨gb205, 2, none⟩ = some (.string a1_2) := (blk_cell BK205.out 2).trans rfl
                                  have hfz83_0 := blk_frozen BK205.out 0
                                  have hfz83_1 := blk_frozen BK205.out 1
                                  have hfz83_2 := blk_frozen BK205.out 2
                                  go_wp2_with (first | ((with_reducible refine gate_callee (f := 13) rfl ?_); refine goesL_ (some 61) rfl rfl Tryz.func13 (by kernel_rfl) rfl #[.agg #[.int .i64 a1_0, .int .i64 a1_1, .string a1_2]] rfl (by (try simp only [List.map_toArray, List.map_cons, List.map_nil]); first | done | rfl | (simp only [List.length_drop, List.length_take]; rfl)) ?_; (with_reducible refine (mortmainref03_Good.calls a1_0 a1_1 a1_2 true _ A48.out).mono ?_); rintro e w84 ⟨rfl, hb⟩; refine ⟨_, rfl, ?_⟩; have n0_ := Aside0.mk (blk_below (g := gb205) (o := .cells #[.int .i64 a1_0, .int .i64 a1_1, .string a1_2] 23 (0, 0)) (by (with_reducible repeat (first | refine blk_drewN ?_ _ | refine blk_drew ?_ | refine blk_alloc ?_ _)); exact BK205.out) hb); have n1_ := Aside0.mk (blk_below (g := gb216) (o := .cells #[.int .i64 t211, .int .i64 t212, .string t213] 23 (0, 0)) (by (with_reducible repeat (first | refine blk_drewN ?_ _ | refine blk_drew ?_ | refine blk_alloc ?_ _)); exact BK216.out) hb); have n2_ := Aside0.mk (below_step (by repeat (first | (with_reducible first | exact HB.out | apply below_alloc | apply pw_below_drewN | apply below_drew1 | refine below_set ?_ GE205.out | refine below_set ?_ GE216.out) | exact HB.out)) hb); clear BK205; clear BK216; clear HB; have BK205 := n0_; have BK216 := n1_; have HB := n2_; clear n0_ n1_ n2_; (try clear hb); (try clear hb2); (try clear hk); (try clear hi); have hcz85_0 : w84.cell? ⟨gb205, 0, none⟩ = some (.int .i64 a1_0) := (blk_cell BK205.out 0).trans rfl; have hcz85_1 : w84.cell? ⟨gb205, 1, none⟩ = some (.int .i64 a1_1) := (blk_cell BK205.out 1).trans rfl; have hcz85_2 : w84.cell? ⟨gb205, 2, none⟩ = some (.string a1_2) := (blk_cell BK205.out 2).trans rfl; have hfz85_0 := blk_frozen BK205.out 0; have hfz85_1 := blk_frozen BK205.out 1; have hfz85_2 := blk_frozen BK205.out 2) | ((with_reducible refine gate_callee (f := 12) rfl ?_); refine goesL_ (some 64) rfl rfl Tryz.func12 (by kernel_rfl) rfl #[.agg #[.int .i64 a1_0, .int .i64 a1_1, .string a1_2]] rfl (by (try simp only [List.map_toArray, List.map_cons, List.map_nil]); first | done | rfl | (simp only [List.length_drop, List.length_take]; rfl)) ?_; (with_reducible refine (mortmainref03_Key.calls kj16 a1_0 a1_1 a1_2 t220 _ A50.out).mono ?_); rintro e w86 ⟨rfl, hb⟩; refine ⟨_, rfl, ?_⟩; have n0_ := Aside0.mk (blk_below (g := gb205) (o := .cells #[.int .i64 a1_0, .int .i64 a1_1, .string a1_2] 23 (0, 0)) (by (with_reducible repeat (first | refine blk_drewN ?_ _ | refine blk_drew ?_ | refine blk_alloc ?_ _)); exact BK205.out) hb); have n1_ := Aside0.mk (blk_below (g := gb216) (o := .cells #[.int .i64 t211, .int .i64 t212, .string t213] 23 (0, 0)) (by (with_reducible repeat (first | refine blk_drewN ?_ _ | refine blk_drew ?_ | refine blk_alloc ?_ _)); exact BK216.out) hb); have n2_ := Aside0.mk (below_step (by repeat (first | (with_reducible first | exact HB.out | apply below_alloc | apply pw_below_drewN | apply below_drew1 | refine below_set ?_ GE205.out | refine below_set ?_ GE216.out) | exact HB.out)) hb); clear BK205; clear BK216; clear HB; have BK205 := n0_; have BK216 := n1_; have HB := n2_; clear n0_ n1_ n2_; (try clear hb); (try clear hb2); (try clear hk); (try clear hi)) | ((with_reducible refine gate_callee (f := 15) rfl ?_); refine goesL_ (some 69) rfl rfl Tryz.func15 (by kernel_rfl) rfl #[.string (t220 ++ a0)] rfl (by (try simp only [List.map_toArray, List.map_cons, List.map_nil]); first | done | rfl | (simp only [List.length_drop, List.length_take]; rfl)) ?_; (with_reducible refine (value_Cut.calls kj16 (t220 ++ a0) t221 t222 t223 t224 t225 _ A52.out).mono ?_); rintro e w87 ⟨rfl, hb⟩; refine ⟨_, rfl, ?_⟩; have n0_ := Aside0.mk (blk_below (g := gb205) (o := .cells #[.int .i64 a1_0, .int .i64 a1_1, .string a1_2] 23 (0, 0)) (by (with_reducible repeat (first | refine blk_drewN ?_ _ | refine blk_drew ?_ | refine blk_alloc ?_ _)); exact BK205.out) hb); have n1_ := Aside0.mk (blk_below (g := gb216) (o := .cells #[.int .i64 t211, .int .i64 t212, .string t213] 23 (0, 0)) (by (with_reducible repeat (first | refine blk_drewN ?_ _ | refine blk_drew ?_ | refine blk_alloc ?_ _)); exact BK216.out) hb); have n2_ := Aside0.mk (below_step (by repeat (first | (with_reducible first | exact HB.out | apply below_alloc | apply pw_below_drewN | apply below_drew1 | refine below_set ?_ GE205.out | refine below_set ?_ GE216.out) | exact HB.out)) hb); clear BK205; clear BK216; clear HB; have BK205 := n0_; have BK216 := n1_; have HB := n2_; clear n0_ n1_ n2_; (try clear hb); (try clear hb2); (try clear hk); (try clear hi)) | ((with_reducible refine gate_dst (N := 9) rfl ?_); (try (refine gate_guard (by rfl) ?_; dsimp only)); refine box_event ?hg (N := 9) ?hd (cs := #[.int .i64 0, .int .i64 0, .string (⟨#[]⟩ : ByteArray)]) (t := 23) ?hr ?_; (case hd => rfl); (case hg => rfl); (case hr => first | (go_simp; done) | (go_simp; rfl)); intro gb226 hg w88 hbox hb; have n0_ := Aside0.mk (blk_below (g := gb205) (o := .cells #[.int .i64 a1_0, .int .i64 a1_1, .string a1_2] 23 (0, 0)) (by (with_reducible repeat (first | refine blk_drewN ?_ _ | refine blk_drew ?_ | refine blk_alloc ?_ _)); exact BK205.out) hb); have n1_ := Aside0.mk (blk_below (g := gb216) (o := .cells #[.int .i64 t211, .int .i64 t212, .string t213] 23 (0, 0)) (by (with_reducible repeat (first | refine blk_drewN ?_ _ | refine blk_drew ?_ | refine blk_alloc ?_ _)); exact BK216.out) hb); have n2_ := Aside0.mk (below_step (by repeat (first | (with_reducible first | exact HB.out | apply below_alloc | apply pw_below_drewN | apply below_drew1 | refine below_set ?_ GE205.out | refine below_set ?_ GE216.out) | exact HB.out)) hb); have n3_ := Aside0.mk (hbox); have n4_ := Aside0.mk ((by rw [hg]; exact (below_size (by repeat (first | (with_reducible first | exact HB.out | apply below_alloc | apply pw_below_drewN | apply below_drew1 | refine below_set ?_ GE205.out | refine below_set ?_ GE216.out) | exact HB.out))) : w.heap.size ≤ gb226)); have n5_ := Aside0.mk ((by rw [hg]; exact (below_size (by repeat (first | (with_reducible first | exact HB.out | apply below_alloc | apply pw_below_drewN | apply below_drew1 | refine below_set ?_ GE205.out | refine below_set ?_ GE216.out) | exact HB.out))) : w.heap.size ≤ gb226)); have n6_ := Aside0.mk ((by rw [hg]; exact Nat.ne_of_lt (blk_lt (g := gb205) (o := .cells #[.int .i64 a1_0, .int .i64 a1_1, .string a1_2] 23 (0, 0)) (by (with_reducible repeat (first | refine blk_drewN ?_ _ | refine blk_drew ?_ | refine blk_alloc ?_ _)); exact BK205.out)) : gb205 ≠ gb226)); have n7_ := Aside0.mk ((by rw [hg]; exact Nat.ne_of_gt (blk_lt (g := gb205) (o := .cells #[.int .i64 a1_0, .int .i64 a1_1, .string a1_2] 23 (0, 0)) (by (with_reducible repeat (first | refine blk_drewN ?_ _ | refine blk_drew ?_ | refine blk_alloc ?_ _)); exact BK205.out)) : gb226 ≠ gb205)); have n8_ := Aside0.mk ((by rw [hg]; exact Nat.ne_of_lt (blk_lt (g := gb216) (o := .cells #[.int .i64 t211, .int .i64 t212, .string t213] 23 (0, 0)) (by (with_reducible repeat (first | refine blk_drewN ?_ _ | refine blk_drew ?_ | refine blk_alloc ?_ _)); exact BK216.out)) : gb216 ≠ gb226)); have n9_ := Aside0.mk ((by rw [hg]; exact Nat.ne_of_gt (blk_lt (g := gb216) (o := .cells #[.int .i64 t211, .int .i64 t212, .string t213] 23 (0, 0)) (by (with_reducible repeat (first | refine blk_drewN ?_ _ | refine blk_drew ?_ | refine blk_alloc ?_ _)); exact BK216.out)) : gb226 ≠ gb216)); clear BK205; clear BK216; clear HB; have BK205 := n0_; have BK216 := n1_; have HB := n2_; have BK226 := n3_; have GW226 := n4_; have GE226 := n5_; have NB205_226 := n6_; have NB226_205 := n7_; have NB216_226 := n8_; have NB226_216 := n9_; clear n0_ n1_ n2_ n3_ n4_ n5_ n6_ n7_ n8_ n9_; clear hb hbox hg; have hnb89 := NB226_205.out; have hnc89 := NB205_226.out; have hnb90 := NB226_216.out; have hnc90 := NB216_226.out; have hcz91_0 : w88.cell? ⟨gb226, 0, none⟩ = some (.int .i64 0) := (blk_cell BK226.out 0).trans rfl; have hcz91_1 : w88.cell? ⟨gb226, 1, none⟩ = some (.int .i64 0) := (blk_cell BK226.out 1).trans rfl; have hcz91_2 : w88.cell? ⟨gb226, 2, none⟩ = some (.string (⟨#[]⟩ : ByteArray)) := (blk_cell BK226.out 2).trans rfl; have hfz91_0 := blk_frozen BK226.out 0; have hfz91_1 := blk_frozen BK226.out 1; have hfz91_2 := blk_frozen BK226.out 2; have hcz92_0 : w88.cell? ⟨gb205, 0, none⟩ = some (.int .i64 a1_0) := (blk_cell BK205.out 0).trans rfl; have hcz92_1 : w88.cell? ⟨gb205, 1, none⟩ = some (.int .i64 a1_1) := (blk_cell BK205.out 1).trans rfl; have hcz92_2 : w88.cell? ⟨gb205, 2, none⟩ = some (.string a1_2) := (blk_cell BK205.out 2).trans rfl; have hfz92_0 := blk_frozen BK205.out 0; have hfz92_1 := blk_frozen BK205.out 1; have hfz92_2 := blk_frozen BK205.out 2))
                                  go_ret
                                  exact ⟨by first | rfl | (simp [errW_none, errW_some] <;> rfl) | (simp [*, errW_none, errW_some] <;> rfl), by repeat (first | (with_reducible first | exact HB.out | apply below_alloc | apply pw_below_drewN | apply below_drew1 | refine below_set ?_ GE205.out | refine below_set ?_ GE216.out | refine below_set ?_ GE226.out) | exact HB.out)⟩
                                · rw [if_neg c81] at H
                                  exact absurd H (by simp)
                              · rw [if_neg c80] at H
                                exact absurd H (by simp)
                        · rw [if_neg c55] at H
                          have c55b0 : (t225 == 0) = false := beq_eq_false_iff_ne.mpr c55
                          have c55b1 : (t225 != 0) = true := bne_iff_ne.mpr c55
                          obtain rfl := Option.some.inj H
                          cases hr_.out
                      · rw [if_neg c54] at H
                        have c54b0 : (t224.toList == a0.toList) = false := beq_eq_false_iff_ne.mpr c54
                        have c54b1 : (t224.toList != a0.toList) = true := bne_iff_ne.mpr c54
                        obtain rfl := Option.some.inj H
                        cases hr_.out
                    · rw [if_neg c53] at H
                      have c53b0 : (t221 == a1_0 && (t222 == a1_1 && (t223.toList == a1_2.toList))) = false := by simpa using c53
                      (try (have c53b1 : decide (t221 = a1_0 && (t222 == a1_1 && (t223.toList == a1_2.toList))) = false := by simpa using c53))
                      (try (have c53b2 : (t221 == a1_0 && (t222 == a1_1 && (t223.toList == a1_2.toList))) = false := by simpa using c53))
                      (try (have c53b3 : ¬ (t221 = a1_0 && (t222 == a1_1 && (t223.toList == a1_2.toList))) := by simpa using c53))
                      clear c53
                      obtain rfl := Option.some.inj H
                      cases hr_.out
                  · rw [if_neg c51] at H
                    exact absurd H (by simp)
                · replace c49 := Bool.eq_false_iff.mpr c49
                  subst c49
                  have H1 : (some true) = some r := by rw [if_neg (show ¬ (false = true) by decide)] at H; exact H
                  clear H
                  have H := H1
                  clear H1
                  obtain rfl := Option.some.inj H
                  have hnb93 := NB205_216.out
                  have hnc93 := NB216_205.out
                  have hcz94_0 : wc.cell? ⟨gb205, 0, none⟩ = some (.int .i64 a1_0) := (blk_cell BK205.out 0).trans rfl
                  have hcz94_1 : wc.cell? ⟨gb205, 1, none⟩ = some (.int .i64 a1_1) := (blk_cell BK205.out 1).trans rfl
                  have hcz94_2 : wc.cell? ⟨gb205, 2, none⟩ = some (.string a1_2) := (blk_cell BK205.out 2).trans rfl
                  have hfz94_0 := blk_frozen BK205.out 0
                  have hfz94_1 := blk_frozen BK205.out 1
                  have hfz94_2 := blk_frozen BK205.out 2
                  go_wp2_with (first | ((with_reducible refine gate_callee (f := 13) rfl ?_); refine goesL_ (some 61) rfl rfl Tryz.func13 (by kernel_rfl) rfl #[.agg #[.int .i64 a1_0, .int .i64 a1_1, .string a1_2]] rfl (by (try simp only [List.map_toArray, List.map_cons, List.map_nil]); first | done | rfl | (simp only [List.length_drop, List.length_take]; rfl)) ?_; (with_reducible refine (mortmainref03_Good.calls a1_0 a1_1 a1_2 false _ A48.out).mono ?_); rintro e w95 ⟨rfl, hb⟩; refine ⟨_, rfl, ?_⟩; have n0_ := Aside0.mk (blk_below (g := gb205) (o := .cells #[.int .i64 a1_0, .int .i64 a1_1, .string a1_2] 23 (0, 0)) (by (with_reducible repeat (first | refine blk_drewN ?_ _ | refine blk_drew ?_ | refine blk_alloc ?_ _)); exact BK205.out) hb); have n1_ := Aside0.mk (blk_below (g := gb216) (o := .cells #[.int .i64 t211, .int .i64 t212, .string t213] 23 (0, 0)) (by (with_reducible repeat (first | refine blk_drewN ?_ _ | refine blk_drew ?_ | refine blk_alloc ?_ _)); exact BK216.out) hb); have n2_ := Aside0.mk (below_step (by repeat (first | (with_reducible first | exact HB.out | apply below_alloc | apply pw_below_drewN | apply below_drew1 | refine below_set ?_ GE205.out | refine below_set ?_ GE216.out) | exact HB.out)) hb); clear BK205; clear BK216; clear HB; have BK205 := n0_; have BK216 := n1_; have HB := n2_; clear n0_ n1_ n2_; (try clear hb); (try clear hb2); (try clear hk); (try clear hi)))
                  go_ret
                  exact ⟨by first | rfl | (simp [errW_none, errW_some] <;> rfl) | (simp [*, errW_none, errW_some] <;> rfl), by repeat (first | (with_reducible first | exact HB.out | apply below_alloc | apply pw_below_drewN | apply below_drew1 | refine below_set ?_ GE205.out | refine below_set ?_ GE216.out) | exact HB.out)⟩
  · replace c4 := Bool.eq_false_iff.mpr c4
    subst c4
    have H1 : (some false) = some r := by rw [if_neg (show ¬ (false = true) by decide)] at H; exact H
    clear H
    have H := H1
    clear H1
    obtain rfl := Option.some.inj H
    cases hr_.out

end Go.Proofs.YtmaciepkkianhabGreatDoor.QVal

namespace Go.Proofs.YtmaciepkkianhabGreatDoor.M
open Go.RowKit

/-! ### Bits -/
theorem xor_top_nat (c : Nat) (h : c < 9223372036854775808) : c ^^^ 9223372036854775808 = c + 9223372036854775808 := by
  apply Nat.eq_of_testBit_eq
  intro i
  rw [Nat.testBit_xor, show (9223372036854775808 : Nat) = 2 ^ 63 from rfl, Nat.testBit_two_pow, Nat.add_comm]
  by_cases hi : i = 63
  · subst hi
    rw [Nat.testBit_two_pow_add_eq, Nat.testBit_lt_two_pow (by simpa using h)]
    rfl
  · rcases Nat.lt_or_gt_of_ne hi with hl | hg
    · rw [Nat.testBit_two_pow_add_gt hl]
      simp [show ¬ 63 = i by omega]
    · rw [Nat.testBit_lt_two_pow (Nat.lt_of_lt_of_le h (Nat.pow_le_pow_right (n := 2) (by decide) (by omega : 63 ≤ i)))]
      rw [Nat.testBit_lt_two_pow (Nat.lt_of_lt_of_le (by omega : 2 ^ 63 + c < 2 ^ 64) (Nat.pow_le_pow_right (n := 2) (by decide) (by omega : 64 ≤ i)))]
      simp [show ¬ 63 = i by omega]
theorem xor_top_nat' (c : Nat) (h : c < 9223372036854775808) : (c + 9223372036854775808) ^^^ 9223372036854775808 = c := by
  rw [← xor_top_nat c h, Nat.xor_assoc, Nat.xor_self, Nat.xor_zero]
theorem and_top (x : Int) (h0 : 0 ≤ x) (h1 : x < 18446744073709551616) : bits .and .u64 x 9223372036854775808 = if x < 9223372036854775808 then 0 else 9223372036854775808 := by
  rw [u64_and x _ h0 h1 (by omega) (by omega)]
  rw [show (9223372036854775808 : Int).toNat = 2 ^ 63 from rfl, nat_bit]
  split <;> (simp only [show (2 : Nat) ^ 63 = 9223372036854775808 from rfl]; omega)
theorem or_top (x : Int) (h0 : 0 ≤ x) (h1 : x < 9223372036854775808) : bits .or .u64 x 9223372036854775808 = x + 9223372036854775808 := by
  rw [u64_or x _ h0 (by omega) (by omega) (by omega)]
  rw [show (9223372036854775808 : Int).toNat = 2 ^ 63 from rfl, Nat.or_comm, nat_join 63 _ _ (by simp) (by simp only [show (2 : Nat) ^ 63 = 9223372036854775808 from rfl]; omega)]
  simp only [show (2 : Nat) ^ 63 = 9223372036854775808 from rfl]; omega
theorem xor_top (x : Int) (h0 : 0 ≤ x) (h1 : x < 18446744073709551616) : bits .xor .u64 x 9223372036854775808 = if x < 9223372036854775808 then x + 9223372036854775808 else x - 9223372036854775808 := by
  rw [u64_xor x _ h0 h1 (by omega) (by omega)]
  rw [show (9223372036854775808 : Int).toNat = 9223372036854775808 from rfl]
  split
  · rw [xor_top_nat _ (by omega)]; omega
  · obtain ⟨c, hc⟩ : ∃ c, x.toNat = c + 9223372036854775808 := ⟨x.toNat - 9223372036854775808, by omega⟩
    rw [hc, xor_top_nat' c (by omega)]; omega
theorem xor_max_nat (a : Nat) (h : a < 18446744073709551616) : 18446744073709551615 ^^^ a = 18446744073709551615 - a := by
  apply Nat.eq_of_testBit_eq
  intro i
  rw [Nat.testBit_xor, show 18446744073709551615 - a = 2 ^ 64 - (a + 1) by omega, Nat.testBit_two_pow_sub_succ (by simpa using h), show (18446744073709551615 : Nat) = 2 ^ 64 - 1 from rfl, Nat.testBit_two_pow_sub_one]
  by_cases hi : i < 64
  · simp [hi]
  · rw [Nat.testBit_lt_two_pow (Nat.lt_of_lt_of_le (by simpa using h : a < 2 ^ 64) (Nat.pow_le_pow_right (by decide) (by omega)))]
    simp [hi]
theorem u64_max : IntKind.u64.max = 18446744073709551615 := by decide
theorem xor_max (x : Int) (h0 : 0 ≤ x) (h1 : x < 18446744073709551616) : bits .xor .u64 IntKind.u64.max x = 18446744073709551615 - x := by
  rw [u64_max, u64_xor _ x (by omega) (by omega) h0 h1]
  rw [show (18446744073709551615 : Int).toNat = 18446744073709551615 from rfl, xor_max_nat _ (by omega)]
  omega
theorem andNot_top (x : Int) (h0 : 0 ≤ x) (h1 : x < 18446744073709551616) : bits .andNot .u64 x 9223372036854775808 = if x < 9223372036854775808 then x else x - 9223372036854775808 := by
  rw [u64_andNot x _ h0 h1 (by omega) (by omega)]
  rw [show 18446744073709551615 - (9223372036854775808 : Int).toNat = 2 ^ 63 - 1 from rfl, Nat.and_two_pow_sub_one_eq_mod]
  simp only [show (2 : Nat) ^ 63 = 9223372036854775808 from rfl]
  split <;> omega

theorem wrap_u64 (n : Int) : IntKind.u64.wrap n = n % 18446744073709551616 := IntKind.wrap_u64 n
theorem u64_range (n : Int) : 0 ≤ IntKind.u64.wrap n ∧ IntKind.u64.wrap n < 18446744073709551616 := by rw [wrap_u64]; omega

/-! ### Floats by their bits -/
abbrev F := FloatKind.f64.format
/-- The magnitude that a rung has, in units of the least one. -/
def mval (r : Nat) : Nat := if r < 4503599627370496 then r else (4503599627370496 + r % 4503599627370496) * 2 ^ (r / 4503599627370496 - 1)
theorem mval_step (r : Nat) : mval r < mval (r + 1) := by
  unfold mval
  by_cases h : r + 1 < 4503599627370496
  · rw [if_pos h, if_pos (by omega)]; omega
  · rw [if_neg h]
    by_cases h2 : r < 4503599627370496
    · obtain rfl : r = 4503599627370495 := by omega
      decide
    · rw [if_neg h2]
      by_cases h3 : r % 4503599627370496 = 4503599627370495
      · have e1 : (r + 1) / 4503599627370496 - 1 = (r / 4503599627370496 - 1) + 1 := by omega
        have e2 : (r + 1) % 4503599627370496 = 0 := by omega
        rw [e1, e2, h3, Nat.pow_succ]
        have := Nat.two_pow_pos (r / 4503599627370496 - 1)
        generalize 2 ^ (r / 4503599627370496 - 1) = p at *
        omega
      · have e1 : (r + 1) / 4503599627370496 - 1 = r / 4503599627370496 - 1 := by omega
        have e2 : (r + 1) % 4503599627370496 = r % 4503599627370496 + 1 := by omega
        rw [e1, e2]
        exact Nat.mul_lt_mul_of_pos_right (by omega) (Nat.two_pow_pos _)
theorem mval_lt {r s : Nat} (h : r < s) : mval r < mval s := by
  induction s with
  | zero => omega
  | succ s ih =>
    rcases Nat.lt_or_ge r s with hl | hg
    · exact Nat.lt_trans (ih hl) (mval_step s)
    · obtain rfl : r = s := by omega
      exact mval_step r
theorem mval_lt_iff {r s : Nat} : mval r < mval s ↔ r < s := by
  constructor
  · intro h
    rcases Nat.lt_trichotomy r s with hl | he | hg
    · exact hl
    · subst he; omega
    · have := mval_lt hg; omega
  · exact mval_lt

/-- What is no number; what a float is ordered by. -/
def isNan (u : Nat) : Bool := decide (u % 9223372036854775808 > 9218868437227405312)
def skey (u : Nat) : Int := if u < 9223372036854775808 then (u : Int) else -((u - 9223372036854775808 : Nat) : Int)

theorem read_eq (u : Nat) : F.read u =
    (let neg := u / 9223372036854775808 % 2 == 1
     let r := u % 9223372036854775808
     if r < 4503599627370496 then .number neg r (-1074)
     else if r < 9218868437227405312 then .number neg (4503599627370496 + r % 4503599627370496) (-1074 + (r / 4503599627370496 - 1 : Nat))
     else if r = 9218868437227405312 then .infinity neg
     else .nan neg (r - 9218868437227405312)) := by
  rfl

def sg (s : Bool) (n : Nat) : Int := if s then -(n : Int) else n
theorem cmp_congr {a b c d : Int} (h1 : a < b ↔ c < d) (h2 : a = b ↔ c = d) : compare a b = compare c d := by
  simp only [compare, compareOfLessAndEq, h1, h2]
theorem sg_lt {f : Nat → Nat} (hf : ∀ {r s : Nat}, f r < f s ↔ r < s) (h0 : f 0 = 0) (s t : Bool) (a b : Nat) : sg s (f a) < sg t (f b) ↔ sg s a < sg t b := by
  have h1 := @hf a b
  have h2 := @hf b a
  have h3 := @hf 0 a
  have h4 := @hf 0 b
  rw [h0] at h3 h4
  cases s <;> cases t <;> simp only [sg] <;> simp <;> omega
theorem sg_eq {f : Nat → Nat} (hf : ∀ {r s : Nat}, f r < f s ↔ r < s) (h0 : f 0 = 0) (s t : Bool) (a b : Nat) : sg s (f a) = sg t (f b) ↔ sg s a = sg t b := by
  have h1 := @hf a b
  have h2 := @hf b a
  have h3 := @hf 0 a
  have h4 := @hf 0 b
  rw [h0] at h3 h4
  cases s <;> cases t <;> simp only [sg] <;> simp <;> omega
theorem signed_sg (s : Bool) (m up : Nat) : Ieee.signed s m up = sg s (m * 2 ^ up) := by
  unfold Ieee.signed sg
  rw [Nat.shiftLeft_eq]
theorem sg_mul (s : Bool) (m p : Nat) : sg s (m * p) = sg s m * (p : Int) := by
  cases s <;> simp [sg, Int.neg_mul]
theorem cmp_scale (s t : Bool) (m n e1 e2 : Nat) :
    compare (Ieee.signed s m ((-1074 + (e1 : Int)) - min (-1074 + (e1 : Int)) (-1074 + (e2 : Int))).toNat) (Ieee.signed t n ((-1074 + (e2 : Int)) - min (-1074 + (e1 : Int)) (-1074 + (e2 : Int))).toNat) = compare (sg s (m * 2 ^ e1)) (sg t (n * 2 ^ e2)) := by
  rw [signed_sg, signed_sg]
  have q1 : ((-1074 + (e1 : Int)) - min (-1074 + (e1 : Int)) (-1074 + (e2 : Int))).toNat = e1 - min e1 e2 := by omega
  have q2 : ((-1074 + (e2 : Int)) - min (-1074 + (e1 : Int)) (-1074 + (e2 : Int))).toNat = e2 - min e1 e2 := by omega
  rw [q1, q2]
  have p1 : m * 2 ^ e1 = m * 2 ^ (e1 - min e1 e2) * 2 ^ min e1 e2 := by rw [Nat.mul_assoc, ← Nat.pow_add]; congr 2; omega
  have p2 : n * 2 ^ e2 = n * 2 ^ (e2 - min e1 e2) * 2 ^ min e1 e2 := by rw [Nat.mul_assoc, ← Nat.pow_add]; congr 2; omega
  rw [p1, p2, sg_mul s (m * 2 ^ (e1 - min e1 e2)), sg_mul t (n * 2 ^ (e2 - min e1 e2))]
  have hp : (0 : Int) < ((2 ^ min e1 e2 : Nat) : Int) := by exact_mod_cast Nat.two_pow_pos _
  generalize ((2 ^ min e1 e2 : Nat) : Int) = p at *
  apply cmp_congr
  · exact (Int.mul_lt_mul_right hp).symm
  · exact ⟨fun h => by rw [h], fun h => Int.eq_of_mul_eq_mul_right (by omega) h⟩

def neg (u : Nat) : Bool := u / 9223372036854775808 % 2 == 1
theorem skey_sg (u : Nat) (hu : u < 18446744073709551616) : skey u = sg (neg u) (u % 9223372036854775808) := by
  unfold skey sg neg
  by_cases h : u < 9223372036854775808
  · rw [if_pos h, if_neg (by simp; omega)]; omega
  · rw [if_neg h, if_pos (by simp; omega)]; omega
/-- A finite float's datum: the magnitude of its rung, in units of the least one. -/
theorem read_fin (u : Nat) (h : u % 9223372036854775808 < 9218868437227405312) :
    ∃ m e : Nat, F.read u = .number (neg u) m (-1074 + (e : Int)) ∧ m * 2 ^ e = mval (u % 9223372036854775808) := by
  rw [read_eq]
  by_cases h1 : u % 9223372036854775808 < 4503599627370496
  · exact ⟨u % 9223372036854775808, 0, by simp only [if_pos h1]; rfl, by unfold mval; rw [if_pos h1]; simp⟩
  · exact ⟨_, _, by simp only [if_neg h1, if_pos h]; rfl, by unfold mval; rw [if_neg h1]⟩
theorem read_inf (u : Nat) (h : u % 9223372036854775808 = 9218868437227405312) : F.read u = .infinity (neg u) := by
  rw [read_eq]
  simp only [h]; rfl
theorem read_nan (u : Nat) (h : isNan u = true) : ∃ t, F.read u = .nan (neg u) t := by
  have h' : u % 9223372036854775808 > 9218868437227405312 := by simpa [isNan] using h
  rw [read_eq]
  exact ⟨_, by simp only [if_neg (show ¬ u % 9223372036854775808 < 4503599627370496 by omega), if_neg (show ¬ u % 9223372036854775808 < 9218868437227405312 by omega), if_neg (show ¬ u % 9223372036854775808 = 9218868437227405312 by omega)]; rfl⟩

theorem cmp_eq_iff (a b : Int) : compare a b = .eq ↔ a = b := by
  simp only [compare, compareOfLessAndEq]
  split
  · constructor
    · intro h; cases h
    · intro h; omega
  · split <;> simp_all
theorem cmp_lt_iff (a b : Int) : compare a b = .lt ↔ a < b := by
  simp only [compare, compareOfLessAndEq]
  split
  · simp_all
  · split <;> simp_all
theorem cmp_gt_iff (a b : Int) : compare a b = .gt ↔ b < a := by
  simp only [compare, compareOfLessAndEq]
  split
  · constructor
    · intro h; cases h
    · intro h; omega
  · split
    · constructor
      · intro h; cases h
      · intro h; omega
    · constructor
      · intro _; omega
      · intro _; rfl
theorem sg_bound (s : Bool) (r : Nat) (h : r < 9218868437227405312) : sg s r < sg false 9218868437227405312 ∧ sg true 9218868437227405312 < sg s r := by
  simp only [sg, if_true, Bool.false_eq_true, if_false]
  cases s <;> simp <;> omega
/-- The order of two floats that are numbers. -/
theorem order_num (u v : Nat) (hu : u < 18446744073709551616) (hv : v < 18446744073709551616) (nu : isNan u = false) (nv : isNan v = false) :
    F.order u v = some (compare (skey u) (skey v)) := by
  have au : u % 9223372036854775808 ≤ 9218868437227405312 := by simpa [isNan] using nu
  have av : v % 9223372036854775808 ≤ 9218868437227405312 := by simpa [isNan] using nv
  rw [skey_sg u hu, skey_sg v hv]
  show (F.read u).order (F.read v) = _
  by_cases fu : u % 9223372036854775808 < 9218868437227405312
  · obtain ⟨m, e, ru, mu⟩ := read_fin u fu
    rw [ru]
    by_cases fv : v % 9223372036854775808 < 9218868437227405312
    · obtain ⟨n, f, rv, mv⟩ := read_fin v fv
      rw [rv]
      simp only [Ieee.Datum.order]
      rw [cmp_scale, mu, mv]
      exact congrArg some (cmp_congr (sg_lt mval_lt_iff (by decide) _ _ _ _) (sg_eq mval_lt_iff (by decide) _ _ _ _))
    · have rv := read_inf v (by omega)
      rw [rv]
      simp only [Ieee.Datum.order]
      have ev : v % 9223372036854775808 = 9218868437227405312 := by omega
      rw [ev]
      have hb := sg_bound (neg u) _ fu
      generalize sg (neg u) (u % 9223372036854775808) = q at *
      congr 1
      cases neg v
      · exact ((cmp_lt_iff _ _).mpr hb.1).symm
      · exact ((cmp_gt_iff _ _).mpr hb.2).symm
  · have ru := read_inf u (by omega)
    rw [ru]
    have eu : u % 9223372036854775808 = 9218868437227405312 := by omega
    rw [eu]
    by_cases fv : v % 9223372036854775808 < 9218868437227405312
    · obtain ⟨n, f, rv, mv⟩ := read_fin v fv
      rw [rv]
      simp only [Ieee.Datum.order]
      have hb := sg_bound (neg v) _ fv
      generalize sg (neg v) (v % 9223372036854775808) = q at *
      congr 1
      cases neg u
      · exact ((cmp_gt_iff _ _).mpr hb.1).symm
      · exact ((cmp_lt_iff _ _).mpr hb.2).symm
    · have rv := read_inf v (by omega)
      rw [rv]
      have ev : v % 9223372036854775808 = 9218868437227405312 := by omega
      rw [ev]
      simp only [Ieee.Datum.order]
      generalize neg u = s
      generalize neg v = t
      cases s <;> cases t <;> decide
theorem order_nan_l (u v : Nat) (h : isNan u = true) : F.order u v = none := by
  obtain ⟨t, hr⟩ := read_nan u h
  show (F.read u).order (F.read v) = _
  rw [hr]; rfl
theorem ne_self (u : Nat) (hu : u < 18446744073709551616) : (F.order u u != some Ordering.eq) = isNan u := by
  cases h : isNan u
  · rw [order_num u u hu hu h h, (cmp_eq_iff _ _).mpr rfl]; rfl
  · rw [order_nan_l u u h]; rfl
theorem eq_zero (u : Nat) (hu : u < 18446744073709551616) (h : isNan u = false) : (F.order u 0 == some Ordering.eq) = decide (u % 9223372036854775808 = 0) := by
  rw [order_num u 0 hu (by omega) h (by decide)]
  have e : compare (skey u) (skey 0) = .eq ↔ u % 9223372036854775808 = 0 := by
    rw [cmp_eq_iff, skey_sg u hu]
    show sg (neg u) _ = 0 ↔ _
    cases neg u <;> simp [sg] <;> omega
  by_cases q : u % 9223372036854775808 = 0
  · rw [e.mpr q]; simp [q]
  · simp only [q, decide_false]
    have : compare (skey u) (skey 0) ≠ .eq := fun h => q (e.mp h)
    cases hc : compare (skey u) (skey 0) <;> simp_all
/-- The bits by which a float is kept. -/
def kept (u : Nat) : Int := if isNan u = true then 9221120237041090560 else if u % 9223372036854775808 = 0 then 0 else wrap64 (u : Int)
/-- The bits that an int's are. -/
def ub (n : Int) : Nat := (IntKind.u64.wrap n).toNat
theorem ub_lt (n : Int) : ub n < 18446744073709551616 := by unfold ub; have := u64_range n; omega
end Go.Proofs.YtmaciepkkianhabGreatDoor.M

set_option linter.unusedSimpArgs false
namespace Go.Proofs.YtmaciepkkianhabGreatDoor.M
open Go.RowKit Go.Proofs.YtmaciepkkianhabGreatDoor.H

/-! ### Eight bytes -/
def by8 (n : Nat) : UInt8 := UInt8.ofNat n
def be8 (u : Nat) : List UInt8 := [by8 (u / 72057594037927936), by8 (u / 281474976710656), by8 (u / 1099511627776), by8 (u / 4294967296), by8 (u / 16777216), by8 (u / 65536), by8 (u / 256), by8 u]
def un8 (l : List UInt8) : Nat := l.foldl (fun u b => u * 256 + b.toNat) 0
theorem be8_length (u : Nat) : (be8 u).length = 8 := rfl
theorem by8_toNat (n : Nat) : (by8 n).toNat = n % 256 := by simp [by8]
theorem un8_be8 (u : Nat) (h : u < 18446744073709551616) : un8 (be8 u) = u := by
  simp only [un8, be8, List.foldl, by8_toNat]
  omega
theorem toNat_by8 (a : UInt8) (n : Nat) (h : n % 256 = a.toNat) : by8 n = a := by
  apply UInt8.toNat_inj.mp
  rw [by8_toNat, h]
theorem be8_un8 (l : List UInt8) (h : l.length = 8) : be8 (un8 l) = l ∧ un8 l < 18446744073709551616 := by
  match l, h with
  | [a, b, c, d, e, f, g, i], _ =>
    have ha := a.toNat_lt; have hb := b.toNat_lt; have hc := c.toNat_lt; have hd := d.toNat_lt
    have he := e.toNat_lt; have hf := f.toNat_lt; have hg := g.toNat_lt; have hi := i.toNat_lt
    simp only [un8, List.foldl, be8]
    refine ⟨?_, by omega⟩
    rw [toNat_by8 a _ (by omega), toNat_by8 b _ (by omega), toNat_by8 c _ (by omega), toNat_by8 d _ (by omega), toNat_by8 e _ (by omega), toNat_by8 f _ (by omega), toNat_by8 g _ (by omega), toNat_by8 i _ (by omega)]

/-! ### Texts -/
def esc : List UInt8 → List UInt8
  | [] => []
  | c :: r => if c = 0 then 0 :: 255 :: esc r else c :: esc r
theorem esc_length (t : List UInt8) : t.length ≤ (esc t).length ∧ (esc t).length ≤ 2 * t.length := by
  induction t with
  | nil => simp [esc]
  | cons c r ih => simp only [esc]; split <;> simp <;> omega
theorem txt_step (c : UInt8) (r acc : List UInt8) (h : c ≠ 0) (hr : r ≠ []) : txt (c :: r) acc = txt r (acc ++ [c]) := by
  match r, hr with
  | d :: r, _ => simp [txt, h]
theorem txt_esc (t : List UInt8) : ∀ (acc r : List UInt8), txt (esc t ++ 0 :: 0 :: r) acc = some (acc ++ t, r) := by
  induction t with
  | nil => intro acc r; simp [esc, txt]
  | cons c t ih =>
    intro acc r
    by_cases hc : c = 0
    · subst hc
      simp only [esc, if_true, List.cons_append]
      simp [txt, ih]
    · simp only [esc, if_neg hc, List.cons_append]
      rw [txt_step c _ acc hc (by simp), ih]
      simp
theorem txt_back : ∀ (n : Nat) (s acc t r : List UInt8), s.length ≤ n → txt s acc = some (t, r) → ∃ q, t = acc ++ q ∧ s = esc q ++ 0 :: 0 :: r := by
  intro n
  induction n with
  | zero => intro s acc t r hn h; match s, hn with | [], _ => simp [txt] at h
  | succ n ih =>
    intro s acc t r hn h
    match s, hn with
    | [], _ => simp [txt] at h
    | [_], _ => simp [txt] at h
    | c :: d :: s, hn =>
      simp only [txt] at h
      by_cases hc : c = 0
      · rw [if_neg (by simpa using hc)] at h
        by_cases hd : d = 0
        · rw [if_pos hd] at h
          simp only [Option.some.injEq, Prod.mk.injEq] at h
          exact ⟨[], by simp [h.1], by rw [hc, hd, h.2]; rfl⟩
        · rw [if_neg hd] at h
          by_cases he : d = 255
          · rw [if_neg (by simpa using he)] at h
            obtain ⟨q, h1, h2⟩ := ih s _ t r (by simp at hn; omega) h
            exact ⟨0 :: q, by rw [h1]; simp, by rw [hc, he, h2]; simp [esc]⟩
          · rw [if_pos he] at h
            cases h
      · rw [if_pos hc] at h
        obtain ⟨q, h1, h2⟩ := ih (d :: s) _ t r (by simp at hn ⊢; omega) h
        exact ⟨c :: q, by rw [h1]; simp, by rw [h2]; simp [esc, hc]⟩
end Go.Proofs.YtmaciepkkianhabGreatDoor.M

set_option linter.unusedSimpArgs false
namespace Go.Proofs.YtmaciepkkianhabGreatDoor.M
open Go.RowKit Go.Proofs.YtmaciepkkianhabGreatDoor.H

abbrev Val := Int × Int × List UInt8
/-- Can a value be? -/
def good (v : Val) : Prop :=
  (v.1 = 0 ∧ v.2.1 = 0 ∧ v.2.2 = []) ∨ (v.1 = 1 ∧ v.2.2 = []) ∨ (v.1 = 2 ∧ v.2.2 = [] ∧ kept (ub v.2.1) = v.2.1) ∨ (v.1 = 3 ∧ v.2.1 = 0 ∧ v.2.2.length ≤ 24)
instance (v : Val) : Decidable (good v) := by unfold good; infer_instance
/-- A float's key, by the bits by which it is kept. -/
def fk (n : Int) : Nat := if ub n < 9223372036854775808 then ub n + 9223372036854775808 else 18446744073709551615 - ub n
def fkey (n : Int) : Nat := fk (kept (ub n))
theorem fk_lt (n : Int) : fk n < 18446744073709551616 := by unfold fk; split <;> omega
/-- The number whose key a number is, if there is one. -/
def back (key : Nat) : Int := wrap64 (if key < 9223372036854775808 then (18446744073709551615 - key : Nat) else (key - 9223372036854775808 : Nat) : Int)
theorem back_fk (n : Int) (hn : -9223372036854775808 ≤ n ∧ n ≤ 9223372036854775807) : back (fk n) = n := by
  have h1 := ub_lt n
  unfold back fk
  unfold ub at *
  rw [wrap_u64] at *
  unfold wrap64
  by_cases h : (n % 18446744073709551616).toNat < 9223372036854775808
  · simp only [if_pos h]
    rw [if_neg (by omega)]; omega
  · simp only [if_neg h]
    rw [if_pos (by omega)]; omega
theorem fk_back (key : Nat) (h : key < 18446744073709551616) : fk (back key) = key := by
  unfold back fk ub wrap64
  simp only [wrap_u64]
  split <;> split <;> omega
theorem back_range (key : Nat) : -9223372036854775808 ≤ back key ∧ back key ≤ 9223372036854775807 := by
  unfold back wrap64; omega

/-- A value's key; nothing of one that can't be. -/
def tail (v : Val) : List UInt8 := if v.1 = 1 then be8 (v.2.1 + 9223372036854775808).toNat else if v.1 = 2 then be8 (fkey v.2.1) else if v.1 = 3 then esc v.2.2 ++ [0, 0] else []
def keyL (v : Val) : List UInt8 := if good v then by8 v.1.toNat :: tail v else []
/-- The value with whose key bytes begin, and what stands behind it. -/
def cutL (s : List UInt8) : Option (Val × List UInt8) :=
  match s with
  | [] => none
  | c :: r =>
    if c = 0 then some ((0, 0, []), r)
    else if c = 1 then (if 8 ≤ r.length then some ((1, (un8 (r.take 8) : Int) - 9223372036854775808, []), r.drop 8) else none)
    else if c = 2 then (if 8 ≤ r.length then (if kept (ub (back (un8 (r.take 8)))) = back (un8 (r.take 8)) then some ((2, back (un8 (r.take 8)), []), r.drop 8) else none) else none)
    else if c = 3 then (match txt r [] with | none => none | some (t, q) => if t.length ≤ 24 then some ((3, 0, t), q) else none)
    else none
/-- The numbers are ints. -/
def inR (v : Val) : Prop := -9223372036854775808 ≤ v.2.1 ∧ v.2.1 ≤ 9223372036854775807
theorem good_kind {v : Val} (h : good v) : v.1 = 0 ∨ v.1 = 1 ∨ v.1 = 2 ∨ v.1 = 3 := by
  rcases h with h | h | h | h
  · exact .inl h.1
  · exact .inr (.inl h.1)
  · exact .inr (.inr (.inl h.1))
  · exact .inr (.inr (.inr h.1))
theorem take8 (u : Nat) (r : List UInt8) : (be8 u ++ r).take 8 = be8 u := rfl
theorem drop8 (u : Nat) (r : List UInt8) : (be8 u ++ r).drop 8 = r := rfl
theorem cut_key (v : Val) (hg : good v) (hr : inR v) (r : List UInt8) : cutL (keyL v ++ r) = some (v, r) := by
  unfold keyL
  rw [if_pos hg]
  obtain ⟨k, n, t⟩ := v
  rcases hg with h | h | h | h
  · obtain ⟨h1, h2, h3⟩ := h
    simp only at h1 h2 h3
    subst h1; subst h2; subst h3
    rfl
  · obtain ⟨h1, h3⟩ := h
    simp only at h1 h3
    subst h1; subst h3
    have hn : (n + 9223372036854775808).toNat < 18446744073709551616 := by unfold inR at hr; simp only at hr; omega
    show cutL (1 :: (be8 (n + 9223372036854775808).toNat ++ r)) = _
    simp only [cutL]
    rw [if_neg (by decide), if_pos True.intro, if_pos (by simp [be8_length]), take8, drop8, un8_be8 _ hn]
    unfold inR at hr; simp only at hr
    have e : ((n + 9223372036854775808).toNat : Int) - 9223372036854775808 = n := by omega
    rw [e]
  · obtain ⟨h1, h3, h4⟩ := h
    simp only at h1 h3 h4
    subst h1; subst h3
    show cutL (2 :: (be8 (fkey n) ++ r)) = _
    have e : fkey n = fk n := by unfold fkey; rw [h4]
    simp only [cutL]
    rw [e, if_neg (by decide), if_neg (by decide), if_pos True.intro, if_pos (by simp [be8_length]), take8, drop8, un8_be8 _ (fk_lt n), back_fk n hr, if_pos h4]
  · obtain ⟨h1, h2, h3⟩ := h
    simp only at h1 h2 h3
    subst h1; subst h2
    show cutL (3 :: ((esc t ++ [0, 0]) ++ r)) = _
    have e : txt ((esc t ++ [0, 0]) ++ r) [] = some (t, r) := by
      have := txt_esc t [] r
      simpa using this
    simp only [cutL]
    rw [if_neg (by decide), if_neg (by decide), if_neg (by decide), if_pos True.intro, e]
    simp only
    rw [if_pos h3]
theorem cut_back (s r : List UInt8) (v : Val) (h : cutL s = some (v, r)) : good v ∧ inR v ∧ s = keyL v ++ r := by
  match s with
  | [] => simp [cutL] at h
  | c :: s =>
    simp only [cutL] at h
    by_cases c0 : c = 0
    · rw [if_pos c0] at h
      simp only [Option.some.injEq, Prod.mk.injEq] at h
      obtain ⟨rfl, rfl⟩ := h
      have g : good (0, 0, []) := .inl ⟨rfl, rfl, rfl⟩
      exact ⟨g, by unfold inR; simp, by unfold keyL; rw [if_pos g, c0]; rfl⟩
    rw [if_neg c0] at h
    by_cases c1 : c = 1
    · rw [if_pos c1] at h
      by_cases hl : 8 ≤ s.length
      · rw [if_pos hl] at h
        simp only [Option.some.injEq, Prod.mk.injEq] at h
        obtain ⟨rfl, rfl⟩ := h
        have h8 := be8_un8 (s.take 8) (by simp; omega)
        generalize hu : un8 (s.take 8) = u at *
        have g : good (1, (u : Int) - 9223372036854775808, []) := .inr (.inl ⟨rfl, rfl⟩)
        refine ⟨g, by unfold inR; simp only; omega, ?_⟩
        unfold keyL
        rw [if_pos g, c1]
        show 1 :: s = 1 :: (be8 (((u : Int) - 9223372036854775808 + 9223372036854775808).toNat) ++ s.drop 8)
        have e : ((u : Int) - 9223372036854775808 + 9223372036854775808).toNat = u := by omega
        rw [e, h8.1, List.take_append_drop]
      · rw [if_neg hl] at h; cases h
    rw [if_neg c1] at h
    by_cases c2 : c = 2
    · rw [if_pos c2] at h
      by_cases hl : 8 ≤ s.length
      · rw [if_pos hl] at h
        have h8 := be8_un8 (s.take 8) (by simp; omega)
        generalize hu : un8 (s.take 8) = u at *
        by_cases hk : kept (ub (back u)) = back u
        · rw [if_pos hk] at h
          simp only [Option.some.injEq, Prod.mk.injEq] at h
          obtain ⟨rfl, rfl⟩ := h
          have g : good (2, back u, []) := .inr (.inr (.inl ⟨rfl, rfl, hk⟩))
          refine ⟨g, back_range u, ?_⟩
          unfold keyL
          rw [if_pos g, c2]
          show 2 :: s = 2 :: (be8 (fkey (back u)) ++ s.drop 8)
          have e : fkey (back u) = u := by unfold fkey; rw [hk, fk_back u h8.2]
          rw [e, h8.1, List.take_append_drop]
        · rw [if_neg hk] at h; cases h
      · rw [if_neg hl] at h; cases h
    rw [if_neg c2] at h
    by_cases c3 : c = 3
    · rw [if_pos c3] at h
      cases ht : txt s [] with
      | none => rw [ht] at h; cases h
      | some p =>
        obtain ⟨t, q⟩ := p
        rw [ht] at h
        simp only at h
        by_cases hl : t.length ≤ 24
        · rw [if_pos hl] at h
          simp only [Option.some.injEq, Prod.mk.injEq] at h
          obtain ⟨rfl, rfl⟩ := h
          obtain ⟨x, h1, h2⟩ := txt_back s.length s [] t q (Nat.le_refl _) ht
          have g : good (3, 0, t) := .inr (.inr (.inr ⟨rfl, rfl, hl⟩))
          refine ⟨g, by unfold inR; simp, ?_⟩
          unfold keyL
          rw [if_pos g, c3]
          rw [List.nil_append] at h1
          subst h1
          show 3 :: s = 3 :: ((esc t ++ [0, 0]) ++ q)
          rw [h2]; simp
        · rw [if_neg hl] at h; cases h
    · rw [if_neg c3] at h; cases h

end Go.Proofs.YtmaciepkkianhabGreatDoor.M

set_option linter.unusedSimpArgs false
namespace Go.Proofs.YtmaciepkkianhabGreatDoor.M
open Go.RowKit Go.Proofs.YtmaciepkkianhabGreatDoor.H Go.Proofs.YtmaciepkkianhabGreatDoor.QVal Go.Proofs.YtmaciepkkianhabGreatDoorW.PrintWords Go.Proofs.YtmaciepkkianhabGreatDoorW.PrintMore

/-- A value, its text as a list. -/
abbrev V (k n : Int) (t : ByteArray) : Val := (k, n, t.data.toList)
/-- A list's text. -/
abbrev B (l : List UInt8) : ByteArray := ⟨l.toArray⟩
theorem Sz (s : ByteArray) : s.size = s.data.toList.length := by rw [Array.length_toList]; rfl
theorem w64 (n : Int) (h : -9223372036854775808 ≤ n ∧ n ≤ 9223372036854775807) : wrap64 n = n := by unfold wrap64; omega
theorem B_size (l : List UInt8) : (B l).size = l.length := by simp [ByteArray.size]
theorem B_data (l : List UInt8) : (B l).data.toList = l := rfl
theorem B_append (a b : List UInt8) : B a ++ B b = B (a ++ b) := by apply ByteArray.ext; simp
theorem B_self (s : ByteArray) : B s.data.toList = s := rfl
theorem toL (s : ByteArray) : s.toList = s.data.toList := ByteArray.toList_eq s
theorem B_toL (l : List UInt8) : (B l).toList = l := toL _
theorem wrap_ub (n : Int) : IntKind.u64.wrap n = (ub n : Int) := by unfold ub; have := u64_range n; omega
theorem of_f (n : Int) : real_Of.f n = some (ub n) := rfl
theorem rof_f (n : Int) : mortmainref02_Of.f n = some (ub n) := rfl
theorem canon_f (u : Nat) (hu : u < 18446744073709551616) : real_Canon.f u = some (kept u) := by
  unfold real_Canon.f kept
  rw [show FloatKind.f64.format.order u u = F.order u u from rfl, show FloatKind.f64.format.order u 0 = F.order u 0 from rfl, ne_self u hu]
  by_cases h : isNan u = true
  · rw [if_pos h, if_pos h]
  · rw [if_neg h, if_neg h, eq_zero u hu (by simpa using h)]
    by_cases g : u % 9223372036854775808 = 0
    · simp [g]
    · simp [g]
theorem rkept_f (u : Nat) (hu : u < 18446744073709551616) : mortmainref02_Kept.f u = some (kept u) := by
  have := canon_f u hu
  unfold real_Canon.f at this
  unfold mortmainref02_Kept.f math_IsNaN.f
  exact this
theorem realgood_f (n : Int) : real_Good.f n = some (kept (ub n) == n) := by
  unfold real_Good.f
  rw [of_f]; simp only [Option.bind_some]; rw [canon_f _ (ub_lt n)]; rfl
theorem fkey_lt (n : Int) : fkey n < 18446744073709551616 := fk_lt _
theorem realkey_f (n : Int) : real_Key.f n = some (fkey n : Int) := by
  unfold real_Key.f
  rw [of_f]; simp only [Option.bind_some]; rw [canon_f _ (ub_lt n)]; simp only [Option.bind_some]
  rw [wrap_ub]
  have hl := ub_lt (kept (ub n))
  unfold fkey fk
  generalize ub (kept (ub n)) = u at hl ⊢
  rw [and_top (u : Int) (by omega) (by omega)]
  by_cases h : u < 9223372036854775808
  · have h' : (u : Int) < 9223372036854775808 := by omega
    rw [if_pos h', if_pos rfl, or_top (u : Int) (by omega) h', if_pos h]; exact congrArg some (by omega)
  · have h' : ¬ (u : Int) < 9223372036854775808 := by omega
    have h2 : ¬ ((9223372036854775808 : Int) = 0) := by decide
    rw [if_neg h', if_neg h2, xor_max (u : Int) (by omega) (by omega), if_neg h]; exact congrArg some (by omega)
theorem rkey_f (n : Int) : mortmainref02_Key.f n = some (fkey n : Int) := by
  unfold mortmainref02_Key.f
  rw [rof_f]; simp only [Option.bind_some]; rw [rkept_f _ (ub_lt n)]; simp only [Option.bind_some]
  rw [wrap_ub]
  have hl := ub_lt (kept (ub n))
  unfold fkey fk
  generalize ub (kept (ub n)) = u at hl ⊢
  by_cases h : u < 9223372036854775808
  · have h' : ¬ (u : Int) ≥ 9223372036854775808 := by omega
    rw [if_neg h', if_pos h, wrap_u64]; exact congrArg some (by omega)
  · have h' : (u : Int) ≥ 9223372036854775808 := by omega
    rw [if_pos h', if_neg h, wrap_u64]; exact congrArg some (by omega)
theorem isE (t : ByteArray) : (t.toList == ([] : List UInt8)) = decide (t.data.toList = []) := by rw [toL]; cases t.data.toList <;> rfl
theorem dec_false {p : Prop} [Decidable p] (h : ¬ p) : some false = some (decide p) := by rw [decide_eq_false h]
theorem dec_iff {p q : Prop} [Decidable p] [Decidable q] (h : p ↔ q) : some (decide p) = some (decide q) := by rw [decide_eq_decide.mpr h]
theorem good_f (k n : Int) (t : ByteArray) : value_Good.f k n t = some (decide (good (V k n t))) := by
  unfold value_Good.f
  have hs : (t.size : Int) = (t.data.toList.length : Int) := by rw [Sz]
  have he : t.toList.isEmpty = decide (t.data.toList = []) := by rw [toL]; cases t.data.toList <;> rfl
  have hz : (t.toList = ([] : List UInt8)) = (t.data.toList = []) := by rw [toL]
  simp only [isE, he, hs, hz, realgood_f]
  unfold good V
  generalize t.data.toList = l
  clear hs he hz
  by_cases h0 : k = 0
  · subst h0
    rw [if_pos rfl, show ((0 : Int) == 0 && (n == 0 && decide (l = []))) = decide (n = 0 ∧ l = []) by simp [Bool.beq_eq_decide_eq]]
    exact dec_iff (by simp)
  · rw [if_neg h0]
    by_cases h1 : k = 1
    · subst h1
      rw [if_pos rfl]
      exact dec_iff (by simp)
    · rw [if_neg h1]
      by_cases h2 : k = 2
      · subst h2
        rw [if_pos rfl]
        by_cases ht : l = []
        · rw [if_pos ht, Option.bind_some, show (kept (ub n) == n) = decide (kept (ub n) = n) from rfl]
          exact dec_iff (by simp [ht])
        · rw [if_neg ht]
          exact dec_false (by simp [ht])
      · rw [if_neg h2]
        by_cases h3 : k = 3
        · subst h3
          rw [if_pos rfl]
          by_cases hn : n = 0
          · rw [if_pos hn]
            exact dec_iff (by simp [hn]; omega)
          · rw [if_neg hn]
            exact dec_false (by simp [hn])
        · rw [if_neg h3]
          exact dec_false (by simp [h0, h1, h2, h3])
theorem rgood_f (k n : Int) (t : ByteArray) : mortmainref03_Good.f k n t = some (decide (good (V k n t))) := by
  rw [← good_f]
  unfold value_Good.f mortmainref03_Good.f
  rw [realgood_f, rof_f]; simp only [Option.bind_some]; rw [rkept_f _ (ub_lt n)]; simp only [Option.bind_some]
  have he : t.toList.isEmpty = (t.toList == ([] : List UInt8)) := by cases t.toList <;> rfl
  by_cases h0 : k = 0
  · rw [if_pos h0, if_pos h0, he]
    subst h0
    by_cases hn : n = 0
    · subst hn; rw [if_pos rfl]; rfl
    · rw [if_neg hn, show (n == 0) = false from beq_eq_false_iff_ne.mpr hn]; rfl
  · rw [if_neg h0, if_neg h0]

/-! ### Eight bytes -/
theorem or_byte (x b : Int) (h0 : 0 ≤ x) (h1 : x < 72057594037927936) (h2 : 0 ≤ b) (h3 : b < 256) :
    bits .or .u64 (IntKind.u64.wrap (x * 256)) (IntKind.u64.wrap b) = x * 256 + b := by
  obtain ⟨x, rfl⟩ := Int.eq_ofNat_of_zero_le h0
  obtain ⟨b, rfl⟩ := Int.eq_ofNat_of_zero_le h2
  rw [wrap_u64, wrap_u64, Int.emod_eq_of_lt (by omega) (by omega), Int.emod_eq_of_lt (by omega) (by omega)]
  have e : x * 256 ||| b = x * 256 + b := by
    have := Nat.shiftLeft_add_eq_or_of_lt (show b < 2 ^ 8 by omega) x
    rw [Nat.shiftLeft_eq] at this
    exact this.symm
  have e2 : ((x : Int) * 256) = ((x * 256 : Nat) : Int) := by omega
  rw [e2, u64_or_nat _ _ (by omega) (by omega), e]; omega

theorem bt_get (s : ByteArray) (i : Nat) (h : i < s.size) : bt s (i : Int) = (s.data.toList[i]'(by rw [← Sz]; exact h)).toNat := by
  unfold bt
  rw [dif_pos (show ((i : Int).toNat) < s.size from h)]
  rfl
theorem un8_snoc (l : List UInt8) (b : UInt8) : un8 (l ++ [b]) = un8 l * 256 + b.toNat := by simp [un8, List.foldl_append]
theorem un8_from (l : List UInt8) : ∀ a : Nat, l.foldl (fun u b => u * 256 + b.toNat) a < (a + 1) * 256 ^ l.length := by
  induction l with
  | nil => intro a; simp
  | cons b l ih =>
    intro a
    rw [List.foldl_cons, List.length_cons, Nat.pow_succ]
    have h := ih (a * 256 + b.toNat)
    have hb := b.toNat_lt
    refine Nat.lt_of_lt_of_le h ?_
    rw [Nat.mul_comm (256 ^ l.length) 256, ← Nat.mul_assoc]
    exact Nat.mul_le_mul_right _ (by omega)
theorem un8_lt (l : List UInt8) : un8 l < 256 ^ l.length := by
  have := un8_from l 0
  simpa [un8] using this
theorem number_l (s : ByteArray) (hs : 8 ≤ s.size) : ∀ (m j k : Nat), j + m = 8 → m + 1 ≤ k → value_number.l0 k s (un8 (s.data.toList.take j) : Int) (j : Int) = some (un8 (s.data.toList.take 8) : Int)
  | 0, j, k + 1, hj, hk => by
    unfold value_number.l0
    have : j = 8 := by omega
    subst this
    rw [if_neg (by omega)]
  | m + 1, j, k + 1, hj, hk => by
    have hl : j < s.data.toList.length := by rw [← Sz]; omega
    unfold value_number.l0
    rw [if_pos (by omega), if_pos (by omega), if_pos (by omega), bt_get s j (by omega)]
    have h1 := un8_lt (s.data.toList.take j)
    have h2 : (s.data.toList.take j).length ≤ 7 := by rw [List.length_take]; omega
    have h3 : 256 ^ (s.data.toList.take j).length ≤ 256 ^ 7 := Nat.pow_le_pow_right (by omega) h2
    have h4 := (s.data.toList[j]).toNat_lt
    rw [or_byte _ _ (by omega) (by omega) (by omega) (by omega)]
    have ih := number_l s hs m (j + 1) k (by omega) (by omega)
    rw [List.take_add_one, List.getElem?_eq_getElem hl, Option.toList_some, un8_snoc] at ih
    rw [w64 _ (by omega), show ((j : Int) + 1) = ((j + 1 : Nat) : Int) by omega]
    rw [show ((un8 (s.data.toList.take j) : Int) * 256 + (s.data.toList[j].toNat : Int)) = ((un8 (s.data.toList.take j) * 256 + s.data.toList[j].toNat : Nat) : Int) by omega]
    exact ih
theorem number_f (k : Nat) (s : ByteArray) (hs : 8 ≤ s.size) (hk : 9 ≤ k) : value_number.f k s = some (un8 (s.data.toList.take 8) : Int) := by
  have := number_l s hs 8 0 k rfl hk
  simpa [un8, value_number.f] using this
theorem strOf_bytes (l : List Int) : strOfNums l = B (l.map fun n => UInt8.ofNat n.toNat) := rfl
theorem reight_l (u : Nat) (hu : u < 18446744073709551616) : ∀ (m j k : Nat) (v : Nat) (s : List UInt8), j + m = 8 → m + 1 ≤ k → v = u / 256 ^ j → s = (be8 u).drop m → mortmainref03_eight.l0 k (v : Int) (B s) (j : Int) = some (B (be8 u))
  | 0, j, k + 1, v, s, hj, hk, hv, hs => by
    unfold mortmainref03_eight.l0
    rw [if_neg (by omega), hs]; rfl
  | m + 1, j, k + 1, v, s, hj, hk, hv, hs => by
    unfold mortmainref03_eight.l0
    have hv2 : v < 18446744073709551616 := by rw [hv]; exact Nat.lt_of_le_of_lt (Nat.div_le_self _ _) hu
    have hsl : s.length ≤ 8 := by rw [hs, List.length_drop]; exact Nat.sub_le _ _
    have e1 : strOfNums [Int.tmod (v : Int) 256 % 256] = B [by8 v] := by
      rw [strOf_bytes]
      refine congrArg B ?_
      simp only [List.map_cons, List.map_nil]
      refine congrArg (· :: []) ?_
      apply UInt8.toNat_inj.mp
      rw [by8_toNat, Int.tmod_eq_emod_of_nonneg (by omega)]
      rw [show (((v : Int) % 256 % 256).toNat) = v % 256 by omega]
      simp
    have e2 : IntKind.u64.wrap (Int.tdiv (v : Int) 256) = ((v / 256 : Nat) : Int) := by
      rw [Int.tdiv_eq_ediv_of_nonneg (by omega), wrap_u64]; omega
    rw [if_pos (by omega), Option.bind_some, e1, B_size, B_size, if_pos (by simp only [List.length_cons, List.length_nil]; omega), B_append, e2, w64 _ (by omega), show ((j : Int) + 1) = ((j + 1 : Nat) : Int) by omega]
    refine reight_l u hu m (j + 1) k _ _ (by omega) (by omega) ?_ ?_
    · rw [hv, Nat.div_div_eq_div_mul, Nat.pow_succ]
    · rw [hs, hv]
      have : j = 7 - m := by omega
      subst this
      have hm : m < 8 := by omega
      match m, hm with
      | 0, _ => rfl
      | 1, _ => rfl
      | 2, _ => rfl
      | 3, _ => rfl
      | 4, _ => rfl
      | 5, _ => rfl
      | 6, _ => rfl
      | 7, _ => simp [be8]
theorem reight_f (k : Nat) (u : Nat) (hu : u < 18446744073709551616) (hk : 9 ≤ k) : mortmainref03_eight.f k (u : Int) = some (B (be8 u)) := by
  have := reight_l u hu 8 0 k u [] rfl hk (by simp) rfl
  exact this

/-! ### Keys -/
theorem first_f (k : Int) (h0 : 0 ≤ k) (h1 : k < 256) : strOfNums [k % 256] = B [by8 k.toNat] := by
  rw [strOf_bytes]
  refine congrArg B ?_
  simp only [List.map_cons, List.map_nil]
  rw [show (k % 256).toNat = k.toNat by omega]; rfl
theorem esc_cons (c : UInt8) (l : List UInt8) : esc (c :: l) = (if c = 0 then [0, 255] else [c]) ++ esc l := by
  simp only [esc]
  split <;> simp_all
theorem slice1 (t : ByteArray) (j : Nat) (h : j < t.size) : t.extract j (j + 1) = B [t.data.toList[j]'(by rw [← Sz]; exact h)] := by
  apply ByteArray.ext
  apply Array.toList_inj.mp
  rw [ByteArray.data_extract, Array.toList_extract, List.extract_eq_take_drop]
  rw [List.drop_eq_getElem_cons (by rw [← Sz]; exact h), show j + 1 - j = 1 by omega]
  rfl
theorem rkey_l (t : ByteArray) (ht : t.size ≤ 1000) (a b : Int) : ∀ (m j k : Nat) (s : List UInt8), j + m = t.size → m + 1 ≤ k → s.length + 2 * m ≤ 9000 → mortmainref03_Key.l0 k (B s) (j : Int) a b t = some (B (s ++ (esc (t.data.toList.drop j) ++ [0, 0])))
  | 0, j, k + 1, s, hj, hk, hs => by
    unfold mortmainref03_Key.l0
    rw [if_neg (by omega), B_size, if_pos (by omega), List.drop_of_length_le (by rw [← Sz]; omega)]
    exact congrArg some (B_append s [0, 0])
  | m + 1, j, k + 1, s, hj, hk, hs => by
    have hl : j < t.data.toList.length := by rw [← Sz]; omega
    unfold mortmainref03_Key.l0
    rw [w64 _ (by omega), show ((j : Int) + 1) = ((j + 1 : Nat) : Int) by omega, show ((j : Int)).toNat = j from rfl, show (((j + 1 : Nat) : Int)).toNat = j + 1 from rfl, slice1 t j (by omega), bt_get t j (by omega)]
    rw [if_pos (by omega), if_pos (by omega), if_pos (by omega), if_pos (by omega), B_size, B_size, if_pos (by simp only [List.length_cons, List.length_nil]; omega)]
    have hd : t.data.toList.drop j = t.data.toList[j] :: t.data.toList.drop (j + 1) := List.drop_eq_getElem_cons hl
    rw [hd, esc_cons]
    by_cases hc : t.data.toList[j] = 0
    · rw [if_pos hc, if_pos (by rw [hc]; rfl), if_pos (by simp only [List.length_cons, List.length_nil]; omega), hc, show (B s ++ B [0]) ++ (⟨#[255]⟩ : ByteArray) = B ((s ++ [0]) ++ [255]) by rw [B_append s [0]]; exact B_append _ _]
      rw [rkey_l t ht a b m (j + 1) k _ (by omega) (by omega) (by simp only [List.length_append, List.length_cons, List.length_nil]; omega)]
      simp
    · have hn : ¬ ((t.data.toList[j].toNat : Int) = 0) := by
        intro e; apply hc; apply UInt8.toNat_inj.mp; show _ = 0; omega
      rw [if_neg hc, if_neg hn, B_append]
      rw [rkey_l t ht a b m (j + 1) k _ (by omega) (by omega) (by simp only [List.length_append, List.length_cons, List.length_nil]; omega)]
      simp
theorem refkey_f (k : Nat) (d n : Int) (t : ByteArray) (hn : -9223372036854775808 ≤ n ∧ n ≤ 9223372036854775807) (ht : t.size ≤ 1000) (hk : 1009 ≤ k) : mortmainref03_Key.f k d n t = some (B (keyL (V d n t))) := by
  unfold mortmainref03_Key.f
  rw [rgood_f, Option.bind_some]
  by_cases hg : good (V d n t)
  · have hd := good_kind hg
    rw [decide_eq_true hg, if_pos rfl, Option.bind_some]
    unfold keyL
    rw [if_pos hg]
    unfold tail
    show _ = some (B (by8 d.toNat :: if d = 1 then _ else if d = 2 then _ else if d = 3 then _ else _))
    rw [first_f d (by rcases hd with h | h | h | h <;> (simp only at h; omega)) (by rcases hd with h | h | h | h <;> (simp only at h; omega))]
    by_cases h1 : d = 1
    · have e : IntKind.u64.wrap (IntKind.u64.wrap n + 9223372036854775808) = ((n + 9223372036854775808).toNat : Int) := by
        rw [wrap_u64, wrap_u64]; omega
      rw [if_pos h1, if_pos h1, e, reight_f _ _ (by omega) (by omega), Option.bind_some, B_size, B_size, be8_length, if_pos (by simp), B_append]; rfl
    · rw [if_neg h1, if_neg h1]
      by_cases h2 : d = 2
      · rw [if_pos h2, if_pos h2, rkey_f, Option.bind_some, reight_f _ _ (fkey_lt _) (by omega), Option.bind_some, B_size, B_size, be8_length, if_pos (by simp), B_append]; rfl
      · rw [if_neg h2, if_neg h2]
        by_cases h3 : d = 3
        · rw [if_pos h3, if_pos h3]
          rw [show (0 : Int) = ((0 : Nat) : Int) from rfl, rkey_l t ht d n t.size 0 k _ (by omega) (by omega) (by simp only [List.length_cons, List.length_nil]; omega)]; rfl
        · rw [if_neg h3, if_neg h3]
  · rw [decide_eq_false hg, if_neg (by decide)]
    unfold keyL
    rw [if_neg hg]
end Go.Proofs.YtmaciepkkianhabGreatDoor.M

set_option linter.unusedSimpArgs false
namespace Go.Proofs.YtmaciepkkianhabGreatDoor.M
open Go.RowKit Go.Proofs.YtmaciepkkianhabGreatDoor.H Go.Proofs.YtmaciepkkianhabGreatDoor.QVal Go.Proofs.YtmaciepkkianhabGreatDoorW.PrintWords Go.Proofs.YtmaciepkkianhabGreatDoorW.PrintMore

theorem back_f (k : Nat) (x : Nat) (hx : x < 18446744073709551616) (hk : 3 ≤ k) : real_Back.f k (x : Int) = some (if kept (ub (back x)) = back x then (back x, 0) else (0, 4)) := by
  obtain ⟨k, rfl⟩ : ∃ m, k = m + 2 := ⟨k - 2, by omega⟩
  have hj (y : Int) (hy : wrap64 y = back x) : real_Back.j0 (k + 2) (x : Int) y = some (if kept (ub (back x)) = back x then (back x, 0) else (0, 4)) := by
    rw [real_Back.j0, hy, realgood_f, Option.bind_some]
    by_cases h : kept (ub (back x)) = back x
    · rw [if_pos (by rw [h]; exact beq_self_eq_true _), realkey_f, Option.bind_some, if_pos h]
      have : fkey (back x) = x := by unfold fkey; rw [h]; exact fk_back x hx
      rw [this]
      rw [real_Back.j1, if_neg (by simp), hy]
    · rw [if_neg (by intro e; exact h (beq_iff_eq.mp e)), if_neg h]
      rw [real_Back.j1, if_pos rfl]
  unfold real_Back.f
  rw [and_top _ (by omega) (by omega)]
  by_cases h : (x : Int) < 9223372036854775808
  · rw [if_pos h, if_pos rfl, xor_max _ (by omega) (by omega)]
    apply hj
    unfold back
    rw [if_pos (by omega)]
    exact congrArg wrap64 (by omega)
  · have h2 : ¬ ((9223372036854775808 : Int) = 0) := by decide
    rw [if_neg h, if_neg h2, andNot_top _ (by omega) (by omega), if_neg h]
    apply hj
    unfold back
    rw [if_neg (by omega)]
    exact congrArg wrap64 (by omega)

def cutR (l : List UInt8) : Int × Int × ByteArray × ByteArray × Int :=
  match cutL l with
  | some (v, r) => (v.1, v.2.1, B v.2.2, B r, 0)
  | none => (0, 0, B [], B [], 4)
theorem ext1 (c : UInt8) (r : List UInt8) (n : Nat) (hn : n = r.length + 1) : (B (c :: r)).extract 1 n = B r := by
  subst hn
  have := ext_drop (B (c :: r)) 1
  rw [B_size] at this
  exact this
theorem ext9 (c : UInt8) (r : List UInt8) (n : Nat) (hn : n = r.length + 1) : (B (c :: r)).extract 9 n = B (r.drop 8) := by
  subst hn
  have := ext_drop (B (c :: r)) 9
  rw [B_size] at this
  exact this
theorem bt0 (c : UInt8) (r : List UInt8) : bt (B (c :: r)) 0 = c.toNat := by
  have := bt_get (B (c :: r)) 0 (by rw [B_size]; simp)
  exact this
theorem cut_f (k : Nat) (l : List UInt8) (hl : l.length ≤ 1000) (hk : 20 ≤ k) : value_Cut.f k (B l) = some (cutR l) := by
  obtain ⟨k, rfl⟩ : ∃ m, k = m + 1 := ⟨k - 1, by omega⟩
  match l, hl with
  | [], _ =>
    unfold value_Cut.f
    rw [B_toL, if_pos rfl, value_Cut.j0, if_pos rfl]; rfl
  | c :: r, hl =>
    have hr : r.length ≤ 1000 := by simp only [List.length_cons] at hl; omega
    have hs : (B (c :: r)).size = r.length + 1 := by rw [B_size]; rfl
    unfold value_Cut.f
    have hA : (0 < (((r.length + 1 : Nat)) : Int)) = True := eq_true (by omega)
    have hB : (1 ≤ (((r.length + 1 : Nat)) : Int)) = True := eq_true (by omega)
    have hE : ((c :: r) = ([] : List UInt8)) = False := eq_false (by simp)
    have hF : (false = true) = False := eq_false (by decide)
    simp only [value_Cut.j0, B_toL, hs, bt0, ext1 c r _ rfl, ext9 c r _ rfl, hA, hB, hE, hF, if_true, if_false]
    unfold cutR cutL
    have hc := c.toNat_lt
    have en (n : Nat) (m : UInt8) (hm : m.toNat = n) : (c = m) = (c.toNat = n) := by
      apply propext; constructor
      · intro e; rw [e, hm]
      · intro e; exact UInt8.toNat_inj.mp (by rw [e, hm])
    have ei (n : Nat) (m : Int) (hm : m = n) : ((c.toNat : Int) = m) = (c.toNat = n) := propext (by omega)
    simp only [en 0 0 rfl, en 1 1 rfl, en 2 2 rfl, en 3 3 rfl, ei 1 1 rfl, ei 2 2 rfl, ei 3 3 rfl]
    by_cases h3 : c.toNat > 3
    · rw [if_pos (by omega), if_neg (by omega), if_neg (by omega), if_neg (by omega), if_neg (by omega)]
    · rw [if_neg (by omega)]
      by_cases h0 : c.toNat = 0
      · rw [if_neg (by omega), if_neg (by omega), if_neg (by omega), if_neg (by omega), if_pos h0]
      · rw [if_neg h0, if_pos (by omega)]
        by_cases h1 : c.toNat = 1
        · rw [if_pos (by omega), if_pos h1, if_pos h1]
          by_cases h8 : 8 ≤ r.length
          · have hlt := un8_lt (r.take 8)
            rw [List.length_take, Nat.min_eq_left h8] at hlt
            rw [if_pos h8, decide_eq_false (by omega), if_neg (by decide), number_f k (B r) (by rw [B_size]; exact h8) (by omega), Option.bind_some]
            rw [show value_Int.f = fun a => some (1, a, (⟨#[]⟩ : ByteArray)) from rfl]
            simp only [Option.bind_some]
            rw [if_pos (by omega), xor_top _ (by omega) (by omega)]
            refine congrArg some (congrArg (fun x => ((1 : Int), x, (⟨#[]⟩ : ByteArray), B (r.drop 8), (0 : Int))) ?_)
            unfold wrap64
            split <;> omega
          · rw [if_neg h8, decide_eq_true (by omega), if_pos rfl]
        · rw [if_neg h1]
          by_cases h2 : c.toNat = 2
          · rw [if_pos (by omega), if_pos h2, if_neg h1, if_pos h2]
            by_cases h8 : 8 ≤ r.length
            · have hlt := un8_lt (r.take 8)
              rw [List.length_take, Nat.min_eq_left h8] at hlt
              rw [if_pos h8, decide_eq_false (by omega), if_neg (by decide), number_f k (B r) (by rw [B_size]; exact h8) (by omega), Option.bind_some, B_data, back_f k _ (by omega) (by omega), Option.bind_some]
              by_cases hk2 : kept (ub (back (un8 (r.take 8)))) = back (un8 (r.take 8))
              · rw [if_pos hk2, if_pos hk2, if_pos rfl, if_pos (by omega)]
              · rw [if_neg hk2, if_neg hk2, if_neg (by decide)]
            · rw [if_neg h8, decide_eq_true (by omega), if_pos rfl]
          · have h3 : c.toNat = 3 := by omega
            rw [if_neg h2, if_pos h3, if_neg (by omega), if_neg h1, if_neg h2, if_pos h3]
            unfold value_text.f
            rw [if_pos (by rw [B_size]; omega), B_data]
            cases hx : txt r [] with
            | none => rfl
            | some q =>
              obtain ⟨q1, q2⟩ := q
              simp only [Option.bind_some]
              by_cases hq : q1.length ≤ 24
              · rw [decide_eq_true hq, if_pos rfl, if_pos hq]
              · rw [decide_eq_false hq, if_neg (by decide), if_neg hq]

end Go.Proofs.YtmaciepkkianhabGreatDoor.M

set_option linter.unusedSimpArgs false
namespace Go.Proofs.YtmaciepkkianhabGreatDoor.M
open Go.RowKit Go.Proofs.YtmaciepkkianhabGreatDoor.H Go.Proofs.YtmaciepkkianhabGreatDoor.QVal Go.Proofs.YtmaciepkkianhabGreatDoorW.PrintWords Go.Proofs.YtmaciepkkianhabGreatDoorW.PrintMore

abbrev Z (s : ByteArray) : Prop := s.size ≤ 140737488355328
abbrev I (n : Int) : Prop := -9223372036854775808 ≤ n ∧ n ≤ 9223372036854775807
theorem alive3_f (k : Nat) : mortmainlaw03_alive.f k = some true := by
  have h1 : value_Text.f (⟨#[97]⟩ : ByteArray) = some (3, 0, ⟨#[97]⟩) := by rfl
  have h2 : value_Key.f k 3 0 (⟨#[97]⟩ : ByteArray) = some ⟨#[3, 97, 0, 0]⟩ := by
    unfold value_Key.f
    have a : value_Good.f 3 0 (⟨#[97]⟩ : ByteArray) = some true := by decide +kernel
    have b : strings_ReplaceAll.f (⟨#[97]⟩ : ByteArray) ⟨#[0]⟩ ⟨#[0, 255]⟩ = some ⟨#[97]⟩ := by decide +kernel
    rw [a]
    simp only [Option.bind_some, if_true, b]
    rw [if_neg (by decide), if_neg (by decide)]
    decide +kernel
  have h3 : value_Float.f 4602678819172646912 = some (2, 4602678819172646912, ⟨#[]⟩) := by decide +kernel
  have h4 : value_Show.f 2 4602678819172646912 ⟨#[]⟩ = some ⟨#[102, 48, 46, 53]⟩ := by decide +kernel
  have h5 : value_Good.f 0 0 (⟨#[]⟩ : ByteArray) = some true := by decide +kernel
  unfold mortmainlaw03_alive.f
  rw [h1]; simp only [Option.bind_some]
  rw [h2]; simp only [Option.bind_some]
  rw [if_pos (by decide +kernel), h3]; simp only [Option.bind_some]
  rw [h4]; simp only [Option.bind_some]
  rw [if_pos (by decide +kernel), h5]; rfl
theorem keyL_len (v : Val) : (keyL v).length ≤ 60 := by
  unfold keyL
  split
  · rename_i hg
    unfold tail
    have h3 : v.2.2.length ≤ 24 := by
      rcases hg with g | g | g | g
      · rw [g.2.2]; simp
      · rw [g.2]; simp
      · rw [g.2.1]; simp
      · exact g.2.2
    have h4 := (esc_length v.2.2).2
    split
    · simp [be8_length]
    · split
      · simp [be8_length]
      · split
        · simp; omega
        · simp
  · simp
end Go.Proofs.YtmaciepkkianhabGreatDoor.M

set_option linter.unusedSimpArgs false
namespace Go.Proofs.YtmaciepkkianhabGreatDoor.M
open Go.RowKit Go.Proofs.YtmaciepkkianhabGreatDoor.H Go.Proofs.YtmaciepkkianhabGreatDoor.QVal Go.Proofs.YtmaciepkkianhabGreatDoorW.PrintWords Go.Proofs.YtmaciepkkianhabGreatDoorW.PrintMore

theorem great1_f (k : Nat) (d n : Int) (t : ByteArray) (hk : 3 ≤ k) : mortmainlaw03_great.f k [(⟨d, n, t⟩ : S23)] = some (decide ((t.size : Int) > 200)) := by
  obtain ⟨k, rfl⟩ : ∃ m, k = m + 2 := ⟨k - 2, by omega⟩
  unfold mortmainlaw03_great.f
  by_cases h : (t.size : Int) > 200
  · simp [mortmainlaw03_great.l0, rd_T23, h]
  · simp [mortmainlaw03_great.l0, rd_T23, h, wrap64]
theorem vcuts_j1 (k : Nat) (hk : 1021 ≤ k) (l : List UInt8) (hl : l.length ≤ 200) (d n : Int) (t : ByteArray) (ht : t.size ≤ 200) (hn : I n) :
    mortmainlaw03_ValueCuts.j1 k (B l) (cutR l).2.2.2.2 false d n t = some true := by
  obtain ⟨k, rfl⟩ : ∃ j, k = j + 1 := ⟨k - 1, by omega⟩
  rw [mortmainlaw03_ValueCuts.j1, if_neg (by decide), rgood_f]; simp only [Option.bind_some]
  by_cases hg : good (V d n t)
  · rw [if_pos (decide_eq_true hg), refkey_f k d n t hn (by omega) (by omega)]; simp only [Option.bind_some]
    have hkl := keyL_len (V d n t)
    rw [if_pos (by rw [B_size, B_size]; omega), B_append, cut_f k _ (by rw [List.length_append]; omega) (by omega)]; simp only [Option.bind_some]
    have hc := cut_key (V d n t) hg hn l
    have hr : cutR (keyL (V d n t) ++ l) = (d, n, t, B l, 0) := by unfold cutR; rw [hc]
    rw [hr]; simp only [toL]
    rw [if_pos (by simp), if_pos trivial, if_pos trivial]
    by_cases h0 : (cutR l).2.2.2.2 = 0
    · rw [if_pos h0]
    · rw [if_neg h0]
      split
      · rfl
      · rename_i hsz
        rw [B_size, B_size] at hsz
        rw [if_pos (by omega), if_pos (by rw [B_size, B_size]; omega)]
        have e3 : ((B l).extract 0 (((B (keyL (V d n t))).size : Int).toNat)).data.toList = l.take (keyL (V d n t)).length := by
          rw [B_size, Int.toNat_natCast, ByteArray.data_extract, Array.toList_extract]
          simp
        rw [e3]
        refine congrArg some ?_
        rw [bne_iff_ne]
        intro e
        apply h0
        have e' : l.take (keyL (V d n t)).length = keyL (V d n t) := e
        have h1 := List.take_append_drop (keyL (V d n t)).length l
        rw [e'] at h1
        rw [← h1]
        unfold cutR
        rw [cut_key (V d n t) hg hn]
  · rw [if_neg (by simpa using hg)]
theorem vcuts_true (k : Nat) (hk : 1025 ≤ k) (s : ByteArray) (d n : Int) (t : ByteArray) (_hs : Z s) (_ht : Z t) (hn : I n) : mortmainlaw03_ValueCuts.f k s d n t = some true := by
  unfold mortmainlaw03_ValueCuts.f
  rw [alive3_f]; simp only [Option.bind_some, if_true]
  have hbig : ∀ k, mortmainlaw03_ValueCuts.j0 (k + 1) s true d n t = some true := fun k => by rw [mortmainlaw03_ValueCuts.j0, if_pos rfl]
  obtain ⟨k, rfl⟩ : ∃ j, k = j + 1 := ⟨k - 1, by omega⟩
  by_cases hs : (s.size : Int) > 200
  · rw [if_pos hs, hbig]
  · rw [if_neg hs, great1_f _ d n t (by omega)]; simp only [Option.bind_some]
    by_cases ht : (t.size : Int) > 200
    · rw [decide_eq_true ht, hbig]
    · rw [decide_eq_false ht, mortmainlaw03_ValueCuts.j0, if_neg (by decide)]
      have hl : s.data.toList.length ≤ 200 := by rw [← Sz]; omega
      rw [← B_self s, cut_f k s.data.toList (by omega) (by omega)]; simp only [Option.bind_some]
      have hj := vcuts_j1 k (by omega) s.data.toList hl d n t (by omega) hn
      cases hc : cutL s.data.toList with
      | none =>
        have hr : cutR s.data.toList = (0, 0, B [], B [], 4) := by unfold cutR; rw [hc]
        rw [hr] at hj ⊢
        simp only at hj ⊢
        rw [if_neg (by decide), if_pos trivial, if_neg (by decide +kernel)]
        rw [show ((B []).toList != ([] : List UInt8)) = false by decide +kernel]
        exact hj
      | some q =>
        obtain ⟨v, r⟩ := q
        obtain ⟨gv, iv, e⟩ := cut_back _ r v hc
        have hr : cutR s.data.toList = (v.1, v.2.1, B v.2.2, B r, 0) := by unfold cutR; rw [hc]
        rw [hr] at hj ⊢
        simp only at hj ⊢
        have hvl : (B v.2.2).size ≤ 1000 := by
          rw [B_size]
          rcases gv with g | g | g | g
          · rw [g.2.2]; simp
          · rw [g.2]; simp
          · rw [g.2.1]; simp
          · have := g.2.2; omega
        have hV : V v.1 v.2.1 (B v.2.2) = v := rfl
        rw [if_pos trivial, rgood_f, hV]; simp only [Option.bind_some]
        rw [if_pos (decide_eq_true gv), refkey_f k v.1 v.2.1 (B v.2.2) iv hvl (by omega), hV]; simp only [Option.bind_some]
        have hkl := keyL_len v
        have hrl : r.length ≤ 200 := by
          have := congrArg List.length e
          rw [List.length_append] at this; omega
        rw [if_pos (by rw [B_size, B_size]; omega), B_append, if_pos (by rw [← e])]
        exact hj
end Go.Proofs.YtmaciepkkianhabGreatDoor.M

namespace Go.Proofs.YtmaciepkkianhabGreatDoor.V
theorem witness_row_zip {H : Type} {enc : TypeId × Value → H} {C : Checked} {os : Os} {f : FuncId} {fn : Func} {s : OpenSpec} {conds : List PathCond} {apart : Bool} {laid : List (String × DataW Unit)} (modest : Bool) (w0 : World) (args : Array Value) (hos : w0.os = os)
    (hv : (w0.forCall (fun _ _ => 0) ⟨#[], args, []⟩).variablesZipB C.prog = true)
    (hr : ((w0.forCall (fun _ _ => 0) ⟨#[], args, []⟩).heap.toList.drop C.prog.globals.size).take ((begin C.prog (fun _ _ => 0) default).world.heap.size - C.prog.globals.size) =
      (begin C.prog (fun _ _ => 0) default).world.heap.toList.drop C.prog.globals.size)
    (hok : Input.okWideB C.prog (w0.forCall (fun _ _ => 0) ⟨#[], args, []⟩) f ⟨#[], args, []⟩ = true)
    (hrow : s.preRow enc C.prog fn conds apart laid (w0.forCall (fun _ _ => 0) ⟨#[], args, []⟩).memory args) :
    ∃ (w : World) (tape : Tape) (i : Input), w.os = os ∧ (w.forCall tape i).Shaped C.prog ∧ i.vars = [] ∧ Input.okWide C.prog (w.forCall tape i) .any w.heap.size f i ∧
      s.preRow enc C.prog fn conds apart laid (w.forCall tape i).memory i.args ∧ ({ modest := modest } : Assume).holds C.prog (lone (Frame.enter C.prog f i.args .normal) [] (w.forCall tape i)) :=
  ⟨w0, fun _ _ => 0, ⟨#[], args, []⟩, hos, World.shaped_of_ZipB hv hr, (Input.okWide_of_okWideB (base := 0) hok).1, (Input.okWide_of_okWideB hok).2, hrow, by
    simp only [Assume.holds]
    exact ⟨by simp, by simp, fun _ => Modest.zero, by simp, by simp⟩⟩
end Go.Proofs.YtmaciepkkianhabGreatDoor.V

namespace Go.Proofs.YtmaciepkkianhabGreatDoor.valueCuts
open Go.ChangeShapes Go.WideShapes Go.ChangeAt Go.RowKit Go.Joins
open Go.ChangeMaps (open_string shut_string)
set_option linter.unusedVariables false
theorem own : ownKnob Tryz.prog.godebug = none := by kernel_rfl
theorem laidOut : laidOutB Tryz.prog = true := by kernel_rfl
/-- What every world of the row holds that the walk asks for. -/
theorem tens_eq : (Rows.laid_internal_strconv_uint64pow10 : DataW Unit) = Lib.tabData .u64 Lib.pow10Tab := by kernel_rfl
theorem tabs {W : World} (h : W.ShapedOpen Tryz.prog) (hL : laidMet Tryz.prog Rows.valueCutsRow.laid W) : H.Tabs W := by
  have hm : ∃ m, W.cell? ⟨5, 0, none⟩ = some (.int .i64 m) := cell_of_shapedOpen_int (g := 5) (t := 3) (zero := #[.int .i64 0]) (k := .i64) h (of_decide_eq_true (by kernel_rfl)) (by kernel_rfl) rfl (by kernel_rfl) (by kernel_rfl) (by kernel_rfl)
  have h1 := (Lib.laidMet.reads hL (n := "internal/strconv.uint64pow10") (d := Rows.laid_internal_strconv_uint64pow10) (List.mem_of_getElem? (i := 3) rfl))
  rw [tens_eq] at h1
  have h2 := (Lib.laidMet.reads hL (n := "internal/strconv.pow10Tab") (d := Rows.laid_internal_strconv_pow10Tab) (List.mem_of_getElem? (i := 6) rfl))
  exact ⟨hm, T.tabIs_of_reads (g := 2) (t := 163) (e := 75) (n := 20) (by kernel_rfl) (by kernel_rfl) Tryz.underlying163 Tryz.underlying75 (by kernel_rfl) (by kernel_rfl) h1,
    fun i x hx => T.pairs_cell (g := 8) (t := 185) (e := 184) (n := 696) (k := .u64) (zs := Go.Pinned.pow10Rows) (by kernel_rfl) (by kernel_rfl) Tryz.underlying185 Tryz.underlying184 (fun i f hf => match i, hf with | 0, h => by (obtain rfl := Option.some.inj h; exact ⟨Tryz.underlying75, rfl, by kernel_rfl⟩) | 1, h => by (obtain rfl := Option.some.inj h; exact ⟨Tryz.underlying75, rfl, by kernel_rfl⟩) | n + 2, h => by (simp at h)) rfl (by kernel_rfl) h2 i x hx⟩
theorem int_in {n : Int} (h : (Lit.int .i64 n).wf = true) : M.I n := by
  have h2 : -9223372036854775808 ≤ n ∧ n ≤ 9223372036854775807 := by
    simp only [Lit.wf, IntKind.min, IntKind.max, IntKind.signed, IntKind.bits, Bool.and_eq_true, decide_eq_true_eq, if_true] at h
    omega
  exact h2
set_option maxHeartbeats 1600000 in
set_option maxRecDepth 100000 in
theorem contract (H : Type) (enc : TypeId × Value → H) (W : World) (base : Nat) (args : Array Value) (ds gs : List (DataW H)) (before : List MemPlace)
    (hval0 : ∀ (j : Nat) t v, Tryz.f4.params[j]? = some t → args[j]? = some v → Value.okWide Tryz.prog W .any base t v)
    (hW : DataW.Whole enc Tryz.prog Tryz.f4.params.toList Rows.valueCutsSpec.vars false W args.toList ds gs before)
    (hsz0 : (DataW.weightsEach Tryz.prog (Tryz.f4.params.toList ++ Rows.valueCutsSpec.plain.varTypes Tryz.prog) (ds ++ gs)).all (· ≤ reachBytes) = true)
    (hsh : W.ShapedOpen Tryz.prog) (hL : laidMet Tryz.prog Rows.valueCutsRow.laid W) :
    Calls Tryz.prog 4 args W fun e W' => ∃ v, e = .returned v ∧ Rows.valueCutsSpec.post enc Tryz.prog Tryz.f4 false true false false W args v W' := by
  have hT := tabs hsh hL
  have hsz : (DataW.weightsEach Tryz.prog (Tryz.f4.params.toList ++ Rows.valueCutsSpec.plain.varTypes Tryz.prog) (ds ++ gs)).all (· ≤ reachBytes) = true := hsz0
  have hval : ∀ (j : Nat) t v, Tryz.f4.params[j]? = some t → args[j]? = some v → Value.okWide Tryz.prog W .any base t v := hval0
  have hW' := hW
  obtain ⟨p, q, hA0, hV, rfl, hfz, hnd⟩ := hW
  have hA : DataW.TrodAll enc Tryz.prog W 0 (fun _ => true) true Tryz.f4.params.toList args.toList ds p := hA0
  rw [Tryz.params4] at hA hval hsz
  obtain ⟨v0, vs0, d0, ds0, p0, q0, hargs, rfl, rfl, h0, r0⟩ := trodAll_cons hA
  obtain ⟨v1, vs1, d1, ds1, p1, q1, rfl, rfl, rfl, h1, r1⟩ := trodAll_cons r0
  obtain ⟨rfl, rfl, rfl⟩ := trodAll_nil r1
  obtain rfl : args = #[v0, v1] := by cases args; simp_all
  obtain ⟨rfl, rfl⟩ := trodVars_none hV
  obtain ⟨a0, rfl, rfl, rfl, y0⟩ := open_string Tryz.underlying9 (hval 0 9 v0 rfl rfl) h0
  have w0 : M.Z a0 := by
    have z := sized_string hsz (j := 0) (t := 9) rfl rfl
    rw [Array.length_toList] at z
    have z2 : a0.size ≤ 140737488351232 := z
    unfold M.Z; omega
  have k1 := h1
  have lt1 : ∀ x ∈ p1, x.block < W.heap.size := by obtain ⟨m, hm⟩ := k1; exact DataW.trod_lt m _ _ _ hm
  obtain ⟨c10, c11, c12, z10, z11, z12, m1, rfl, rfl, rfl, g10, g11, g12⟩ := open_agg3 Tryz.underlying23 (by kernel_rfl) (by kernel_rfl) (hval 1 23 v1 rfl rfl) h1
  obtain ⟨a1_0, e10, rfl, y10⟩ := DataW.trod_int Tryz.underlying3 g10
  obtain ⟨a1_1, e11, rfl, y11⟩ := DataW.trod_int Tryz.underlying3 g11
  obtain ⟨a1_2, e12, rfl, y12⟩ := DataW.trod_string Tryz.underlying9 g12
  simp only [List.cons.injEq, and_true] at e10 e11 e12
  subst e10 e11 e12
  have w1 : M.Z a1_2 := by
    have z := List.all_eq_true.1 hsz _ (DataW.weights_mem_each (j := 1) (t := 23) rfl rfl a1_2.data.toList.length (by simp [DataW.weights, DataW.weightsEach, Tryz.underlying23]))
    rw [Array.length_toList] at z
    have z2 : a1_2.size ≤ 140737488351232 := of_decide_eq_true z
    unfold M.Z; omega
  clear hA0 hval0 hsz0 hsz
  have pure_ := M.vcuts_true 1025 (by omega) a0 a1_0 a1_1 a1_2 w0 w1 (int_in y11)
  refine (QVal.mortmainlaw03_ValueCuts.calls _ a0 a1_0 a1_1 a1_2 true W  hT ⟨rfl⟩ pure_).mono fun e W' ⟨he, bel⟩ => ?_
  subst he
  exact ⟨_, rfl, _, _, _, [], _, [], hW', trodAll_mk1 (shut_bool Tryz.underlying4 _), (trodAll_cons_mk (shut_string Tryz.underlying9 y0) (trodAll_cons_mk (Below.trod laidOut (by kernel_rfl) (of_decide_eq_true (by kernel_rfl)) k1 bel lt1) trodAll_mk0)), rfl, bel.frame _, fun h => by cases h⟩
noncomputable def laidWorld (os : Os) : World := World.laidAll Tryz.prog os Rows.valueCutsRow.laid
theorem laid_met (os : Os) : laidMet Tryz.prog Rows.valueCutsRow.laid ((laidWorld os).forCall (fun _ _ => 0) ⟨#[], #[.string ⟨#[]⟩, .agg #[.int .i64 0, .int .i64 0, .string ⟨#[]⟩]], []⟩).memory :=
  laidMet_laidAll _ (by kernel_rfl) (by kernel_rfl)
theorem reads (os : Os) {H : Type} (enc : TypeId × Value → H) : ∃ places, DataW.whole enc Tryz.prog ((laidWorld os).forCall (fun _ _ => 0) ⟨#[], #[.string ⟨#[]⟩, .agg #[.int .i64 0, .int .i64 0, .string ⟨#[]⟩]], []⟩).memory Tryz.f4.params.toList Rows.valueCutsSpec.vars false (#[.string ⟨#[]⟩, .agg #[.int .i64 0, .int .i64 0, .string ⟨#[]⟩]] : Array Value).toList 8 = some ([.lit (.string []), .agg [.lit (.int .i64 0), .lit (.int .i64 0), .lit (.string [])]], [], places) :=
  ⟨[], by kernel_rfl⟩
set_option maxRecDepth 100000 in
theorem lifted (os : Os) (started : os.Started) (H : Type) (enc : TypeId × Value → H) (F : Stop.Interp) :
    ReturnsInHanded {} Tryz.checked os 4 .any ((OpenSpec.ofChange Rows.valueCutsSpec).preRow enc Tryz.prog Tryz.f4 Rows.valueCutsRow.domain false Rows.valueCutsRow.laid) (((OpenSpec.ofChange Rows.valueCutsSpec).at F).post enc Tryz.prog Tryz.f4 false true false false) := by
  obtain ⟨places, hx⟩ := reads os enc
  refine returnsInHanded_of_row (C := Tryz.checked) (s := OpenSpec.ofChange Rows.valueCutsSpec) own started (by kernel_rfl) Tryz.func4
    (V.witness_row_zip (enc := enc) (C := Tryz.checked) false (laidWorld os) #[.string ⟨#[]⟩, .agg #[.int .i64 0, .int .i64 0, .string ⟨#[]⟩]] (World.laidAll_os _ _ _) (by kernel_rfl) (by kernel_rfl) (by kernel_rfl)
      (OpenSpec.preRow_of_cond 8 hx (by kernel_rfl) (fun k hk => by cases hk) (by kernel_rfl) (laid_met os))) ?_
  intro W base args ds gs before hval hW _ _ hsz hL hsh _
  exact contract H enc W base args ds gs before hval hW hsz hsh hL
theorem said : Rows.ValueCutsSaid :=
  OpenClaim.holds_of_cond 4 Tryz.f4 rfl rfl rfl rfl rfl rfl rfl ⟨rfl, rfl, rfl, rfl, rfl⟩ rfl rfl rfl rfl rfl (by kernel_rfl) Tryz.func4 (by kernel_rfl)
    (of_decide_eq_true (by kernel_rfl)) (by unfold Func.isWrapper; first | (rw [if_pos (by decide +kernel)]; kernel_rfl) | (rw [if_neg (by decide +kernel)]; exact ⟨rfl, rfl⟩))
    (fun os started H enc _ F => by rw [OpenClaim.pre_eq_preRow]; exact lifted os started H enc F)
theorem plain (f : FuncId) (fn : Func) (hf : Tryz.pinned.checked.prog.funcNamed "mortmain/mortmainlaw03.ValueCuts" = some f) (hfn : Tryz.pinned.checked.prog.funcs[f]? = some fn) :
    true = Tryz.pinned.checked.prog.looks [] ∧ ∀ (j : Nat) t, fn.params[j]? = some t → Tryz.pinned.checked.prog.wantsStandIn t = false := by
  obtain rfl : f = 4 := Option.some.inj ((show Tryz.prog.funcNamed "mortmain/mortmainlaw03.ValueCuts" = some 4 by kernel_rfl).symm.trans hf) |>.symm
  obtain rfl : fn = Tryz.f4 := (Option.some.inj (Tryz.func4.symm.trans hfn)).symm
  refine ⟨by kernel_rfl, fun j t ht => ?_⟩
  rw [Tryz.params4] at ht
  have hm := Array.mem_of_getElem? ht
  have h2 := Array.mem_toList_iff.mpr hm
  change t ∈ ([9, 23] : List Nat) at h2
  simp only [List.mem_cons, List.not_mem_nil, or_false] at h2
  rcases h2 with rfl | rfl
  · exact (show Tryz.prog.wantsStandIn 9 = false by kernel_rfl)
  · exact (show Tryz.prog.wantsStandIn 23 = false by kernel_rfl)
/-- The card. -/
theorem card : Rows.ValueCutsCardSaid :=
  Claim7.holds_tied_plain_at .later [] _ _ _ _ said (fun _ h => by cases h) (by kernel_rfl) (fun _ h => by cases h) valueCuts_row_tie rfl ⟨rfl, rfl⟩ (by kernel_rfl) rfl plain (by kernel_rfl)
#print axioms card
end Go.Proofs.YtmaciepkkianhabGreatDoor.valueCuts
