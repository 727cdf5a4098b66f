/- The law mortmainlaw03.ValueGood: its row and its card, out of the walk (printed) and the plain fact that it answers true. Written by rowgen.py, this claim's own program. Lean checks it. -/
import Derived.Test.YtmaciepkkianhabDoorXValueGood0
import Derived.Laws.BitsAllLaws
import Derived.Laws.FloatBits
import Derived.WalkKit
import Derived.Laws.Strings
import Derived.Shaped
import Derived.Lay
import Derived.Deep.DeepHandedRow
import Derived.Test.YtmaciepkkianhabDoorCards
import Derived.Test.YtmaciepkkianhabDoorTie
import Derived.ProofKit
import Derived.OpenShut
import Derived.ShutString
import Derived.ChangeOld
import Derived.Below
import Derived.SizedLaws
import Derived.Carry
import Derived.Lib.LaidTab
import Derived.Lib.SmallJoins
import Derived.Shelf.Vars
import Derived.Lib.LaidU8
import Derived.Laws.Cover2
namespace Go.Proofs.YtmaciepkkianhabDoor.QReal
open Go.Proofs.YtmaciepkkianhabDoor.H
attribute [local go_sem] ite_signed_u64 ite_signed_u32
open Go.RowKit Go.Proofs.YtmaciepkkianhabDoorW.PrintWords Go.Proofs.YtmaciepkkianhabDoorW.PrintLast Go.Proofs.YtmaciepkkianhabDoorW.PrintMore
attribute [local go_sem] max2_int min2_int max_two min_two max_three min_three max_four min_four   -- for this text's walks alone
set_option linter.unusedVariables false
set_option linter.unusedSimpArgs false

attribute [local go_sem high] eqA34
/-! ### mortmainlaw03_ValueGood: function 4 -/
def mortmainlaw03_ValueGood.f (k : Nat) (a0_0 : Int) (a0_1 : Int) (a0_2 : ByteArray) (a1 : Int) (a2 : Nat) : Option (Bool) := (mortmainlaw03_alive.f k).bind fun t165 => (if t165 = true then ((mortmainlaw03_great.f k (([(⟨a0_0, a0_1, a0_2⟩ : S34)] : List (S34)))).bind fun t169 => (if t169 = true then (some true) else ((value_Good.f a0_0 a0_1 a0_2).bind fun t170 => ((mortmainref03_Good.f a0_0 a0_1 a0_2).bind fun t171 => (if (t170 == t171) = true then ((value_Int.f a1).bind fun bt172 => (if (bt172.1 == 1 && (bt172.2.1 == a1 && (bt172.2.2.toList.isEmpty))) = true then ((value_Float.f a2).bind fun bt175 => ((mortmainref02_Kept.f a2).bind fun t178 => (if (bt175.1 == 2 && (bt175.2.1 == t178 && (bt175.2.2.toList.isEmpty))) = true then ((value_Text.f a0_2).bind fun bt179 => (some (bt179.1 == 3 && (bt179.2.1 == 0 && (bt179.2.2.toList == a0_2.toList))))) else (some false)))) else (some false))) else (some false)))))) else (some false))
def mortmainlaw03_ValueGood.T5 : Bool × List (List Nat × List Nat) := (true, [([], []), ([0], [0]), ([], []), ([2, 1], [2]), ([1, 3], [1, 3]), ([4, 3], [4]), ([5], [5]), ([6, 5, 5], [5, 6]), ([5], [5]), ([8, 5], [5, 8]), ([7, 9, 5], [5, 7, 9]), ([5, 10], [5, 10]), ([11, 7], [11]), ([12], [12]), ([13, 12, 12], [12, 13]), ([12], [12]), ([15, 14, 12], [12, 15]), ([16, 12], [12, 16]), ([14, 17, 12], [12, 14, 17]), ([12, 18], [12, 18]), ([19, 16], [19]), ([20], [20]), ([21, 20], [20, 21]), ([22, 20, 20], [20, 22]), ([20], [20]), ([24, 20], [20, 24]), ([25, 20], [20, 25]), ([23, 26, 20], [20, 23, 26]), ([20, 27], [20, 27]), ([28, 23, 0, 1, 2, 3, 4, 5, 6, 7, 8, 9, 10, 11, 12, 13, 14, 15, 16, 17, 18, 19, 20, 21, 22, 23, 24, 25, 26, 27, 28], [28])])
def mortmainlaw03_ValueGood.B5 : List Nat := [0, 1, 0, 7, 15, 31, 63, 127, 63, 319, 1023, 2047, 4095, 8191, 16383, 8191, 65535, 131071, 262143, 524287, 1048575, 2097151, 4194303, 8388607, 2097151, 18874367, 52428799, 134217727, 268435455, 536870911]
theorem mortmainlaw03_ValueGood.tab5 : rtab .any (opsOf Tryd.f4 5) = mortmainlaw03_ValueGood.T5 := by kernel_rfl
theorem mortmainlaw03_ValueGood.bits5 : waitsOk mortmainlaw03_ValueGood.T5.2 mortmainlaw03_ValueGood.B5 = true := by kernel_rfl
set_option maxHeartbeats 8000000 in
set_option maxRecDepth 100000 in
theorem mortmainlaw03_ValueGood.calls (k : Nat) (a0_0 : Int) (a0_1 : Int) (a0_2 : ByteArray) (a1 : Int) (a2 : Nat) (r : Bool) (w : World) (hT : Tabs w) (hr_ : Aside0 (r = true)) (h : mortmainlaw03_ValueGood.f k a0_0 a0_1 a0_2 a1 a2 = some r) :
    Calls Tryd.prog 4 #[.agg #[.int .i64 a0_0, .int .i64 a0_1, .string a0_2], .int .i64 a1, .float .f64 a2] w fun e w' => e = .returned (.bool r) ∧ Below w.heap.size w w' := by
  have hu34 := Tryd.underlying34
  have HT := Aside0.mk hT
  clear hT
  have HB := Aside0.mk (Below.refl w.heap.size w)
  have H : ((mortmainlaw03_alive.f k).bind fun t165 => (if t165 = true then ((mortmainlaw03_great.f k (([(⟨a0_0, a0_1, a0_2⟩ : S34)] : List (S34)))).bind fun t169 => (if t169 = true then (some true) else ((value_Good.f a0_0 a0_1 a0_2).bind fun t170 => ((mortmainref03_Good.f a0_0 a0_1 a0_2).bind fun t171 => (if (t170 == t171) = true then ((value_Int.f a1).bind fun bt172 => (if (bt172.1 == 1 && (bt172.2.1 == a1 && (bt172.2.2.toList.isEmpty))) = true then ((value_Float.f a2).bind fun bt175 => ((mortmainref02_Kept.f a2).bind fun t178 => (if (bt175.1 == 2 && (bt175.2.1 == t178 && (bt175.2.2.toList.isEmpty))) = true then ((value_Text.f a0_2).bind fun bt179 => (some (bt179.1 == 3 && (bt179.2.1 == 0 && (bt179.2.2.toList == a0_2.toList))))) else (some false)))) else (some false))) else (some false)))))) else (some false))) = some r := h
  clear h
  replace H := Option.bind_eq_some_iff.mp H
  obtain ⟨t165, A40, H⟩ := H
  replace H : (if t165 = true then ((mortmainlaw03_great.f k (([(⟨a0_0, a0_1, a0_2⟩ : S34)] : List (S34)))).bind fun t169 => (if t169 = true then (some true) else ((value_Good.f a0_0 a0_1 a0_2).bind fun t170 => ((mortmainref03_Good.f a0_0 a0_1 a0_2).bind fun t171 => (if (t170 == t171) = true then ((value_Int.f a1).bind fun bt172 => (if (bt172.1 == 1 && (bt172.2.1 == a1 && (bt172.2.2.toList.isEmpty))) = true then ((value_Float.f a2).bind fun bt175 => ((mortmainref02_Kept.f a2).bind fun t178 => (if (bt175.1 == 2 && (bt175.2.1 == t178 && (bt175.2.2.toList.isEmpty))) = true then ((value_Text.f a0_2).bind fun bt179 => (some (bt179.1 == 3 && (bt179.2.1 == 0 && (bt179.2.2.toList == a0_2.toList))))) else (some false)))) else (some false))) else (some false)))))) else (some false)) = some r := H
  have A4 := Aside0.mk A40
  clear A40
  by_cases c5 : t165 = true
  · subst c5
    have H1 : ((mortmainlaw03_great.f k (([(⟨a0_0, a0_1, a0_2⟩ : S34)] : List (S34)))).bind fun t169 => (if t169 = true then (some true) else ((value_Good.f a0_0 a0_1 a0_2).bind fun t170 => ((mortmainref03_Good.f a0_0 a0_1 a0_2).bind fun t171 => (if (t170 == t171) = true then ((value_Int.f a1).bind fun bt172 => (if (bt172.1 == 1 && (bt172.2.1 == a1 && (bt172.2.2.toList.isEmpty))) = true then ((value_Float.f a2).bind fun bt175 => ((mortmainref02_Kept.f a2).bind fun t178 => (if (bt175.1 == 2 && (bt175.2.1 == t178 && (bt175.2.2.toList.isEmpty))) = true then ((value_Text.f a0_2).bind fun bt179 => (some (bt179.1 == 3 && (bt179.2.1 == 0 && (bt179.2.2.toList == a0_2.toList))))) else (some false)))) else (some false))) else (some false)))))) = some r := by rw [if_pos rfl] at H; exact H
    clear H
    have H := H1
    clear H1
    obtain ⟨y166, hy166⟩ : ∃ y_ : List (S34), y_ = (([(⟨a0_0, a0_1, a0_2⟩ : S34)] : List (S34))) := ⟨_, rfl⟩
    replace H : ((mortmainlaw03_great.f k y166).bind fun t169 => (if t169 = true then (some true) else ((value_Good.f a0_0 a0_1 a0_2).bind fun t170 => ((mortmainref03_Good.f a0_0 a0_1 a0_2).bind fun t171 => (if (t170 == t171) = true then ((value_Int.f a1).bind fun bt172 => (if (bt172.1 == 1 && (bt172.2.1 == a1 && (bt172.2.2.toList.isEmpty))) = true then ((value_Float.f a2).bind fun bt175 => ((mortmainref02_Kept.f a2).bind fun t178 => (if (bt175.1 == 2 && (bt175.2.1 == t178 && (bt175.2.2.toList.isEmpty))) = true then ((value_Text.f a0_2).bind fun bt179 => (some (bt179.1 == 3 && (bt179.2.1 == 0 && (bt179.2.2.toList == a0_2.toList))))) else (some false)))) else (some false))) else (some false)))))) = some r := by first | (rw [hy166]; with_reducible exact H) | (have H2_ := (Option.bind_some _ _).symm.trans H; rw [hy166]; with_reducible exact H2_) | (have H2_ := (Option.bind_some _ _).symm.trans H; with_reducible exact H2_) | with_reducible exact H | (rw [hy166]; exact H) | exact H
    have Ny166 := Aside0.mk hy166
    clear hy166
    replace H := Option.bind_eq_some_iff.mp H
    obtain ⟨t169, A60, H⟩ := H
    replace H : (if t169 = true then (some true) else ((value_Good.f a0_0 a0_1 a0_2).bind fun t170 => ((mortmainref03_Good.f a0_0 a0_1 a0_2).bind fun t171 => (if (t170 == t171) = true then ((value_Int.f a1).bind fun bt172 => (if (bt172.1 == 1 && (bt172.2.1 == a1 && (bt172.2.2.toList.isEmpty))) = true then ((value_Float.f a2).bind fun bt175 => ((mortmainref02_Kept.f a2).bind fun t178 => (if (bt175.1 == 2 && (bt175.2.1 == t178 && (bt175.2.2.toList.isEmpty))) = true then ((value_Text.f a0_2).bind fun bt179 => (some (bt179.1 == 3 && (bt179.2.1 == 0 && (bt179.2.2.toList == a0_2.toList))))) else (some false)))) else (some false))) else (some false))))) = some r := H
    have A6 := Aside0.mk A60
    clear A60
    by_cases c7 : t169 = true
    · subst c7
      have H1 : (some true) = some r := by rw [if_pos rfl] at H; exact H
      clear H
      have H := H1
      clear H1
      obtain rfl := Option.some.inj H
      go_enter Tryd.func4, Tryd.ntmps4
      go_wp2_with (first | ((with_reducible refine gate_dst (N := 3) rfl ?_); refine box_event ?hg (N := 3) ?hd (cs := #[.int .i64 a0_0, .int .i64 a0_1, .string a0_2]) (t := 34) ?hr ?_; (case hd => rfl); (case hg => rfl); (case hr => first | (go_simp; done) | (go_simp; rfl)); intro gb164 hg w8 hbox hb; have n0_ := Aside0.mk (below_step (by repeat (first | (with_reducible first | exact HB.out | apply below_alloc | apply pw_below_drewN | apply below_drew1) | exact HB.out)) hb); have n1_ := Aside0.mk (hbox); have n2_ := Aside0.mk ((by rw [hg]; exact (below_size (by repeat (first | (with_reducible first | exact HB.out | apply below_alloc | apply pw_below_drewN | apply below_drew1) | exact HB.out))) : w.heap.size ≤ gb164)); have n3_ := Aside0.mk ((by rw [hg]; exact (below_size (by repeat (first | (with_reducible first | exact HB.out | apply below_alloc | apply pw_below_drewN | apply below_drew1) | exact HB.out))) : w.heap.size ≤ gb164)); clear HB; have HB := n0_; have BK164 := n1_; have GW164 := n2_; have GE164 := n3_; clear n0_ n1_ n2_ n3_; clear hb hbox hg) | ((with_reducible refine gate_callee (f := 10) rfl ?_); refine goesL_ (some 7) rfl rfl Tryd.func10 (by kernel_rfl) rfl #[] rfl (by (try simp only [List.map_toArray, List.map_cons, List.map_nil]); first | done | rfl | (simp only [List.length_drop, List.length_take]; rfl)) ?_; (with_reducible refine (mortmainlaw03_alive.calls k  true _ ?side1 A4.out).mono ?_); (case side1 => first | (with_reducible exact HT.out) | (with_reducible exact Tabs.drewN HT.out _) | exact Tabs.below HT.out (by repeat (first | (with_reducible first | exact HB.out | apply below_alloc | apply pw_below_drewN | apply below_drew1 | refine below_set ?_ GE164.out) | exact HB.out))); rintro e w9 ⟨rfl, hb⟩; refine ⟨_, rfl, ?_⟩; have n0_ := Aside0.mk (blk_below (g := gb164) (o := .cells #[.int .i64 a0_0, .int .i64 a0_1, .string a0_2] 34 (0, 0)) (by (with_reducible repeat (first | refine blk_drewN ?_ _ | refine blk_drew ?_ | refine blk_alloc ?_ _)); exact BK164.out) hb); have n1_ := Aside0.mk (below_step (by repeat (first | (with_reducible first | exact HB.out | apply below_alloc | apply pw_below_drewN | apply below_drew1 | refine below_set ?_ GE164.out) | exact HB.out)) hb); clear BK164; clear HB; have BK164 := n0_; have HB := n1_; clear n0_ n1_; (try clear hb); (try clear hb2); (try clear hk); (try clear hi); have hcz10_0 : w9.cell? ⟨gb164, 0, none⟩ = some (.int .i64 a0_0) := (blk_cell BK164.out 0).trans rfl; have hcz10_1 : w9.cell? ⟨gb164, 1, none⟩ = some (.int .i64 a0_1) := (blk_cell BK164.out 1).trans rfl; have hcz10_2 : w9.cell? ⟨gb164, 2, none⟩ = some (.string a0_2) := (blk_cell BK164.out 2).trans rfl; have hfz10_0 := blk_frozen BK164.out 0; have hfz10_1 := blk_frozen BK164.out 1; have hfz10_2 := blk_frozen BK164.out 2) | ((with_reducible refine gate_dst (N := 10) rfl ?_); refine Kd.R_lit k34 _ 34 ?hg (N := 10) ?hd (xs := ([(⟨a0_0, a0_1, a0_2⟩ : S34)] : List (S34))) (inner := [.int .i64 a0_0, .int .i64 a0_1, .string a0_2]) (ok := fun _ => True) (okp := fun _ => True) ?hr ?hp (fun _ hk => hk) trivial (Below.refl _ _) (Nat.le_refl _) (by simp) ?_; (case hd => rfl); (case hg => rfl); (case hr => first | (go_simp; done) | (go_simp; rfl)); (case hp => exact (Reps.c3 (show Kd.M k34 _ _ _ (⟨a0_0, a0_1, a0_2⟩ : S34) [.int .i64 a0_0, .int .i64 a0_1, .string a0_2] from (k34_mkM _ _ _ (⟨a0_0, a0_1, a0_2⟩ : S34) )) (Reps.none _ _))); intro v167 w11 ho12 hb hg_ hnew_; clear hg_ hnew_; (first | rw [← Ny166.out] at ho12 | (simp only [Int.reduceToNat] at ho12; rw [← Ny166.out] at ho12)); have n0_ := Aside0.mk (Kd.R_lower (Kd.R_newB ho12 (g := gb164) (o := .cells #[.int .i64 a0_0, .int .i64 a0_1, .string a0_2] 34 (0, 0)) (by (with_reducible repeat (first | refine blk_drewN ?_ _ | refine blk_drew ?_ | refine blk_alloc ?_ _)); exact BK164.out)) (below_size (by repeat (first | (with_reducible first | exact HB.out | apply below_alloc | apply pw_below_drewN | apply below_drew1 | refine below_set ?_ GE164.out) | exact HB.out)))); have n1_ := Aside0.mk (blk_below (g := gb164) (o := .cells #[.int .i64 a0_0, .int .i64 a0_1, .string a0_2] 34 (0, 0)) (by (with_reducible repeat (first | refine blk_drewN ?_ _ | refine blk_drew ?_ | refine blk_alloc ?_ _)); exact BK164.out) hb); have n2_ := Aside0.mk (below_step (by repeat (first | (with_reducible first | exact HB.out | apply below_alloc | apply pw_below_drewN | apply below_drew1 | refine below_set ?_ GE164.out) | exact HB.out)) hb); clear BK164; clear HB; have HO168 := n0_; have BK164 := n1_; have HB := n2_; clear n0_ n1_ n2_; clear hb ho12; obtain ⟨Ao13, co13, eo13⟩ := Kd.R_slice HO168.out; subst eo13) | ((with_reducible refine gate_callee (f := 11) rfl ?_); refine goesL_ (some 11) rfl rfl Tryd.func11 (by kernel_rfl) rfl #[.slice Ao13 y166.length co13] rfl (by (try simp only [List.map_toArray, List.map_cons, List.map_nil]); first | done | rfl | (simp only [List.length_drop, List.length_take]; rfl)) ?_; (with_reducible refine (mortmainlaw03_great.calls k _ _ y166 true _ ?side1 ?side2 A6.out).mono ?_); (case side1 => repeat (first | exact (Kd.R_reads' HO168.out).2.2 | (with_reducible refine Kd.C_alloc ?_ _) | (with_reducible refine Kd.C_drewN ?_ _) | (with_reducible refine Kd.C_drew ?_))); (case side2 => exact (Kd.R_reads' HO168.out).2.1); rintro e w14 ⟨rfl, hb⟩; refine ⟨_, rfl, ?_⟩; have n0_ := Aside0.mk (Kd.R_below (by (with_reducible repeat (first | apply Kd.R_alloc | apply Kd.R_drewN | apply Kd.R_drew)); exact HO168.out) hb); have n1_ := Aside0.mk (blk_below (g := gb164) (o := .cells #[.int .i64 a0_0, .int .i64 a0_1, .string a0_2] 34 (0, 0)) (by (with_reducible repeat (first | refine blk_drewN ?_ _ | refine blk_drew ?_ | refine blk_alloc ?_ _)); exact BK164.out) hb); have n2_ := Aside0.mk (below_step (by repeat (first | (with_reducible first | exact HB.out | apply below_alloc | apply pw_below_drewN | apply below_drew1 | refine below_set ?_ GE164.out) | exact HB.out)) hb); clear HO168; clear BK164; clear HB; have HO168 := n0_; have BK164 := n1_; have HB := n2_; clear n0_ n1_ n2_; (try clear hb); (try clear hb2); (try clear hk); (try clear hi)))
      go_ret
      exact ⟨by first | rfl | (simp [errW_none, errW_some] <;> rfl) | (simp [*, errW_none, errW_some] <;> rfl), by repeat (first | (with_reducible first | exact HB.out | apply below_alloc | apply pw_below_drewN | apply below_drew1 | refine below_set ?_ GE164.out) | exact HB.out)⟩
    · replace c7 := Bool.eq_false_iff.mpr c7
      subst c7
      have H1 : ((value_Good.f a0_0 a0_1 a0_2).bind fun t170 => ((mortmainref03_Good.f a0_0 a0_1 a0_2).bind fun t171 => (if (t170 == t171) = true then ((value_Int.f a1).bind fun bt172 => (if (bt172.1 == 1 && (bt172.2.1 == a1 && (bt172.2.2.toList.isEmpty))) = true then ((value_Float.f a2).bind fun bt175 => ((mortmainref02_Kept.f a2).bind fun t178 => (if (bt175.1 == 2 && (bt175.2.1 == t178 && (bt175.2.2.toList.isEmpty))) = true then ((value_Text.f a0_2).bind fun bt179 => (some (bt179.1 == 3 && (bt179.2.1 == 0 && (bt179.2.2.toList == a0_2.toList))))) else (some false)))) else (some false))) else (some false)))) = some r := by rw [if_neg (show ¬ (false = true) by decide)] at H; exact H
      clear H
      have H := H1
      clear H1
      replace H := Option.bind_eq_some_iff.mp H
      obtain ⟨t170, A150, H⟩ := H
      replace H : ((mortmainref03_Good.f a0_0 a0_1 a0_2).bind fun t171 => (if (t170 == t171) = true then ((value_Int.f a1).bind fun bt172 => (if (bt172.1 == 1 && (bt172.2.1 == a1 && (bt172.2.2.toList.isEmpty))) = true then ((value_Float.f a2).bind fun bt175 => ((mortmainref02_Kept.f a2).bind fun t178 => (if (bt175.1 == 2 && (bt175.2.1 == t178 && (bt175.2.2.toList.isEmpty))) = true then ((value_Text.f a0_2).bind fun bt179 => (some (bt179.1 == 3 && (bt179.2.1 == 0 && (bt179.2.2.toList == a0_2.toList))))) else (some false)))) else (some false))) else (some false))) = some r := H
      have A15 := Aside0.mk A150
      clear A150
      replace H := Option.bind_eq_some_iff.mp H
      obtain ⟨t171, A160, H⟩ := H
      replace H : (if (t170 == t171) = true then ((value_Int.f a1).bind fun bt172 => (if (bt172.1 == 1 && (bt172.2.1 == a1 && (bt172.2.2.toList.isEmpty))) = true then ((value_Float.f a2).bind fun bt175 => ((mortmainref02_Kept.f a2).bind fun t178 => (if (bt175.1 == 2 && (bt175.2.1 == t178 && (bt175.2.2.toList.isEmpty))) = true then ((value_Text.f a0_2).bind fun bt179 => (some (bt179.1 == 3 && (bt179.2.1 == 0 && (bt179.2.2.toList == a0_2.toList))))) else (some false)))) else (some false))) else (some false)) = some r := H
      have A16 := Aside0.mk A160
      clear A160
      by_cases c17 : (t170 == t171) = true
      · rw [if_pos c17] at H
        have c17b0 : (t170 == t171) = true := c17
        (try (have c17b1 : decide (t170 = t171) = true := by simpa using c17))
        (try (have c17b2 : (t170 == t171) = true := by simpa using c17))
        clear c17
        replace H := Option.bind_eq_some_iff.mp H
        obtain ⟨⟨t172, t173, t174⟩, A180, H⟩ := H
        replace H : (if (t172 == 1 && (t173 == a1 && (t174.toList.isEmpty))) = true then ((value_Float.f a2).bind fun bt175 => ((mortmainref02_Kept.f a2).bind fun t178 => (if (bt175.1 == 2 && (bt175.2.1 == t178 && (bt175.2.2.toList.isEmpty))) = true then ((value_Text.f a0_2).bind fun bt179 => (some (bt179.1 == 3 && (bt179.2.1 == 0 && (bt179.2.2.toList == a0_2.toList))))) else (some false)))) else (some false)) = some r := H
        have A18 := Aside0.mk A180
        clear A180
        by_cases c19 : (t172 == 1 && (t173 == a1 && (t174.toList.isEmpty))) = true
        · rw [if_pos c19] at H
          have c19b0 : (t172 == 1 && (t173 == a1 && (t174.toList.isEmpty))) = true := c19
          (try (have c19b1 : decide (t172 = 1 && (t173 == a1 && (t174.toList.isEmpty))) = true := by simpa using c19))
          (try (have c19b2 : (t172 == 1 && (t173 == a1 && (t174.toList.isEmpty))) = true := by simpa using c19))
          clear c19
          replace H := Option.bind_eq_some_iff.mp H
          obtain ⟨⟨t175, t176, t177⟩, A200, H⟩ := H
          replace H : ((mortmainref02_Kept.f a2).bind fun t178 => (if (t175 == 2 && (t176 == t178 && (t177.toList.isEmpty))) = true then ((value_Text.f a0_2).bind fun bt179 => (some (bt179.1 == 3 && (bt179.2.1 == 0 && (bt179.2.2.toList == a0_2.toList))))) else (some false))) = some r := H
          have A20 := Aside0.mk A200
          clear A200
          replace H := Option.bind_eq_some_iff.mp H
          obtain ⟨t178, A210, H⟩ := H
          replace H : (if (t175 == 2 && (t176 == t178 && (t177.toList.isEmpty))) = true then ((value_Text.f a0_2).bind fun bt179 => (some (bt179.1 == 3 && (bt179.2.1 == 0 && (bt179.2.2.toList == a0_2.toList))))) else (some false)) = some r := H
          have A21 := Aside0.mk A210
          clear A210
          by_cases c22 : (t175 == 2 && (t176 == t178 && (t177.toList.isEmpty))) = true
          · rw [if_pos c22] at H
            have c22b0 : (t175 == 2 && (t176 == t178 && (t177.toList.isEmpty))) = true := c22
            (try (have c22b1 : decide (t175 = 2 && (t176 == t178 && (t177.toList.isEmpty))) = true := by simpa using c22))
            (try (have c22b2 : (t175 == 2 && (t176 == t178 && (t177.toList.isEmpty))) = true := by simpa using c22))
            clear c22
            replace H := Option.bind_eq_some_iff.mp H
            obtain ⟨⟨t179, t180, t181⟩, A230, H⟩ := H
            replace H : (some (t179 == 3 && (t180 == 0 && (t181.toList == a0_2.toList)))) = some r := H
            have A23 := Aside0.mk A230
            clear A230
            obtain rfl := Option.some.inj H
            go_enter Tryd.func4, Tryd.ntmps4
            try go_wp2_with (first | ((with_reducible refine gate_dst (N := 3) rfl ?_); refine box_event ?hg (N := 3) ?hd (cs := #[.int .i64 a0_0, .int .i64 a0_1, .string a0_2]) (t := 34) ?hr ?_; (case hd => rfl); (case hg => rfl); (case hr => first | (go_simp; done) | (go_simp; rfl)); intro gb164 hg w24 hbox hb; have n0_ := Aside0.mk (below_step (by repeat (first | (with_reducible first | exact HB.out | apply below_alloc | apply pw_below_drewN | apply below_drew1) | exact HB.out)) hb); have n1_ := Aside0.mk (hbox); have n2_ := Aside0.mk ((by rw [hg]; exact (below_size (by repeat (first | (with_reducible first | exact HB.out | apply below_alloc | apply pw_below_drewN | apply below_drew1) | exact HB.out))) : w.heap.size ≤ gb164)); have n3_ := Aside0.mk ((by rw [hg]; exact (below_size (by repeat (first | (with_reducible first | exact HB.out | apply below_alloc | apply pw_below_drewN | apply below_drew1) | exact HB.out))) : w.heap.size ≤ gb164)); clear HB; have HB := n0_; have BK164 := n1_; have GW164 := n2_; have GE164 := n3_; clear n0_ n1_ n2_ n3_; clear hb hbox hg) | ((with_reducible refine gate_callee (f := 10) rfl ?_); refine goesL_ (some 7) rfl rfl Tryd.func10 (by kernel_rfl) rfl #[] rfl (by (try simp only [List.map_toArray, List.map_cons, List.map_nil]); first | done | rfl | (simp only [List.length_drop, List.length_take]; rfl)) ?_; (with_reducible refine (mortmainlaw03_alive.calls k  true _ ?side1 A4.out).mono ?_); (case side1 => first | (with_reducible exact HT.out) | (with_reducible exact Tabs.drewN HT.out _) | exact Tabs.below HT.out (by repeat (first | (with_reducible first | exact HB.out | apply below_alloc | apply pw_below_drewN | apply below_drew1 | refine below_set ?_ GE164.out) | exact HB.out))); rintro e w25 ⟨rfl, hb⟩; refine ⟨_, rfl, ?_⟩; have n0_ := Aside0.mk (blk_below (g := gb164) (o := .cells #[.int .i64 a0_0, .int .i64 a0_1, .string a0_2] 34 (0, 0)) (by (with_reducible repeat (first | refine blk_drewN ?_ _ | refine blk_drew ?_ | refine blk_alloc ?_ _)); exact BK164.out) hb); have n1_ := Aside0.mk (below_step (by repeat (first | (with_reducible first | exact HB.out | apply below_alloc | apply pw_below_drewN | apply below_drew1 | refine below_set ?_ GE164.out) | exact HB.out)) hb); clear BK164; clear HB; have BK164 := n0_; have HB := n1_; clear n0_ n1_; (try clear hb); (try clear hb2); (try clear hk); (try clear hi); have hcz26_0 : w25.cell? ⟨gb164, 0, none⟩ = some (.int .i64 a0_0) := (blk_cell BK164.out 0).trans rfl; have hcz26_1 : w25.cell? ⟨gb164, 1, none⟩ = some (.int .i64 a0_1) := (blk_cell BK164.out 1).trans rfl; have hcz26_2 : w25.cell? ⟨gb164, 2, none⟩ = some (.string a0_2) := (blk_cell BK164.out 2).trans rfl; have hfz26_0 := blk_frozen BK164.out 0; have hfz26_1 := blk_frozen BK164.out 1; have hfz26_2 := blk_frozen BK164.out 2) | ((with_reducible refine gate_dst (N := 10) rfl ?_); refine Kd.R_lit k34 _ 34 ?hg (N := 10) ?hd (xs := ([(⟨a0_0, a0_1, a0_2⟩ : S34)] : List (S34))) (inner := [.int .i64 a0_0, .int .i64 a0_1, .string a0_2]) (ok := fun _ => True) (okp := fun _ => True) ?hr ?hp (fun _ hk => hk) trivial (Below.refl _ _) (Nat.le_refl _) (by simp) ?_; (case hd => rfl); (case hg => rfl); (case hr => first | (go_simp; done) | (go_simp; rfl)); (case hp => exact (Reps.c3 (show Kd.M k34 _ _ _ (⟨a0_0, a0_1, a0_2⟩ : S34) [.int .i64 a0_0, .int .i64 a0_1, .string a0_2] from (k34_mkM _ _ _ (⟨a0_0, a0_1, a0_2⟩ : S34) )) (Reps.none _ _))); intro v167 w27 ho28 hb hg_ hnew_; clear hg_ hnew_; (first | rw [← Ny166.out] at ho28 | (simp only [Int.reduceToNat] at ho28; rw [← Ny166.out] at ho28)); have n0_ := Aside0.mk (Kd.R_lower (Kd.R_newB ho28 (g := gb164) (o := .cells #[.int .i64 a0_0, .int .i64 a0_1, .string a0_2] 34 (0, 0)) (by (with_reducible repeat (first | refine blk_drewN ?_ _ | refine blk_drew ?_ | refine blk_alloc ?_ _)); exact BK164.out)) (below_size (by repeat (first | (with_reducible first | exact HB.out | apply below_alloc | apply pw_below_drewN | apply below_drew1 | refine below_set ?_ GE164.out) | exact HB.out)))); have n1_ := Aside0.mk (blk_below (g := gb164) (o := .cells #[.int .i64 a0_0, .int .i64 a0_1, .string a0_2] 34 (0, 0)) (by (with_reducible repeat (first | refine blk_drewN ?_ _ | refine blk_drew ?_ | refine blk_alloc ?_ _)); exact BK164.out) hb); have n2_ := Aside0.mk (below_step (by repeat (first | (with_reducible first | exact HB.out | apply below_alloc | apply pw_below_drewN | apply below_drew1 | refine below_set ?_ GE164.out) | exact HB.out)) hb); clear BK164; clear HB; have HO168 := n0_; have BK164 := n1_; have HB := n2_; clear n0_ n1_ n2_; clear hb ho28; obtain ⟨Ao29, co29, eo29⟩ := Kd.R_slice HO168.out; subst eo29) | ((with_reducible refine gate_callee (f := 11) rfl ?_); refine goesL_ (some 11) rfl rfl Tryd.func11 (by kernel_rfl) rfl #[.slice Ao29 y166.length co29] rfl (by (try simp only [List.map_toArray, List.map_cons, List.map_nil]); first | done | rfl | (simp only [List.length_drop, List.length_take]; rfl)) ?_; (with_reducible refine (mortmainlaw03_great.calls k _ _ y166 false _ ?side1 ?side2 A6.out).mono ?_); (case side1 => repeat (first | exact (Kd.R_reads' HO168.out).2.2 | (with_reducible refine Kd.C_alloc ?_ _) | (with_reducible refine Kd.C_drewN ?_ _) | (with_reducible refine Kd.C_drew ?_))); (case side2 => exact (Kd.R_reads' HO168.out).2.1); rintro e w30 ⟨rfl, hb⟩; refine ⟨_, rfl, ?_⟩; have n0_ := Aside0.mk (Kd.R_below (by (with_reducible repeat (first | apply Kd.R_alloc | apply Kd.R_drewN | apply Kd.R_drew)); exact HO168.out) hb); have n1_ := Aside0.mk (blk_below (g := gb164) (o := .cells #[.int .i64 a0_0, .int .i64 a0_1, .string a0_2] 34 (0, 0)) (by (with_reducible repeat (first | refine blk_drewN ?_ _ | refine blk_drew ?_ | refine blk_alloc ?_ _)); exact BK164.out) hb); have n2_ := Aside0.mk (below_step (by repeat (first | (with_reducible first | exact HB.out | apply below_alloc | apply pw_below_drewN | apply below_drew1 | refine below_set ?_ GE164.out) | exact HB.out)) hb); clear HO168; clear BK164; clear HB; have HO168 := n0_; have BK164 := n1_; have HB := n2_; clear n0_ n1_ n2_; (try clear hb); (try clear hb2); (try clear hk); (try clear hi)))
            have n0_ := Aside0.mk (Kd.R_drew HO168.out)
            have n1_ := Aside0.mk (blk_drew BK164.out)
            have n2_ := Aside0.mk (below_drew1 HB.out)
            clear HO168
            clear BK164
            clear HB
            have HO168 := n0_
            have BK164 := n1_
            have HB := n2_
            clear n0_ n1_ n2_
            refine start_ (n := 30) (S := fun w' => w'.cell? ⟨gb164, 0, none⟩ = some (.int .i64 a0_0) ∧ w'.cell? ⟨gb164, 1, none⟩ = some (.int .i64 a0_1) ∧ w'.cell? ⟨gb164, 2, none⟩ = some (.string a0_2)) (ds := []) #[false, false, false, false, false, false, false, false, false, false, false, false, false, false, false, false, false, false, false, false, false, false, false, false, false, false, false, false, false, false] (by kernel_rfl) rfl rfl ⟨(blk_cell BK164.out 0).trans rfl, (blk_cell BK164.out 1).trans rfl, (blk_cell BK164.out 2).trans rfl⟩ (fun hHeld => ?_); refine with_tabW mortmainlaw03_ValueGood.tab5 mortmainlaw03_ValueGood.bits5 (fun HT_ HW_ => ?_)
            generalize w30.drew = w31 at HO168 BK164 HB hHeld ⊢
            refine take_ (i := 0) (N := some 12) (v := ?_) (a' := ?_) #[true, false, false, false, false, false, false, false, false, false, false, false, false, false, false, false, false, false, false, false, false, false, false, false, false, false, false, false, false, false] rfl rfl (take_ofW HT_.out HW_.out (by kernel_rfl)) (fun _ _ _ h => h) (Or.inl ⟨by rfl, ?_⟩) hHeld ?_ ?_
            rotate_left
            · rintro w' ⟨s0, s1, s2⟩
              go_simp
              with_reducible rfl
            rotate_left
            · simp only [Act.put, List.setIfInBounds_toArray, List.set_cons_zero, List.set_cons_succ, i64_w, i32_w]
              rfl
            refine take_ (i := 2) (N := some 14) (v := ?_) (a' := ?_) #[true, false, true, false, false, false, false, false, false, false, false, false, false, false, false, false, false, false, false, false, false, false, false, false, false, false, false, false, false, false] rfl rfl (take_ofW HT_.out HW_.out (by kernel_rfl)) (fun _ _ _ h => h) (Or.inl ⟨by rfl, ?_⟩) hHeld ?_ ?_
            rotate_left
            · rintro w' ⟨s0, s1, s2⟩
              go_simp
              with_reducible rfl
            rotate_left
            · simp only [Act.put, List.setIfInBounds_toArray, List.set_cons_zero, List.set_cons_succ, i64_w, i32_w]
              rfl
            refine one_ (i := 1) (N := some 13) #[true, true, true, false, false, false, false, false, false, false, false, false, false, false, false, false, false, false, false, false, false, false, false, false, false, false, false, false, false, false] rfl rfl (one_of HT_.out (by kernel_rfl)) (by decide) (fun K hK => ?_)
            refine goes_ Tryd.func12 (by kernel_rfl) rfl #[.agg #[.int .i64 a0_0, .int .i64 a0_1, .string a0_2]] (by rfl) rfl rfl (by (try simp only [List.map_toArray, List.map_cons, List.map_nil]); first | done | rfl | (simp only [List.length_drop, List.length_take]; rfl)) ?_
            with_reducible refine (value_Good.calls a0_0 a0_1 a0_2 t170 _ A15.out).mono ?_
            rintro e w32 ⟨rfl, hb⟩
            refine ⟨_, rfl, ?_⟩
            have n0_ := Aside0.mk (Kd.R_below (by (with_reducible repeat (first | apply Kd.R_alloc | apply Kd.R_drewN | apply Kd.R_drew)); exact HO168.out) hb)
            have n1_ := Aside0.mk (blk_below (g := gb164) (o := .cells #[.int .i64 a0_0, .int .i64 a0_1, .string a0_2] 34 (0, 0)) (by (with_reducible repeat (first | refine blk_drewN ?_ _ | refine blk_drew ?_ | refine blk_alloc ?_ _)); exact BK164.out) hb)
            have n2_ := Aside0.mk (below_step (by repeat (first | (with_reducible first | exact HB.out | apply below_alloc | apply pw_below_drewN | apply below_drew1 | refine below_set ?_ GE164.out) | exact HB.out)) hb)
            clear HO168
            clear BK164
            clear HB
            have HO168 := n0_
            have BK164 := n1_
            have HB := n2_
            clear n0_ n1_ n2_
            (try clear hb)
            (try clear hb2)
            (try clear hk)
            (try clear hi)
            refine hK.out _ _ ⟨(blk_cell BK164.out 0).trans rfl, (blk_cell BK164.out 1).trans rfl, (blk_cell BK164.out 2).trans rfl⟩ (fun hHeld => ?_)
            clear hK K
            refine norm_ (a' := ?_) ?_ ?_
            rotate_left
            · show Act.put _ (some 13) _ = _
              simp only [Act.put, List.setIfInBounds_toArray, List.set_cons_zero, List.set_cons_succ, i64_w, i32_w]
              rfl
            refine one_ (i := 3) (N := some 15) #[true, true, true, true, false, false, false, false, false, false, false, false, false, false, false, false, false, false, false, false, false, false, false, false, false, false, false, false, false, false] rfl rfl (one_of HT_.out (by kernel_rfl)) (by decide) (fun K hK => ?_)
            refine goes_ Tryd.func13 (by kernel_rfl) rfl #[.agg #[.int .i64 a0_0, .int .i64 a0_1, .string a0_2]] (by rfl) rfl rfl (by (try simp only [List.map_toArray, List.map_cons, List.map_nil]); first | done | rfl | (simp only [List.length_drop, List.length_take]; rfl)) ?_
            with_reducible refine (mortmainref03_Good.calls a0_0 a0_1 a0_2 t171 _ A16.out).mono ?_
            rintro e w33 ⟨rfl, hb⟩
            refine ⟨_, rfl, ?_⟩
            have n0_ := Aside0.mk (Kd.R_below (by (with_reducible repeat (first | apply Kd.R_alloc | apply Kd.R_drewN | apply Kd.R_drew)); exact HO168.out) hb)
            have n1_ := Aside0.mk (blk_below (g := gb164) (o := .cells #[.int .i64 a0_0, .int .i64 a0_1, .string a0_2] 34 (0, 0)) (by (with_reducible repeat (first | refine blk_drewN ?_ _ | refine blk_drew ?_ | refine blk_alloc ?_ _)); exact BK164.out) hb)
            have n2_ := Aside0.mk (below_step (by repeat (first | (with_reducible first | exact HB.out | apply below_alloc | apply pw_below_drewN | apply below_drew1 | refine below_set ?_ GE164.out) | exact HB.out)) hb)
            clear HO168
            clear BK164
            clear HB
            have HO168 := n0_
            have BK164 := n1_
            have HB := n2_
            clear n0_ n1_ n2_
            (try clear hb)
            (try clear hb2)
            (try clear hk)
            (try clear hi)
            refine hK.out _ _ ⟨(blk_cell BK164.out 0).trans rfl, (blk_cell BK164.out 1).trans rfl, (blk_cell BK164.out 2).trans rfl⟩ (fun hHeld => ?_)
            clear hK K
            refine norm_ (a' := ?_) ?_ ?_
            rotate_left
            · show Act.put _ (some 15) _ = _
              simp only [Act.put, List.setIfInBounds_toArray, List.set_cons_zero, List.set_cons_succ, i64_w, i32_w]
              rfl
            refine pure_ (i := 4) (N := some 16) (v := ?_) (a' := ?_) #[true, true, true, true, true, false, false, false, false, false, false, false, false, false, false, false, false, false, false, false, false, false, false, false, false, false, false, false, false, false] rfl rfl (any_of HT_.out (by kernel_rfl)) (fun _ _ _ h => h) (Or.inl ⟨by rfl, ?_⟩) ?_ ?_
            rotate_left
            · intro w'
              go_simp
              with_reducible rfl
            rotate_left
            · simp only [Act.put, List.setIfInBounds_toArray, List.set_cons_zero, List.set_cons_succ, i64_w, i32_w]
              rfl
            refine pure_ (i := 5) (N := some 17) (v := ?_) (a' := ?_) #[true, true, true, true, true, true, false, false, false, false, false, false, false, false, false, false, false, false, false, false, false, false, false, false, false, false, false, false, false, false] rfl rfl (any_of HT_.out (by kernel_rfl)) (fun _ _ _ h => h) (Or.inl ⟨by rfl, ?_⟩) ?_ ?_
            rotate_left
            · intro w'
              go_simp
              with_reducible rfl
            rotate_left
            · simp only [Act.put, List.setIfInBounds_toArray, List.set_cons_zero, List.set_cons_succ, i64_w, i32_w]
              rfl
            refine pure_ (i := 6) (N := some 18) (v := ?_) (a' := ?_) #[true, true, true, true, true, true, true, false, false, false, false, false, false, false, false, false, false, false, false, false, false, false, false, false, false, false, false, false, false, false] rfl rfl (any_of HT_.out (by kernel_rfl)) (fun _ _ _ h => h) (Or.inl ⟨by rfl, ?_⟩) ?_ ?_
            rotate_left
            · intro w'
              go_simp
              with_reducible rfl
            rotate_left
            · simp only [Act.put, List.setIfInBounds_toArray, List.set_cons_zero, List.set_cons_succ, i64_w, i32_w]
              rfl
            refine pure_ (i := 8) (N := some 20) (v := ?_) (a' := ?_) #[true, true, true, true, true, true, true, false, true, false, false, false, false, false, false, false, false, false, false, false, false, false, false, false, false, false, false, false, false, false] rfl rfl (any_of HT_.out (by kernel_rfl)) (fun _ _ _ h => h) (Or.inl ⟨by rfl, ?_⟩) ?_ ?_
            rotate_left
            · intro w'
              go_simp
              with_reducible rfl
            rotate_left
            · simp only [Act.put, List.setIfInBounds_toArray, List.set_cons_zero, List.set_cons_succ, i64_w, i32_w]
              rfl
            refine pure_ (i := 9) (N := some 21) (v := ?_) (a' := ?_) #[true, true, true, true, true, true, true, false, true, true, false, false, false, false, false, false, false, false, false, false, false, false, false, false, false, false, false, false, false, false] rfl rfl (any_of HT_.out (by kernel_rfl)) (fun _ _ _ h => h) (Or.inl ⟨by rfl, ?_⟩) ?_ ?_
            rotate_left
            · intro w'
              go_simp
              with_reducible rfl
            rotate_left
            · simp only [Act.put, List.setIfInBounds_toArray, List.set_cons_zero, List.set_cons_succ, i64_w, i32_w]
              rfl
            refine one_ (i := 7) (N := some 19) #[true, true, true, true, true, true, true, true, true, true, false, false, false, false, false, false, false, false, false, false, false, false, false, false, false, false, false, false, false, false] rfl rfl (one_of HT_.out (by kernel_rfl)) (by decide) (fun K hK => ?_)
            refine goes_ Tryd.func14 (by kernel_rfl) rfl #[.int .i64 a1] (by rfl) rfl rfl (by (try simp only [List.map_toArray, List.map_cons, List.map_nil]); first | done | rfl | (simp only [List.length_drop, List.length_take]; rfl)) ?_
            with_reducible refine (value_Int.calls a1 t172 t173 t174 _ A18.out).mono ?_
            rintro e w34 ⟨rfl, hb⟩
            refine ⟨_, rfl, ?_⟩
            have n0_ := Aside0.mk (Kd.R_below (by (with_reducible repeat (first | apply Kd.R_alloc | apply Kd.R_drewN | apply Kd.R_drew)); exact HO168.out) hb)
            have n1_ := Aside0.mk (blk_below (g := gb164) (o := .cells #[.int .i64 a0_0, .int .i64 a0_1, .string a0_2] 34 (0, 0)) (by (with_reducible repeat (first | refine blk_drewN ?_ _ | refine blk_drew ?_ | refine blk_alloc ?_ _)); exact BK164.out) hb)
            have n2_ := Aside0.mk (below_step (by repeat (first | (with_reducible first | exact HB.out | apply below_alloc | apply pw_below_drewN | apply below_drew1 | refine below_set ?_ GE164.out) | exact HB.out)) hb)
            clear HO168
            clear BK164
            clear HB
            have HO168 := n0_
            have BK164 := n1_
            have HB := n2_
            clear n0_ n1_ n2_
            (try clear hb)
            (try clear hb2)
            (try clear hk)
            (try clear hi)
            refine hK.out _ _ ⟨(blk_cell BK164.out 0).trans rfl, (blk_cell BK164.out 1).trans rfl, (blk_cell BK164.out 2).trans rfl⟩ (fun hHeld => ?_)
            clear hK K
            refine norm_ (a' := ?_) ?_ ?_
            rotate_left
            · show Act.put _ (some 19) _ = _
              simp only [Act.put, List.setIfInBounds_toArray, List.set_cons_zero, List.set_cons_succ, i64_w, i32_w]
              rfl
            refine pure_ (i := 10) (N := some 22) (v := ?_) (a' := ?_) #[true, true, true, true, true, true, true, true, true, true, true, false, false, false, false, false, false, false, false, false, false, false, false, false, false, false, false, false, false, false] rfl rfl (any_of HT_.out (by kernel_rfl)) (fun _ _ _ h => h) (Or.inl ⟨by rfl, ?_⟩) ?_ ?_
            rotate_left
            · intro w'
              go_simp
              with_reducible rfl
            rotate_left
            · simp only [Act.put, List.setIfInBounds_toArray, List.set_cons_zero, List.set_cons_succ, i64_w, i32_w]
              rfl
            refine pure_ (i := 11) (N := some 23) (v := ?_) (a' := ?_) #[true, true, true, true, true, true, true, true, true, true, true, true, false, false, false, false, false, false, false, false, false, false, false, false, false, false, false, false, false, false] rfl rfl (any_of HT_.out (by kernel_rfl)) (fun _ _ _ h => h) (Or.inl ⟨by rfl, ?_⟩) ?_ ?_
            rotate_left
            · intro w'
              go_simp
              with_reducible rfl
            rotate_left
            · simp only [Act.put, List.setIfInBounds_toArray, List.set_cons_zero, List.set_cons_succ, i64_w, i32_w]
              rfl
            refine pure_ (i := 12) (N := some 24) (v := ?_) (a' := ?_) #[true, true, true, true, true, true, true, true, true, true, true, true, true, false, false, false, false, false, false, false, false, false, false, false, false, false, false, false, false, false] rfl rfl (any_of HT_.out (by kernel_rfl)) (fun _ _ _ h => h) (Or.inl ⟨by rfl, ?_⟩) ?_ ?_
            rotate_left
            · intro w'
              go_simp
              with_reducible rfl
            rotate_left
            · simp only [Act.put, List.setIfInBounds_toArray, List.set_cons_zero, List.set_cons_succ, i64_w, i32_w]
              rfl
            refine pure_ (i := 13) (N := some 25) (v := ?_) (a' := ?_) #[true, true, true, true, true, true, true, true, true, true, true, true, true, true, false, false, false, false, false, false, false, false, false, false, false, false, false, false, false, false] rfl rfl (any_of HT_.out (by kernel_rfl)) (fun _ _ _ h => h) (Or.inl ⟨by rfl, ?_⟩) ?_ ?_
            rotate_left
            · intro w'
              go_simp
              with_reducible rfl
            rotate_left
            · simp only [Act.put, List.setIfInBounds_toArray, List.set_cons_zero, List.set_cons_succ, i64_w, i32_w]
              rfl
            refine pure_ (i := 15) (N := some 27) (v := ?_) (a' := ?_) #[true, true, true, true, true, true, true, true, true, true, true, true, true, true, false, true, false, false, false, false, false, false, false, false, false, false, false, false, false, false] rfl rfl (any_of HT_.out (by kernel_rfl)) (fun _ _ _ h => h) (Or.inl ⟨by rfl, ?_⟩) ?_ ?_
            rotate_left
            · intro w'
              go_simp
              with_reducible rfl
            rotate_left
            · simp only [Act.put, List.setIfInBounds_toArray, List.set_cons_zero, List.set_cons_succ, i64_w, i32_w]
              rfl
            refine one_ (i := 14) (N := some 26) #[true, true, true, true, true, true, true, true, true, true, true, true, true, true, true, true, false, false, false, false, false, false, false, false, false, false, false, false, false, false] rfl rfl (one_of HT_.out (by kernel_rfl)) (by decide) (fun K hK => ?_)
            refine goes_ Tryd.func15 (by kernel_rfl) rfl #[.float .f64 a2] (by rfl) rfl rfl (by (try simp only [List.map_toArray, List.map_cons, List.map_nil]); first | done | rfl | (simp only [List.length_drop, List.length_take]; rfl)) ?_
            with_reducible refine (value_Float.calls a2 t175 t176 t177 _ A20.out).mono ?_
            rintro e w35 ⟨rfl, hb⟩
            refine ⟨_, rfl, ?_⟩
            have n0_ := Aside0.mk (Kd.R_below (by (with_reducible repeat (first | apply Kd.R_alloc | apply Kd.R_drewN | apply Kd.R_drew)); exact HO168.out) hb)
            have n1_ := Aside0.mk (blk_below (g := gb164) (o := .cells #[.int .i64 a0_0, .int .i64 a0_1, .string a0_2] 34 (0, 0)) (by (with_reducible repeat (first | refine blk_drewN ?_ _ | refine blk_drew ?_ | refine blk_alloc ?_ _)); exact BK164.out) hb)
            have n2_ := Aside0.mk (below_step (by repeat (first | (with_reducible first | exact HB.out | apply below_alloc | apply pw_below_drewN | apply below_drew1 | refine below_set ?_ GE164.out) | exact HB.out)) hb)
            clear HO168
            clear BK164
            clear HB
            have HO168 := n0_
            have BK164 := n1_
            have HB := n2_
            clear n0_ n1_ n2_
            (try clear hb)
            (try clear hb2)
            (try clear hk)
            (try clear hi)
            refine hK.out _ _ ⟨(blk_cell BK164.out 0).trans rfl, (blk_cell BK164.out 1).trans rfl, (blk_cell BK164.out 2).trans rfl⟩ (fun hHeld => ?_)
            clear hK K
            refine norm_ (a' := ?_) ?_ ?_
            rotate_left
            · show Act.put _ (some 26) _ = _
              simp only [Act.put, List.setIfInBounds_toArray, List.set_cons_zero, List.set_cons_succ, i64_w, i32_w]
              rfl
            refine one_ (i := 16) (N := some 28) #[true, true, true, true, true, true, true, true, true, true, true, true, true, true, true, true, true, false, false, false, false, false, false, false, false, false, false, false, false, false] rfl rfl (one_of HT_.out (by kernel_rfl)) (by decide) (fun K hK => ?_)
            refine goes_ Tryd.func7 (by kernel_rfl) rfl #[.float .f64 a2] (by rfl) rfl rfl (by (try simp only [List.map_toArray, List.map_cons, List.map_nil]); first | done | rfl | (simp only [List.length_drop, List.length_take]; rfl)) ?_
            with_reducible refine (mortmainref02_Kept.calls a2 t178 _ A21.out).mono ?_
            rintro e w' ⟨rfl, ⟨nd, rfl⟩⟩
            refine ⟨_, rfl, ?_⟩
            refine hK.out _ _ ⟨(blk_cell BK164.out 0).trans rfl, (blk_cell BK164.out 1).trans rfl, (blk_cell BK164.out 2).trans rfl⟩ (fun hHeld => ?_)
            clear hK K
            refine norm_ (a' := ?_) ?_ ?_
            rotate_left
            · show Act.put _ (some 28) _ = _
              simp only [Act.put, List.setIfInBounds_toArray, List.set_cons_zero, List.set_cons_succ, i64_w, i32_w]
              rfl
            refine pure_ (i := 17) (N := some 29) (v := ?_) (a' := ?_) #[true, true, true, true, true, true, true, true, true, true, true, true, true, true, true, true, true, true, false, false, false, false, false, false, false, false, false, false, false, false] rfl rfl (any_of HT_.out (by kernel_rfl)) (fun _ _ _ h => h) (Or.inl ⟨by rfl, ?_⟩) ?_ ?_
            rotate_left
            · intro w'
              go_simp
              with_reducible rfl
            rotate_left
            · simp only [Act.put, List.setIfInBounds_toArray, List.set_cons_zero, List.set_cons_succ, i64_w, i32_w]
              rfl
            refine pure_ (i := 18) (N := some 30) (v := ?_) (a' := ?_) #[true, true, true, true, true, true, true, true, true, true, true, true, true, true, true, true, true, true, true, false, false, false, false, false, false, false, false, false, false, false] rfl rfl (any_of HT_.out (by kernel_rfl)) (fun _ _ _ h => h) (Or.inl ⟨by rfl, ?_⟩) ?_ ?_
            rotate_left
            · intro w'
              go_simp
              with_reducible rfl
            rotate_left
            · simp only [Act.put, List.setIfInBounds_toArray, List.set_cons_zero, List.set_cons_succ, i64_w, i32_w]
              rfl
            refine pure_ (i := 19) (N := some 31) (v := ?_) (a' := ?_) #[true, true, true, true, true, true, true, true, true, true, true, true, true, true, true, true, true, true, true, true, false, false, false, false, false, false, false, false, false, false] rfl rfl (any_of HT_.out (by kernel_rfl)) (fun _ _ _ h => h) (Or.inl ⟨by rfl, ?_⟩) ?_ ?_
            rotate_left
            · intro w'
              go_simp
              with_reducible rfl
            rotate_left
            · simp only [Act.put, List.setIfInBounds_toArray, List.set_cons_zero, List.set_cons_succ, i64_w, i32_w]
              rfl
            refine pure_ (i := 20) (N := some 32) (v := ?_) (a' := ?_) #[true, true, true, true, true, true, true, true, true, true, true, true, true, true, true, true, true, true, true, true, true, false, false, false, false, false, false, false, false, false] rfl rfl (any_of HT_.out (by kernel_rfl)) (fun _ _ _ h => h) (Or.inl ⟨by rfl, ?_⟩) ?_ ?_
            rotate_left
            · intro w'
              go_simp
              with_reducible rfl
            rotate_left
            · simp only [Act.put, List.setIfInBounds_toArray, List.set_cons_zero, List.set_cons_succ, i64_w, i32_w]
              rfl
            refine pure_ (i := 21) (N := some 33) (v := ?_) (a' := ?_) #[true, true, true, true, true, true, true, true, true, true, true, true, true, true, true, true, true, true, true, true, true, true, false, false, false, false, false, false, false, false] rfl rfl (any_of HT_.out (by kernel_rfl)) (fun _ _ _ h => h) (Or.inl ⟨by rfl, ?_⟩) ?_ ?_
            rotate_left
            · intro w'
              go_simp
              with_reducible rfl
            rotate_left
            · simp only [Act.put, List.setIfInBounds_toArray, List.set_cons_zero, List.set_cons_succ, i64_w, i32_w]
              rfl
            refine pure_ (i := 24) (N := some 36) (v := ?_) (a' := ?_) #[true, true, true, true, true, true, true, true, true, true, true, true, true, true, true, true, true, true, true, true, true, true, false, false, true, false, false, false, false, false] rfl rfl (any_of HT_.out (by kernel_rfl)) (fun _ _ _ h => h) (Or.inl ⟨by rfl, ?_⟩) ?_ ?_
            rotate_left
            · intro w'
              go_simp
              with_reducible rfl
            rotate_left
            · simp only [Act.put, List.setIfInBounds_toArray, List.set_cons_zero, List.set_cons_succ, i64_w, i32_w]
              rfl
            refine take_ (i := 22) (N := some 34) (v := ?_) (a' := ?_) #[true, true, true, true, true, true, true, true, true, true, true, true, true, true, true, true, true, true, true, true, true, true, true, false, true, false, false, false, false, false] rfl rfl (take_ofW HT_.out HW_.out (by kernel_rfl)) (fun _ _ _ h => h) (Or.inl ⟨by rfl, ?_⟩) hHeld ?_ ?_
            rotate_left
            · rintro w' ⟨s0, s1, s2⟩
              go_simp
              with_reducible rfl
            rotate_left
            · simp only [Act.put, List.setIfInBounds_toArray, List.set_cons_zero, List.set_cons_succ, i64_w, i32_w]
              rfl
            refine take_ (i := 25) (N := some 37) (v := ?_) (a' := ?_) #[true, true, true, true, true, true, true, true, true, true, true, true, true, true, true, true, true, true, true, true, true, true, true, false, true, true, false, false, false, false] rfl rfl (take_ofW HT_.out HW_.out (by kernel_rfl)) (fun _ _ _ h => h) (Or.inl ⟨by rfl, ?_⟩) hHeld ?_ ?_
            rotate_left
            · rintro w' ⟨s0, s1, s2⟩
              go_simp
              with_reducible rfl
            rotate_left
            · simp only [Act.put, List.setIfInBounds_toArray, List.set_cons_zero, List.set_cons_succ, i64_w, i32_w]
              rfl
            refine pure_ (i := 26) (N := some 38) (v := ?_) (a' := ?_) #[true, true, true, true, true, true, true, true, true, true, true, true, true, true, true, true, true, true, true, true, true, true, true, false, true, true, true, false, false, false] rfl rfl (any_of HT_.out (by kernel_rfl)) (fun _ _ _ h => h) (Or.inl ⟨by rfl, ?_⟩) ?_ ?_
            rotate_left
            · intro w'
              go_simp
              with_reducible rfl
            rotate_left
            · simp only [Act.put, List.setIfInBounds_toArray, List.set_cons_zero, List.set_cons_succ, i64_w, i32_w]
              rfl
            refine one_ (i := 23) (N := some 35) #[true, true, true, true, true, true, true, true, true, true, true, true, true, true, true, true, true, true, true, true, true, true, true, true, true, true, true, false, false, false] rfl rfl (one_of HT_.out (by kernel_rfl)) (by decide) (fun K hK => ?_)
            refine goes_ Tryd.func16 (by kernel_rfl) rfl #[.string a0_2] (by rfl) rfl rfl (by (try simp only [List.map_toArray, List.map_cons, List.map_nil]); first | done | rfl | (simp only [List.length_drop, List.length_take]; rfl)) ?_
            with_reducible refine (value_Text.calls a0_2 t179 t180 t181 _ A23.out).mono ?_
            rintro e w36 ⟨rfl, hb⟩
            refine ⟨_, rfl, ?_⟩
            have n0_ := Aside0.mk (Kd.R_below (by (with_reducible repeat (first | apply Kd.R_alloc | apply Kd.R_drewN | apply Kd.R_drew)); exact HO168.out) hb)
            have n1_ := Aside0.mk (blk_below (g := gb164) (o := .cells #[.int .i64 a0_0, .int .i64 a0_1, .string a0_2] 34 (0, 0)) (by (with_reducible repeat (first | refine blk_drewN ?_ _ | refine blk_drew ?_ | refine blk_alloc ?_ _)); exact BK164.out) hb)
            have n2_ := Aside0.mk (below_step (by repeat (first | (with_reducible first | exact HB.out | apply below_alloc | apply pw_below_drewN | apply below_drew1 | refine below_set ?_ GE164.out) | exact HB.out)) hb)
            clear HO168
            clear BK164
            clear HB
            have HO168 := n0_
            have BK164 := n1_
            have HB := n2_
            clear n0_ n1_ n2_
            (try clear hb)
            (try clear hb2)
            (try clear hk)
            (try clear hi)
            refine hK.out _ _ ⟨(blk_cell BK164.out 0).trans rfl, (blk_cell BK164.out 1).trans rfl, (blk_cell BK164.out 2).trans rfl⟩ (fun hHeld => ?_)
            clear hK K
            refine norm_ (a' := ?_) ?_ ?_
            rotate_left
            · show Act.put _ (some 35) _ = _
              simp only [Act.put, List.setIfInBounds_toArray, List.set_cons_zero, List.set_cons_succ, i64_w, i32_w]
              rfl
            refine pure_ (i := 27) (N := some 39) (v := ?_) (a' := ?_) #[true, true, true, true, true, true, true, true, true, true, true, true, true, true, true, true, true, true, true, true, true, true, true, true, true, true, true, true, false, false] rfl rfl (any_of HT_.out (by kernel_rfl)) (fun _ _ _ h => h) (Or.inl ⟨by rfl, ?_⟩) ?_ ?_
            rotate_left
            · intro w'
              go_simp
              with_reducible rfl
            rotate_left
            · simp only [Act.put, List.setIfInBounds_toArray, List.set_cons_zero, List.set_cons_succ, i64_w, i32_w]
              rfl
            refine pure_ (i := 28) (N := some 40) (v := ?_) (a' := ?_) #[true, true, true, true, true, true, true, true, true, true, true, true, true, true, true, true, true, true, true, true, true, true, true, true, true, true, true, true, true, false] rfl rfl (any_of HT_.out (by kernel_rfl)) (fun _ _ _ h => h) (Or.inl ⟨by rfl, ?_⟩) ?_ ?_
            rotate_left
            · intro w'
              go_simp
              with_reducible rfl
            rotate_left
            · simp only [Act.put, List.setIfInBounds_toArray, List.set_cons_zero, List.set_cons_succ, i64_w, i32_w]
              rfl
            refine pure_ (i := 29) (N := some 6) (v := ?_) (a' := ?_) #[true, true, true, true, true, true, true, true, true, true, true, true, true, true, true, true, true, true, true, true, true, true, true, true, true, true, true, true, true, true] rfl rfl (any_of HT_.out (by kernel_rfl)) (fun _ _ _ h => h) (Or.inl ⟨by rfl, ?_⟩) ?_ ?_
            rotate_left
            · intro w'
              go_simp
              with_reducible rfl
            rotate_left
            · simp only [Act.put, List.setIfInBounds_toArray, List.set_cons_zero, List.set_cons_succ, i64_w, i32_w]
              rfl
            refine done_ (done_of HT_.out (by kernel_rfl)) ?_
            try go_wp2
            go_ret
            exact ⟨by first | rfl | (simp [errW_none, errW_some] <;> rfl) | (simp [*, errW_none, errW_some] <;> rfl), by repeat (first | (with_reducible first | exact HB.out | apply below_alloc | apply pw_below_drewN | apply below_drew1 | refine below_set ?_ GE164.out) | exact HB.out)⟩
          · rw [if_neg c22] at H
            have c22b0 : (t175 == 2 && (t176 == t178 && (t177.toList.isEmpty))) = false := by simpa using c22
            (try (have c22b1 : decide (t175 = 2 && (t176 == t178 && (t177.toList.isEmpty))) = false := by simpa using c22))
            (try (have c22b2 : (t175 == 2 && (t176 == t178 && (t177.toList.isEmpty))) = false := by simpa using c22))
            (try (have c22b3 : ¬ (t175 = 2 && (t176 == t178 && (t177.toList.isEmpty))) := by simpa using c22))
            clear c22
            obtain rfl := Option.some.inj H
            cases hr_.out
        · rw [if_neg c19] at H
          have c19b0 : (t172 == 1 && (t173 == a1 && (t174.toList.isEmpty))) = false := by simpa using c19
          (try (have c19b1 : decide (t172 = 1 && (t173 == a1 && (t174.toList.isEmpty))) = false := by simpa using c19))
          (try (have c19b2 : (t172 == 1 && (t173 == a1 && (t174.toList.isEmpty))) = false := by simpa using c19))
          (try (have c19b3 : ¬ (t172 = 1 && (t173 == a1 && (t174.toList.isEmpty))) := by simpa using c19))
          clear c19
          obtain rfl := Option.some.inj H
          cases hr_.out
      · rw [if_neg c17] at H
        have c17b0 : (t170 == t171) = false := by simpa using c17
        (try (have c17b1 : decide (t170 = t171) = false := by simpa using c17))
        (try (have c17b2 : (t170 == t171) = false := by simpa using c17))
        (try (have c17b3 : ¬ (t170 = t171) := by simpa using c17))
        clear c17
        obtain rfl := Option.some.inj H
        cases hr_.out
  · replace c5 := Bool.eq_false_iff.mpr c5
    subst c5
    have H1 : (some false) = some r := by rw [if_neg (show ¬ (false = true) by decide)] at H; exact H
    clear H
    have H := H1
    clear H1
    obtain rfl := Option.some.inj H
    cases hr_.out

end Go.Proofs.YtmaciepkkianhabDoor.QReal

namespace Go.Proofs.YtmaciepkkianhabDoor.M
open Go.RowKit

theorem wrap_u64 (n : Int) : IntKind.u64.wrap n = n % 18446744073709551616 := IntKind.wrap_u64 n
theorem u64_range (n : Int) : 0 ≤ IntKind.u64.wrap n ∧ IntKind.u64.wrap n < 18446744073709551616 := by rw [wrap_u64]; omega

/-! ### Floats by their bits -/
abbrev F := FloatKind.f64.format
/-- The magnitude that a rung has, in units of the least one. -/
def mval (r : Nat) : Nat := if r < 4503599627370496 then r else (4503599627370496 + r % 4503599627370496) * 2 ^ (r / 4503599627370496 - 1)
theorem mval_step (r : Nat) : mval r < mval (r + 1) := by
  unfold mval
  by_cases h : r + 1 < 4503599627370496
  · rw [if_pos h, if_pos (by omega)]; omega
  · rw [if_neg h]
    by_cases h2 : r < 4503599627370496
    · obtain rfl : r = 4503599627370495 := by omega
      decide
    · rw [if_neg h2]
      by_cases h3 : r % 4503599627370496 = 4503599627370495
      · have e1 : (r + 1) / 4503599627370496 - 1 = (r / 4503599627370496 - 1) + 1 := by omega
        have e2 : (r + 1) % 4503599627370496 = 0 := by omega
        rw [e1, e2, h3, Nat.pow_succ]
        have := Nat.two_pow_pos (r / 4503599627370496 - 1)
        generalize 2 ^ (r / 4503599627370496 - 1) = p at *
        omega
      · have e1 : (r + 1) / 4503599627370496 - 1 = r / 4503599627370496 - 1 := by omega
        have e2 : (r + 1) % 4503599627370496 = r % 4503599627370496 + 1 := by omega
        rw [e1, e2]
        exact Nat.mul_lt_mul_of_pos_right (by omega) (Nat.two_pow_pos _)
theorem mval_lt {r s : Nat} (h : r < s) : mval r < mval s := by
  induction s with
  | zero => omega
  | succ s ih =>
    rcases Nat.lt_or_ge r s with hl | hg
    · exact Nat.lt_trans (ih hl) (mval_step s)
    · obtain rfl : r = s := by omega
      exact mval_step r
theorem mval_lt_iff {r s : Nat} : mval r < mval s ↔ r < s := by
  constructor
  · intro h
    rcases Nat.lt_trichotomy r s with hl | he | hg
    · exact hl
    · subst he; omega
    · have := mval_lt hg; omega
  · exact mval_lt

/-- What is no number; what a float is ordered by. -/
def isNan (u : Nat) : Bool := decide (u % 9223372036854775808 > 9218868437227405312)
def skey (u : Nat) : Int := if u < 9223372036854775808 then (u : Int) else -((u - 9223372036854775808 : Nat) : Int)

theorem read_eq (u : Nat) : F.read u =
    (let neg := u / 9223372036854775808 % 2 == 1
     let r := u % 9223372036854775808
     if r < 4503599627370496 then .number neg r (-1074)
     else if r < 9218868437227405312 then .number neg (4503599627370496 + r % 4503599627370496) (-1074 + (r / 4503599627370496 - 1 : Nat))
     else if r = 9218868437227405312 then .infinity neg
     else .nan neg (r - 9218868437227405312)) := by
  rfl

def sg (s : Bool) (n : Nat) : Int := if s then -(n : Int) else n
theorem cmp_congr {a b c d : Int} (h1 : a < b ↔ c < d) (h2 : a = b ↔ c = d) : compare a b = compare c d := by
  simp only [compare, compareOfLessAndEq, h1, h2]
theorem sg_lt {f : Nat → Nat} (hf : ∀ {r s : Nat}, f r < f s ↔ r < s) (h0 : f 0 = 0) (s t : Bool) (a b : Nat) : sg s (f a) < sg t (f b) ↔ sg s a < sg t b := by
  have h1 := @hf a b
  have h2 := @hf b a
  have h3 := @hf 0 a
  have h4 := @hf 0 b
  rw [h0] at h3 h4
  cases s <;> cases t <;> simp only [sg] <;> simp <;> omega
theorem sg_eq {f : Nat → Nat} (hf : ∀ {r s : Nat}, f r < f s ↔ r < s) (h0 : f 0 = 0) (s t : Bool) (a b : Nat) : sg s (f a) = sg t (f b) ↔ sg s a = sg t b := by
  have h1 := @hf a b
  have h2 := @hf b a
  have h3 := @hf 0 a
  have h4 := @hf 0 b
  rw [h0] at h3 h4
  cases s <;> cases t <;> simp only [sg] <;> simp <;> omega
theorem signed_sg (s : Bool) (m up : Nat) : Ieee.signed s m up = sg s (m * 2 ^ up) := by
  unfold Ieee.signed sg
  rw [Nat.shiftLeft_eq]
theorem sg_mul (s : Bool) (m p : Nat) : sg s (m * p) = sg s m * (p : Int) := by
  cases s <;> simp [sg, Int.neg_mul]
theorem cmp_scale (s t : Bool) (m n e1 e2 : Nat) :
    compare (Ieee.signed s m ((-1074 + (e1 : Int)) - min (-1074 + (e1 : Int)) (-1074 + (e2 : Int))).toNat) (Ieee.signed t n ((-1074 + (e2 : Int)) - min (-1074 + (e1 : Int)) (-1074 + (e2 : Int))).toNat) = compare (sg s (m * 2 ^ e1)) (sg t (n * 2 ^ e2)) := by
  rw [signed_sg, signed_sg]
  have q1 : ((-1074 + (e1 : Int)) - min (-1074 + (e1 : Int)) (-1074 + (e2 : Int))).toNat = e1 - min e1 e2 := by omega
  have q2 : ((-1074 + (e2 : Int)) - min (-1074 + (e1 : Int)) (-1074 + (e2 : Int))).toNat = e2 - min e1 e2 := by omega
  rw [q1, q2]
  have p1 : m * 2 ^ e1 = m * 2 ^ (e1 - min e1 e2) * 2 ^ min e1 e2 := by rw [Nat.mul_assoc, ← Nat.pow_add]; congr 2; omega
  have p2 : n * 2 ^ e2 = n * 2 ^ (e2 - min e1 e2) * 2 ^ min e1 e2 := by rw [Nat.mul_assoc, ← Nat.pow_add]; congr 2; omega
  rw [p1, p2, sg_mul s (m * 2 ^ (e1 - min e1 e2)), sg_mul t (n * 2 ^ (e2 - min e1 e2))]
  have hp : (0 : Int) < ((2 ^ min e1 e2 : Nat) : Int) := by exact_mod_cast Nat.two_pow_pos _
  generalize ((2 ^ min e1 e2 : Nat) : Int) = p at *
  apply cmp_congr
  · exact (Int.mul_lt_mul_right hp).symm
  · exact ⟨fun h => by rw [h], fun h => Int.eq_of_mul_eq_mul_right (by omega) h⟩

def neg (u : Nat) : Bool := u / 9223372036854775808 % 2 == 1
theorem skey_sg (u : Nat) (hu : u < 18446744073709551616) : skey u = sg (neg u) (u % 9223372036854775808) := by
  unfold skey sg neg
  by_cases h : u < 9223372036854775808
  · rw [if_pos h, if_neg (by simp; omega)]; omega
  · rw [if_neg h, if_pos (by simp; omega)]; omega
/-- A finite float's datum: the magnitude of its rung, in units of the least one. -/
theorem read_fin (u : Nat) (h : u % 9223372036854775808 < 9218868437227405312) :
    ∃ m e : Nat, F.read u = .number (neg u) m (-1074 + (e : Int)) ∧ m * 2 ^ e = mval (u % 9223372036854775808) := by
  rw [read_eq]
  by_cases h1 : u % 9223372036854775808 < 4503599627370496
  · exact ⟨u % 9223372036854775808, 0, by simp only [if_pos h1]; rfl, by unfold mval; rw [if_pos h1]; simp⟩
  · exact ⟨_, _, by simp only [if_neg h1, if_pos h]; rfl, by unfold mval; rw [if_neg h1]⟩
theorem read_inf (u : Nat) (h : u % 9223372036854775808 = 9218868437227405312) : F.read u = .infinity (neg u) := by
  rw [read_eq]
  simp only [h]; rfl
theorem read_nan (u : Nat) (h : isNan u = true) : ∃ t, F.read u = .nan (neg u) t := by
  have h' : u % 9223372036854775808 > 9218868437227405312 := by simpa [isNan] using h
  rw [read_eq]
  exact ⟨_, by simp only [if_neg (show ¬ u % 9223372036854775808 < 4503599627370496 by omega), if_neg (show ¬ u % 9223372036854775808 < 9218868437227405312 by omega), if_neg (show ¬ u % 9223372036854775808 = 9218868437227405312 by omega)]; rfl⟩

theorem cmp_eq_iff (a b : Int) : compare a b = .eq ↔ a = b := by
  simp only [compare, compareOfLessAndEq]
  split
  · constructor
    · intro h; cases h
    · intro h; omega
  · split <;> simp_all
theorem cmp_lt_iff (a b : Int) : compare a b = .lt ↔ a < b := by
  simp only [compare, compareOfLessAndEq]
  split
  · simp_all
  · split <;> simp_all
theorem cmp_gt_iff (a b : Int) : compare a b = .gt ↔ b < a := by
  simp only [compare, compareOfLessAndEq]
  split
  · constructor
    · intro h; cases h
    · intro h; omega
  · split
    · constructor
      · intro h; cases h
      · intro h; omega
    · constructor
      · intro _; omega
      · intro _; rfl
theorem sg_bound (s : Bool) (r : Nat) (h : r < 9218868437227405312) : sg s r < sg false 9218868437227405312 ∧ sg true 9218868437227405312 < sg s r := by
  simp only [sg, if_true, Bool.false_eq_true, if_false]
  cases s <;> simp <;> omega
/-- The order of two floats that are numbers. -/
theorem order_num (u v : Nat) (hu : u < 18446744073709551616) (hv : v < 18446744073709551616) (nu : isNan u = false) (nv : isNan v = false) :
    F.order u v = some (compare (skey u) (skey v)) := by
  have au : u % 9223372036854775808 ≤ 9218868437227405312 := by simpa [isNan] using nu
  have av : v % 9223372036854775808 ≤ 9218868437227405312 := by simpa [isNan] using nv
  rw [skey_sg u hu, skey_sg v hv]
  show (F.read u).order (F.read v) = _
  by_cases fu : u % 9223372036854775808 < 9218868437227405312
  · obtain ⟨m, e, ru, mu⟩ := read_fin u fu
    rw [ru]
    by_cases fv : v % 9223372036854775808 < 9218868437227405312
    · obtain ⟨n, f, rv, mv⟩ := read_fin v fv
      rw [rv]
      simp only [Ieee.Datum.order]
      rw [cmp_scale, mu, mv]
      exact congrArg some (cmp_congr (sg_lt mval_lt_iff (by decide) _ _ _ _) (sg_eq mval_lt_iff (by decide) _ _ _ _))
    · have rv := read_inf v (by omega)
      rw [rv]
      simp only [Ieee.Datum.order]
      have ev : v % 9223372036854775808 = 9218868437227405312 := by omega
      rw [ev]
      have hb := sg_bound (neg u) _ fu
      generalize sg (neg u) (u % 9223372036854775808) = q at *
      congr 1
      cases neg v
      · exact ((cmp_lt_iff _ _).mpr hb.1).symm
      · exact ((cmp_gt_iff _ _).mpr hb.2).symm
  · have ru := read_inf u (by omega)
    rw [ru]
    have eu : u % 9223372036854775808 = 9218868437227405312 := by omega
    rw [eu]
    by_cases fv : v % 9223372036854775808 < 9218868437227405312
    · obtain ⟨n, f, rv, mv⟩ := read_fin v fv
      rw [rv]
      simp only [Ieee.Datum.order]
      have hb := sg_bound (neg v) _ fv
      generalize sg (neg v) (v % 9223372036854775808) = q at *
      congr 1
      cases neg u
      · exact ((cmp_gt_iff _ _).mpr hb.1).symm
      · exact ((cmp_lt_iff _ _).mpr hb.2).symm
    · have rv := read_inf v (by omega)
      rw [rv]
      have ev : v % 9223372036854775808 = 9218868437227405312 := by omega
      rw [ev]
      simp only [Ieee.Datum.order]
      generalize neg u = s
      generalize neg v = t
      cases s <;> cases t <;> decide
theorem order_nan_l (u v : Nat) (h : isNan u = true) : F.order u v = none := by
  obtain ⟨t, hr⟩ := read_nan u h
  show (F.read u).order (F.read v) = _
  rw [hr]; rfl
theorem ne_self (u : Nat) (hu : u < 18446744073709551616) : (F.order u u != some Ordering.eq) = isNan u := by
  cases h : isNan u
  · rw [order_num u u hu hu h h, (cmp_eq_iff _ _).mpr rfl]; rfl
  · rw [order_nan_l u u h]; rfl
theorem eq_zero (u : Nat) (hu : u < 18446744073709551616) (h : isNan u = false) : (F.order u 0 == some Ordering.eq) = decide (u % 9223372036854775808 = 0) := by
  rw [order_num u 0 hu (by omega) h (by decide)]
  have e : compare (skey u) (skey 0) = .eq ↔ u % 9223372036854775808 = 0 := by
    rw [cmp_eq_iff, skey_sg u hu]
    show sg (neg u) _ = 0 ↔ _
    cases neg u <;> simp [sg] <;> omega
  by_cases q : u % 9223372036854775808 = 0
  · rw [e.mpr q]; simp [q]
  · simp only [q, decide_false]
    have : compare (skey u) (skey 0) ≠ .eq := fun h => q (e.mp h)
    cases hc : compare (skey u) (skey 0) <;> simp_all
/-- The bits by which a float is kept. -/
def kept (u : Nat) : Int := if isNan u = true then 9221120237041090560 else if u % 9223372036854775808 = 0 then 0 else wrap64 (u : Int)
/-- The bits that an int's are. -/
def ub (n : Int) : Nat := (IntKind.u64.wrap n).toNat
theorem ub_lt (n : Int) : ub n < 18446744073709551616 := by unfold ub; have := u64_range n; omega
end Go.Proofs.YtmaciepkkianhabDoor.M

set_option linter.unusedSimpArgs false
namespace Go.Proofs.YtmaciepkkianhabDoor.M
open Go.RowKit Go.Proofs.YtmaciepkkianhabDoor.H Go.Proofs.YtmaciepkkianhabDoor.QReal Go.Proofs.YtmaciepkkianhabDoorW.PrintWords Go.Proofs.YtmaciepkkianhabDoorW.PrintMore

theorem of_f (n : Int) : real_Of.f n = some (ub n) := rfl
theorem rof_f (n : Int) : mortmainref02_Of.f n = some (ub n) := rfl
theorem canon_f (u : Nat) (hu : u < 18446744073709551616) : real_Canon.f u = some (kept u) := by
  unfold real_Canon.f kept
  rw [show FloatKind.f64.format.order u u = F.order u u from rfl, show FloatKind.f64.format.order u 0 = F.order u 0 from rfl, ne_self u hu]
  by_cases h : isNan u = true
  · rw [if_pos h, if_pos h]
  · rw [if_neg h, if_neg h, eq_zero u hu (by simpa using h)]
    by_cases g : u % 9223372036854775808 = 0
    · simp [g]
    · simp [g]
theorem rkept_f (u : Nat) (hu : u < 18446744073709551616) : mortmainref02_Kept.f u = some (kept u) := by
  have := canon_f u hu
  unfold real_Canon.f at this
  unfold mortmainref02_Kept.f math_IsNaN.f
  exact this
theorem realgood_f (n : Int) : real_Good.f n = some (kept (ub n) == n) := by
  unfold real_Good.f
  rw [of_f]; simp only [Option.bind_some]; rw [canon_f _ (ub_lt n)]; rfl
end Go.Proofs.YtmaciepkkianhabDoor.M

set_option linter.unusedSimpArgs false
namespace Go.Proofs.YtmaciepkkianhabDoor.M
open Go.RowKit Go.Proofs.YtmaciepkkianhabDoor.H Go.Proofs.YtmaciepkkianhabDoor.QReal Go.Proofs.YtmaciepkkianhabDoorW.PrintWords Go.Proofs.YtmaciepkkianhabDoorW.PrintMore

abbrev Val := Int × Int × List UInt8
/-- Can a value be? -/
def good (v : Val) : Prop :=
  (v.1 = 0 ∧ v.2.1 = 0 ∧ v.2.2 = []) ∨ (v.1 = 1 ∧ v.2.2 = []) ∨ (v.1 = 2 ∧ v.2.2 = [] ∧ kept (ub v.2.1) = v.2.1) ∨ (v.1 = 3 ∧ v.2.1 = 0 ∧ v.2.2.length ≤ 24)
instance (v : Val) : Decidable (good v) := by unfold good; infer_instance
/-- A value, its text as a list. -/
abbrev V (k n : Int) (t : ByteArray) : Val := (k, n, t.data.toList)
/-- A list's text. -/
abbrev B (l : List UInt8) : ByteArray := ⟨l.toArray⟩
theorem Sz (s : ByteArray) : s.size = s.data.toList.length := by rw [Array.length_toList]; rfl
theorem toL (s : ByteArray) : s.toList = s.data.toList := ByteArray.toList_eq s
theorem isE (t : ByteArray) : (t.toList == ([] : List UInt8)) = decide (t.data.toList = []) := by rw [toL]; cases t.data.toList <;> rfl
theorem dec_false {p : Prop} [Decidable p] (h : ¬ p) : some false = some (decide p) := by rw [decide_eq_false h]
theorem dec_iff {p q : Prop} [Decidable p] [Decidable q] (h : p ↔ q) : some (decide p) = some (decide q) := by rw [decide_eq_decide.mpr h]
theorem good_f (k n : Int) (t : ByteArray) : value_Good.f k n t = some (decide (good (V k n t))) := by
  unfold value_Good.f
  have hs : (t.size : Int) = (t.data.toList.length : Int) := by rw [Sz]
  have he : t.toList.isEmpty = decide (t.data.toList = []) := by rw [toL]; cases t.data.toList <;> rfl
  have hz : (t.toList = ([] : List UInt8)) = (t.data.toList = []) := by rw [toL]
  simp only [isE, he, hs, hz, realgood_f]
  unfold good V
  generalize t.data.toList = l
  clear hs he hz
  by_cases h0 : k = 0
  · subst h0
    rw [if_pos rfl, show ((0 : Int) == 0 && (n == 0 && decide (l = []))) = decide (n = 0 ∧ l = []) by simp [Bool.beq_eq_decide_eq]]
    exact dec_iff (by simp)
  · rw [if_neg h0]
    by_cases h1 : k = 1
    · subst h1
      rw [if_pos rfl]
      exact dec_iff (by simp)
    · rw [if_neg h1]
      by_cases h2 : k = 2
      · subst h2
        rw [if_pos rfl]
        by_cases ht : l = []
        · rw [if_pos ht, Option.bind_some, show (kept (ub n) == n) = decide (kept (ub n) = n) from rfl]
          exact dec_iff (by simp [ht])
        · rw [if_neg ht]
          exact dec_false (by simp [ht])
      · rw [if_neg h2]
        by_cases h3 : k = 3
        · subst h3
          rw [if_pos rfl]
          by_cases hn : n = 0
          · rw [if_pos hn]
            exact dec_iff (by simp [hn]; omega)
          · rw [if_neg hn]
            exact dec_false (by simp [hn])
        · rw [if_neg h3]
          exact dec_false (by simp [h0, h1, h2, h3])
theorem rgood_f (k n : Int) (t : ByteArray) : mortmainref03_Good.f k n t = some (decide (good (V k n t))) := by
  rw [← good_f]
  unfold value_Good.f mortmainref03_Good.f
  rw [realgood_f, rof_f]; simp only [Option.bind_some]; rw [rkept_f _ (ub_lt n)]; simp only [Option.bind_some]
  have he : t.toList.isEmpty = (t.toList == ([] : List UInt8)) := by cases t.toList <;> rfl
  by_cases h0 : k = 0
  · rw [if_pos h0, if_pos h0, he]
    subst h0
    by_cases hn : n = 0
    · subst hn; rw [if_pos rfl]; rfl
    · rw [if_neg hn, show (n == 0) = false from beq_eq_false_iff_ne.mpr hn]; rfl
  · rw [if_neg h0, if_neg h0]

end Go.Proofs.YtmaciepkkianhabDoor.M

set_option linter.unusedSimpArgs false
namespace Go.Proofs.YtmaciepkkianhabDoor.M
open Go.RowKit Go.Proofs.YtmaciepkkianhabDoor.H Go.Proofs.YtmaciepkkianhabDoor.QReal Go.Proofs.YtmaciepkkianhabDoorW.PrintWords Go.Proofs.YtmaciepkkianhabDoorW.PrintMore

abbrev Z (s : ByteArray) : Prop := s.size ≤ 140737488355328
abbrev I (n : Int) : Prop := -9223372036854775808 ≤ n ∧ n ≤ 9223372036854775807
theorem alive3_f (k : Nat) : mortmainlaw03_alive.f k = some true := by
  have h1 : value_Text.f (⟨#[97]⟩ : ByteArray) = some (3, 0, ⟨#[97]⟩) := by rfl
  have h2 : value_Key.f k 3 0 (⟨#[97]⟩ : ByteArray) = some ⟨#[3, 97, 0, 0]⟩ := by
    unfold value_Key.f
    have a : value_Good.f 3 0 (⟨#[97]⟩ : ByteArray) = some true := by decide +kernel
    have b : strings_ReplaceAll.f (⟨#[97]⟩ : ByteArray) ⟨#[0]⟩ ⟨#[0, 255]⟩ = some ⟨#[97]⟩ := by decide +kernel
    rw [a]
    simp only [Option.bind_some, if_true, b]
    rw [if_neg (by decide), if_neg (by decide)]
    decide +kernel
  have h3 : value_Float.f 4602678819172646912 = some (2, 4602678819172646912, ⟨#[]⟩) := by decide +kernel
  have h4 : value_Show.f 2 4602678819172646912 ⟨#[]⟩ = some ⟨#[102, 48, 46, 53]⟩ := by decide +kernel
  have h5 : value_Good.f 0 0 (⟨#[]⟩ : ByteArray) = some true := by decide +kernel
  unfold mortmainlaw03_alive.f
  rw [h1]; simp only [Option.bind_some]
  rw [h2]; simp only [Option.bind_some]
  rw [if_pos (by decide +kernel), h3]; simp only [Option.bind_some]
  rw [h4]; simp only [Option.bind_some]
  rw [if_pos (by decide +kernel), h5]; rfl
theorem great1_f (k : Nat) (d n : Int) (t : ByteArray) (hk : 3 ≤ k) : mortmainlaw03_great.f k [(⟨d, n, t⟩ : S34)] = some (decide ((t.size : Int) > 200)) := by
  obtain ⟨k, rfl⟩ : ∃ m, k = m + 2 := ⟨k - 2, by omega⟩
  unfold mortmainlaw03_great.f
  by_cases h : (t.size : Int) > 200
  · simp [mortmainlaw03_great.l0, rd_T34, h]
  · simp [mortmainlaw03_great.l0, rd_T34, h, wrap64]
theorem vgood_true (k : Nat) (hk : 3 ≤ k) (d n : Int) (t : ByteArray) (m : Int) (u : Nat) (_ht : Z t) (hu : u < 18446744073709551616) (_hn : I n) : mortmainlaw03_ValueGood.f k d n t m u = some true := by
  unfold mortmainlaw03_ValueGood.f
  rw [alive3_f]; simp only [Option.bind_some, if_true]
  rw [great1_f k d n t hk]; simp only [Option.bind_some]
  split
  · rfl
  · rw [good_f, rgood_f]; simp only [Option.bind_some]
    rw [if_pos (beq_self_eq_true _)]
    have h1 : value_Int.f m = some (1, m, ⟨#[]⟩) := rfl
    have h2 : value_Float.f u = some (2, kept u, ⟨#[]⟩) := by unfold value_Float.f; rw [canon_f u hu]; rfl
    have h3 : value_Text.f t = some (3, 0, t) := rfl
    rw [h1]; simp only [Option.bind_some]
    rw [if_pos (by simp), h2]; simp only [Option.bind_some]
    rw [rkept_f u hu]; simp only [Option.bind_some]
    rw [if_pos (by simp), h3]
    simp
end Go.Proofs.YtmaciepkkianhabDoor.M

namespace Go.Proofs.YtmaciepkkianhabDoor.V
theorem witness_row_zip {H : Type} {enc : TypeId × Value → H} {C : Checked} {os : Os} {f : FuncId} {fn : Func} {s : OpenSpec} {conds : List PathCond} {apart : Bool} {laid : List (String × DataW Unit)} (modest : Bool) (w0 : World) (args : Array Value) (hos : w0.os = os)
    (hv : (w0.forCall (fun _ _ => 0) ⟨#[], args, []⟩).variablesZipB C.prog = true)
    (hr : ((w0.forCall (fun _ _ => 0) ⟨#[], args, []⟩).heap.toList.drop C.prog.globals.size).take ((begin C.prog (fun _ _ => 0) default).world.heap.size - C.prog.globals.size) =
      (begin C.prog (fun _ _ => 0) default).world.heap.toList.drop C.prog.globals.size)
    (hok : Input.okWideB C.prog (w0.forCall (fun _ _ => 0) ⟨#[], args, []⟩) f ⟨#[], args, []⟩ = true)
    (hrow : s.preRow enc C.prog fn conds apart laid (w0.forCall (fun _ _ => 0) ⟨#[], args, []⟩).memory args) :
    ∃ (w : World) (tape : Tape) (i : Input), w.os = os ∧ (w.forCall tape i).Shaped C.prog ∧ i.vars = [] ∧ Input.okWide C.prog (w.forCall tape i) .any w.heap.size f i ∧
      s.preRow enc C.prog fn conds apart laid (w.forCall tape i).memory i.args ∧ ({ modest := modest } : Assume).holds C.prog (lone (Frame.enter C.prog f i.args .normal) [] (w.forCall tape i)) :=
  ⟨w0, fun _ _ => 0, ⟨#[], args, []⟩, hos, World.shaped_of_ZipB hv hr, (Input.okWide_of_okWideB (base := 0) hok).1, (Input.okWide_of_okWideB hok).2, hrow, by
    simp only [Assume.holds]
    exact ⟨by simp, by simp, fun _ => Modest.zero, by simp, by simp⟩⟩
end Go.Proofs.YtmaciepkkianhabDoor.V

namespace Go.Proofs.YtmaciepkkianhabDoor.valueGood
open Go.ChangeShapes Go.WideShapes Go.ChangeAt Go.RowKit Go.Joins
open Go.ChangeMaps (open_string shut_string)
set_option linter.unusedVariables false
theorem own : ownKnob Tryd.prog.godebug = none := by kernel_rfl
theorem laidOut : laidOutB Tryd.prog = true := by kernel_rfl
/-- What every world of the row holds that the walk asks for. -/
theorem tens_eq : (Rows.laid_internal_strconv_uint64pow10 : DataW Unit) = Lib.tabData .u64 Lib.pow10Tab := by kernel_rfl
theorem tabs {W : World} (h : W.ShapedOpen Tryd.prog) (hL : laidMet Tryd.prog Rows.valueGoodRow.laid W) : H.Tabs W := by
  have hm : ∃ m, W.cell? ⟨3, 0, none⟩ = some (.int .i64 m) := cell_of_shapedOpen_int (g := 3) (t := 3) (zero := #[.int .i64 0]) (k := .i64) h (of_decide_eq_true (by kernel_rfl)) (by kernel_rfl) rfl (by kernel_rfl) (by kernel_rfl) (by kernel_rfl)
  have h1 := (Lib.laidMet.reads hL (n := "internal/strconv.uint64pow10") (d := Rows.laid_internal_strconv_uint64pow10) (List.mem_of_getElem? (i := 3) rfl))
  rw [tens_eq] at h1
  have h2 := (Lib.laidMet.reads hL (n := "internal/strconv.pow10Tab") (d := Rows.laid_internal_strconv_pow10Tab) (List.mem_of_getElem? (i := 6) rfl))
  exact ⟨hm, T.tabIs_of_reads (g := 2) (t := 110) (e := 22) (n := 20) (by kernel_rfl) (by kernel_rfl) Tryd.underlying110 Tryd.underlying22 (by kernel_rfl) (by kernel_rfl) h1,
    fun i x hx => T.pairs_cell (g := 6) (t := 126) (e := 125) (n := 696) (k := .u64) (zs := Go.Pinned.pow10Rows) (by kernel_rfl) (by kernel_rfl) Tryd.underlying126 Tryd.underlying125 (fun i f hf => match i, hf with | 0, h => by (obtain rfl := Option.some.inj h; exact ⟨Tryd.underlying22, rfl, by kernel_rfl⟩) | 1, h => by (obtain rfl := Option.some.inj h; exact ⟨Tryd.underlying22, rfl, by kernel_rfl⟩) | n + 2, h => by (simp at h)) rfl (by kernel_rfl) h2 i x hx⟩
theorem int_in {n : Int} (h : (Lit.int .i64 n).wf = true) : M.I n := by
  have h2 : -9223372036854775808 ≤ n ∧ n ≤ 9223372036854775807 := by
    simp only [Lit.wf, IntKind.min, IntKind.max, IntKind.signed, IntKind.bits, Bool.and_eq_true, decide_eq_true_eq, if_true] at h
    omega
  exact h2
set_option maxHeartbeats 1600000 in
set_option maxRecDepth 100000 in
theorem contract (H : Type) (enc : TypeId × Value → H) (W : World) (base : Nat) (args : Array Value) (ds gs : List (DataW H)) (before : List MemPlace)
    (hval0 : ∀ (j : Nat) t v, Tryd.f4.params[j]? = some t → args[j]? = some v → Value.okWide Tryd.prog W .any base t v)
    (hW : DataW.Whole enc Tryd.prog Tryd.f4.params.toList Rows.valueGoodSpec.vars false W args.toList ds gs before)
    (hsz0 : (DataW.weightsEach Tryd.prog (Tryd.f4.params.toList ++ Rows.valueGoodSpec.plain.varTypes Tryd.prog) (ds ++ gs)).all (· ≤ reachBytes) = true)
    (hsh : W.ShapedOpen Tryd.prog) (hL : laidMet Tryd.prog Rows.valueGoodRow.laid W) :
    Calls Tryd.prog 4 args W fun e W' => ∃ v, e = .returned v ∧ Rows.valueGoodSpec.post enc Tryd.prog Tryd.f4 false true false false W args v W' := by
  have hT := tabs hsh hL
  have hsz : (DataW.weightsEach Tryd.prog (Tryd.f4.params.toList ++ Rows.valueGoodSpec.plain.varTypes Tryd.prog) (ds ++ gs)).all (· ≤ reachBytes) = true := hsz0
  have hval : ∀ (j : Nat) t v, Tryd.f4.params[j]? = some t → args[j]? = some v → Value.okWide Tryd.prog W .any base t v := hval0
  have hW' := hW
  obtain ⟨p, q, hA0, hV, rfl, hfz, hnd⟩ := hW
  have hA : DataW.TrodAll enc Tryd.prog W 0 (fun _ => true) true Tryd.f4.params.toList args.toList ds p := hA0
  rw [Tryd.params4] at hA hval hsz
  obtain ⟨v0, vs0, d0, ds0, p0, q0, hargs, rfl, rfl, h0, r0⟩ := trodAll_cons hA
  obtain ⟨v1, vs1, d1, ds1, p1, q1, rfl, rfl, rfl, h1, r1⟩ := trodAll_cons r0
  obtain ⟨v2, vs2, d2, ds2, p2, q2, rfl, rfl, rfl, h2, r2⟩ := trodAll_cons r1
  obtain ⟨rfl, rfl, rfl⟩ := trodAll_nil r2
  obtain rfl : args = #[v0, v1, v2] := by cases args; simp_all
  obtain ⟨rfl, rfl⟩ := trodVars_none hV
  have k0 := h0
  have lt0 : ∀ x ∈ p0, x.block < W.heap.size := by obtain ⟨m, hm⟩ := k0; exact DataW.trod_lt m _ _ _ hm
  obtain ⟨c00, c01, c02, z00, z01, z02, m0, rfl, rfl, rfl, g00, g01, g02⟩ := open_agg3 Tryd.underlying34 (by kernel_rfl) (by kernel_rfl) (hval 0 34 v0 rfl rfl) h0
  obtain ⟨a0_0, e00, rfl, y00⟩ := DataW.trod_int Tryd.underlying3 g00
  obtain ⟨a0_1, e01, rfl, y01⟩ := DataW.trod_int Tryd.underlying3 g01
  obtain ⟨a0_2, e02, rfl, y02⟩ := DataW.trod_string Tryd.underlying9 g02
  simp only [List.cons.injEq, and_true] at e00 e01 e02
  subst e00 e01 e02
  have w0 : M.Z a0_2 := by
    have z := List.all_eq_true.1 hsz _ (DataW.weights_mem_each (j := 0) (t := 34) rfl rfl a0_2.data.toList.length (by simp [DataW.weights, DataW.weightsEach, Tryd.underlying34]))
    rw [Array.length_toList] at z
    have z2 : a0_2.size ≤ 140737488351232 := of_decide_eq_true z
    unfold M.Z; omega
  obtain ⟨a1, rfl, rfl, rfl, y1⟩ := open_int Tryd.underlying3 (hval 1 3 v1 rfl rfl) h1
  obtain ⟨a2, rfl, rfl, rfl, y2⟩ := Go.ChangeShapes.open_float Tryd.underlying29 (hval 2 29 v2 rfl rfl) h2
  have w2 : a2 < 18446744073709551616 := by simpa [Lit.wf] using y2
  clear hA0 hval0 hsz0 hsz
  have pure_ := M.vgood_true 3 (by omega) a0_0 a0_1 a0_2 a1 a2 w0 w2 (int_in y01)
  refine (QReal.mortmainlaw03_ValueGood.calls _ a0_0 a0_1 a0_2 a1 a2 true W hT ⟨rfl⟩ pure_).mono fun e W' ⟨he, bel⟩ => ?_
  subst he
  exact ⟨_, rfl, _, _, _, [], _, [], hW', trodAll_mk1 (shut_bool Tryd.underlying4 _), (trodAll_cons_mk (Below.trod laidOut (by kernel_rfl) (of_decide_eq_true (by kernel_rfl)) k0 bel lt0) (trodAll_cons_mk (shut_int Tryd.underlying3 y1) (trodAll_cons_mk (Go.ChangeShapes.shut_float Tryd.underlying29 y2) trodAll_mk0))), rfl, bel.frame _, fun h => by cases h⟩
noncomputable def laidWorld (os : Os) : World := World.laidAll Tryd.prog os Rows.valueGoodRow.laid
theorem laid_met (os : Os) : laidMet Tryd.prog Rows.valueGoodRow.laid ((laidWorld os).forCall (fun _ _ => 0) ⟨#[], #[.agg #[.int .i64 0, .int .i64 0, .string ⟨#[]⟩], .int .i64 0, .float .f64 0], []⟩).memory :=
  laidMet_laidAll _ (by kernel_rfl) (by kernel_rfl)
theorem reads (os : Os) {H : Type} (enc : TypeId × Value → H) : ∃ places, DataW.whole enc Tryd.prog ((laidWorld os).forCall (fun _ _ => 0) ⟨#[], #[.agg #[.int .i64 0, .int .i64 0, .string ⟨#[]⟩], .int .i64 0, .float .f64 0], []⟩).memory Tryd.f4.params.toList Rows.valueGoodSpec.vars false (#[.agg #[.int .i64 0, .int .i64 0, .string ⟨#[]⟩], .int .i64 0, .float .f64 0] : Array Value).toList 8 = some ([.agg [.lit (.int .i64 0), .lit (.int .i64 0), .lit (.string [])], .lit (.int .i64 0), .lit (.float .f64 0)], [], places) :=
  ⟨[], by kernel_rfl⟩
set_option maxRecDepth 100000 in
theorem lifted (os : Os) (started : os.Started) (H : Type) (enc : TypeId × Value → H) (F : Stop.Interp) :
    ReturnsInHanded {} Tryd.checked os 4 .any ((OpenSpec.ofChange Rows.valueGoodSpec).preRow enc Tryd.prog Tryd.f4 Rows.valueGoodRow.domain false Rows.valueGoodRow.laid) (((OpenSpec.ofChange Rows.valueGoodSpec).at F).post enc Tryd.prog Tryd.f4 false true false false) := by
  obtain ⟨places, hx⟩ := reads os enc
  refine returnsInHanded_of_row (C := Tryd.checked) (s := OpenSpec.ofChange Rows.valueGoodSpec) own started (by kernel_rfl) Tryd.func4
    (V.witness_row_zip (enc := enc) (C := Tryd.checked) false (laidWorld os) #[.agg #[.int .i64 0, .int .i64 0, .string ⟨#[]⟩], .int .i64 0, .float .f64 0] (World.laidAll_os _ _ _) (by kernel_rfl) (by kernel_rfl) (by kernel_rfl)
      (OpenSpec.preRow_of_cond 8 hx (by kernel_rfl) (fun k hk => by cases hk) (by kernel_rfl) (laid_met os))) ?_
  intro W base args ds gs before hval hW _ _ hsz hL hsh _
  exact contract H enc W base args ds gs before hval hW hsz hsh hL
theorem said : Rows.ValueGoodSaid :=
  OpenClaim.holds_of_cond 4 Tryd.f4 rfl rfl rfl rfl rfl rfl rfl ⟨rfl, rfl, rfl, rfl, rfl⟩ rfl rfl rfl rfl rfl (by kernel_rfl) Tryd.func4 (by kernel_rfl)
    (of_decide_eq_true (by kernel_rfl)) (by unfold Func.isWrapper; first | (rw [if_pos (by decide +kernel)]; kernel_rfl) | (rw [if_neg (by decide +kernel)]; exact ⟨rfl, rfl⟩))
    (fun os started H enc _ F => by rw [OpenClaim.pre_eq_preRow]; exact lifted os started H enc F)
theorem plain (f : FuncId) (fn : Func) (hf : Tryd.pinned.checked.prog.funcNamed "mortmain/mortmainlaw03.ValueGood" = some f) (hfn : Tryd.pinned.checked.prog.funcs[f]? = some fn) :
    false = Tryd.pinned.checked.prog.looks [] ∧ ∀ (j : Nat) t, fn.params[j]? = some t → Tryd.pinned.checked.prog.wantsStandIn t = false := by
  obtain rfl : f = 4 := Option.some.inj ((show Tryd.prog.funcNamed "mortmain/mortmainlaw03.ValueGood" = some 4 by kernel_rfl).symm.trans hf) |>.symm
  obtain rfl : fn = Tryd.f4 := (Option.some.inj (Tryd.func4.symm.trans hfn)).symm
  refine ⟨by kernel_rfl, fun j t ht => ?_⟩
  rw [Tryd.params4] at ht
  have hm := Array.mem_of_getElem? ht
  have h2 := Array.mem_toList_iff.mpr hm
  change t ∈ ([34, 3, 29] : List Nat) at h2
  simp only [List.mem_cons, List.not_mem_nil, or_false] at h2
  rcases h2 with rfl | rfl | rfl
  · exact (show Tryd.prog.wantsStandIn 34 = false by kernel_rfl)
  · exact (show Tryd.prog.wantsStandIn 3 = false by kernel_rfl)
  · exact (show Tryd.prog.wantsStandIn 29 = false by kernel_rfl)
/-- The card. -/
theorem card : Rows.ValueGoodCardSaid :=
  Claim7.holds_tied_plain_at .later [] _ _ _ _ said (fun _ h => by cases h) (by kernel_rfl) (fun _ h => by cases h) valueGood_row_tie rfl ⟨rfl, rfl⟩ (by kernel_rfl) rfl plain (by kernel_rfl)
#print axioms card
end Go.Proofs.YtmaciepkkianhabDoor.valueGood
