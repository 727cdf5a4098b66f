-- Parts of the proof, joined by pack.py, this claim's own program.
import Derived.Test.YtmaciepkkianhabGreatDoorXValueKeys0
namespace Go.Proofs.YtmaciepkkianhabGreatDoor.QVal
open Go.Proofs.YtmaciepkkianhabGreatDoor.H
attribute [local go_sem] ite_signed_u64 ite_signed_u32
open Go.RowKit Go.Proofs.YtmaciepkkianhabGreatDoorW.PrintWords Go.Proofs.YtmaciepkkianhabGreatDoorW.PrintLast Go.Proofs.YtmaciepkkianhabGreatDoorW.PrintMore
attribute [local go_sem] max2_int min2_int max_two min_two max_three min_three max_four min_four   -- for this text's walks alone
set_option linter.unusedVariables false
set_option linter.unusedSimpArgs false

/-! ### mortmainlaw03_great: function 10 -/
def mortmainlaw03_great.l0 : Nat → List (S23) → List (S23) → Int → Int → Option (Bool)
  | 0, _, _, _, _ => none
  | k + 1, x0, x5, x6, x7 => if x7 < x6 then (if 0 ≤ x7 then (if x7 < (x5.length : Int) then (if (((rd_T23 x5 x7).f2).size : Int) > 200 then (some true) else (mortmainlaw03_great.l0 k x0 x5 x6 (wrap64 (x7 + 1)))) else (none)) else (none)) else (some (decide ((x0.length : Int) > 30)))
def mortmainlaw03_great.f (k : Nat) (l0 : List (S23)) : Option (Bool) := mortmainlaw03_great.l0 k l0 l0 (l0.length : Int) 0
set_option maxHeartbeats 8000000 in
set_option maxRecDepth 100000 in
theorem mortmainlaw03_great.calls (k : Nat) (A0 : Option Addr) (c0 : Nat) (l0 : List (S23)) (r : Bool) (w : World) (hr0 : Kd.C k23 w A0 l0.length l0) (hc0 : l0.length ≤ c0) (h : mortmainlaw03_great.f k l0 = some r) :
    Calls Tryz.prog 10 #[.slice A0 l0.length c0] w fun e w' => e = .returned (.bool r) ∧ Below w.heap.size w w' := by
  have hu23 := Tryz.underlying23
  have HR0 := Aside0.mk hr0
  have HC0 := Aside0.mk hc0
  clear hr0 hc0
  have HB := Aside0.mk (Below.refl w.heap.size w)
  have H : (mortmainlaw03_great.l0 k l0 l0 (l0.length : Int) 0) = some r := h
  clear h
  have H' := Aside0.mk H
  clear H
  go_enter Tryz.func10, Tryz.ntmps10
  go_wp2
  go_loopg [7] k (fun kq v7 w' => ∃ (x7_1 : Int), v7 = .int .i64 x7_1 ∧ Aside0 (mortmainlaw03_great.l0 kq l0 l0 (l0.length : Int) x7_1 = some r) ∧ Aside0 (kq ≤ k) ∧ Aside0 (Below w.heap.size w w'))
  case atStart => exact ⟨(0), (by first | rfl | (simp; done) | (simp [*]; done) | (generalize ByteArray.toList _ = l_; cases l_ <;> rfl)), H', ⟨Nat.le_refl _⟩, ⟨by repeat (first | (with_reducible first | exact HB.out | apply below_alloc | apply pw_below_drewN | apply below_drew1) | exact HB.out)⟩⟩
  case round =>
    clear H'
    try clear c1
    obtain ⟨x7_1, rfl, HA, HK1, HB⟩ := hrel
    cases gk with
    | zero => exact absurd HA.out (by simp [mortmainlaw03_great.l0])
    | succ k1 =>
      have H := HA.out
      clear HA
      simp only [mortmainlaw03_great.l0] at H
      by_cases c2 : x7_1 < (l0.length : Int)
      · rw [if_pos c2] at H
        have c2b0 : decide (x7_1 < (l0.length : Int)) = true := decide_eq_true c2
        clear c2
        by_cases c3 : 0 ≤ x7_1
        · rw [if_pos c3] at H
          have c3b0 : decide (0 ≤ x7_1) = true := decide_eq_true c3
          clear c3
          by_cases c4 : x7_1 < (l0.length : Int)
          · rw [if_pos c4] at H
            have c4b0 : decide (x7_1 < (l0.length : Int)) = true := decide_eq_true c4
            clear c4
            by_cases c5 : (((rd_T23 l0 x7_1).f2).size : Int) > 200
            · rw [if_pos c5] at H
              have c5b0 : decide (200 < (((rd_T23 l0 x7_1).f2).size : Int)) = true := decide_eq_true c5
              have c5b1 : decide (200 < ((rd_T23 l0 x7_1).f2).size) = true := decide_eq_true (by omega)
              clear c5
              obtain rfl := Option.some.inj H
              have p139 : 0 ≤ (x7_1 : Int) := of_decide_eq_true (by first | (with_reducible assumption) | assumption)
              have q139 : x7_1 < (l0.length : Int) := of_decide_eq_true (by first | (with_reducible assumption) | assumption)
              obtain ⟨ad139, e139, hx139_0, hx139_1, hx139_2⟩ := at_T23 HR0.out x7_1 p139 q139
              cases e139
              replace hx139_0 := (HB.out.cell (World.block_lt_of_cell? w _ hx139_0)).trans hx139_0
              replace hx139_1 := (HB.out.cell (World.block_lt_of_cell? w _ hx139_1)).trans hx139_1
              replace hx139_2 := (HB.out.cell (World.block_lt_of_cell? w _ hx139_2)).trans hx139_2
              replace p139 := eq_true p139
              replace q139 := eq_true q139
              go_wp2_with (first | ((with_reducible refine gate_dst (N := 4) rfl ?_); refine box_event ?hg (N := 4) ?hd (cs := #[.int .i64 0, .int .i64 0, .string (⟨#[]⟩ : ByteArray)]) (t := 23) ?hr ?_; (case hd => rfl); (case hg => rfl); (case hr => first | (go_simp; done) | (go_simp; rfl)); intro gb140 hg w6 hbox hb; have n0_ := Aside0.mk (below_step (by repeat (first | (with_reducible first | exact HB.out | apply below_alloc | apply pw_below_drewN | apply below_drew1) | exact HB.out)) hb); have n1_ := Aside0.mk (hbox); have n2_ := Aside0.mk ((by rw [hg]; exact (below_size (by repeat (first | (with_reducible first | exact HB.out | apply below_alloc | apply pw_below_drewN | apply below_drew1) | exact HB.out))) : w.heap.size ≤ gb140)); have n3_ := Aside0.mk ((by rw [hg]; exact (below_size (by repeat (first | (with_reducible first | exact HB.out | apply below_alloc | apply pw_below_drewN | apply below_drew1) | exact HB.out))) : w.heap.size ≤ gb140)); clear HB; have HB := n0_; have BK140 := n1_; have GW140 := n2_; have GE140 := n3_; clear n0_ n1_ n2_ n3_; clear hb hbox hg; have hcz7_0 : w6.cell? ⟨gb140, 0, none⟩ = some (.int .i64 0) := (blk_cell BK140.out 0).trans rfl; have hcz7_1 : w6.cell? ⟨gb140, 1, none⟩ = some (.int .i64 0) := (blk_cell BK140.out 1).trans rfl; have hcz7_2 : w6.cell? ⟨gb140, 2, none⟩ = some (.string (⟨#[]⟩ : ByteArray)) := (blk_cell BK140.out 2).trans rfl; have hfz7_0 := blk_frozen BK140.out 0; have hfz7_1 := blk_frozen BK140.out 1; have hfz7_2 := blk_frozen BK140.out 2))
              go_ret
              exact ⟨by first | rfl | (simp [errW_none, errW_some] <;> rfl) | (simp [*, errW_none, errW_some] <;> rfl), by repeat (first | (with_reducible first | exact HB.out | apply below_alloc | apply pw_below_drewN | apply below_drew1 | refine below_set ?_ GE140.out) | exact HB.out)⟩
            · rw [if_neg c5] at H
              have c5b0 : decide (200 < (((rd_T23 l0 x7_1).f2).size : Int)) = false := decide_eq_false c5
              have c5b1 : decide (200 < ((rd_T23 l0 x7_1).f2).size) = false := decide_eq_false (by omega)
              clear c5
              have H' := Aside0.mk H
              clear H
              have p139 : 0 ≤ (x7_1 : Int) := of_decide_eq_true (by first | (with_reducible assumption) | assumption)
              have q139 : x7_1 < (l0.length : Int) := of_decide_eq_true (by first | (with_reducible assumption) | assumption)
              obtain ⟨ad139, e139, hx139_0, hx139_1, hx139_2⟩ := at_T23 HR0.out x7_1 p139 q139
              cases e139
              replace hx139_0 := (HB.out.cell (World.block_lt_of_cell? w _ hx139_0)).trans hx139_0
              replace hx139_1 := (HB.out.cell (World.block_lt_of_cell? w _ hx139_1)).trans hx139_1
              replace hx139_2 := (HB.out.cell (World.block_lt_of_cell? w _ hx139_2)).trans hx139_2
              replace p139 := eq_true p139
              replace q139 := eq_true q139
              go_wp2_with (first | ((with_reducible refine gate_dst (N := 4) rfl ?_); refine box_event ?hg (N := 4) ?hd (cs := #[.int .i64 0, .int .i64 0, .string (⟨#[]⟩ : ByteArray)]) (t := 23) ?hr ?_; (case hd => rfl); (case hg => rfl); (case hr => first | (go_simp; done) | (go_simp; rfl)); intro gb140 hg w8 hbox hb; have n0_ := Aside0.mk (below_step (by repeat (first | (with_reducible first | exact HB.out | apply below_alloc | apply pw_below_drewN | apply below_drew1) | exact HB.out)) hb); have n1_ := Aside0.mk (hbox); have n2_ := Aside0.mk ((by rw [hg]; exact (below_size (by repeat (first | (with_reducible first | exact HB.out | apply below_alloc | apply pw_below_drewN | apply below_drew1) | exact HB.out))) : w.heap.size ≤ gb140)); have n3_ := Aside0.mk ((by rw [hg]; exact (below_size (by repeat (first | (with_reducible first | exact HB.out | apply below_alloc | apply pw_below_drewN | apply below_drew1) | exact HB.out))) : w.heap.size ≤ gb140)); clear HB; have HB := n0_; have BK140 := n1_; have GW140 := n2_; have GE140 := n3_; clear n0_ n1_ n2_ n3_; clear hb hbox hg; have hcz9_0 : w8.cell? ⟨gb140, 0, none⟩ = some (.int .i64 0) := (blk_cell BK140.out 0).trans rfl; have hcz9_1 : w8.cell? ⟨gb140, 1, none⟩ = some (.int .i64 0) := (blk_cell BK140.out 1).trans rfl; have hcz9_2 : w8.cell? ⟨gb140, 2, none⟩ = some (.string (⟨#[]⟩ : ByteArray)) := (blk_cell BK140.out 2).trans rfl; have hfz9_0 := blk_frozen BK140.out 0; have hfz9_1 := blk_frozen BK140.out 1; have hfz9_2 := blk_frozen BK140.out 2))
              go_roundg k1
              case measure => have := HK1.out; omega
              case rel => exact ⟨(wrap64 (x7_1 + 1)), (by first | rfl | (simp; done) | (simp [*]; done) | (generalize ByteArray.toList _ = l_; cases l_ <;> rfl)), H', ⟨by have := HK1.out; omega⟩, ⟨by repeat (first | (with_reducible first | exact HB.out | apply below_alloc | apply pw_below_drewN | apply below_drew1 | refine below_set ?_ GE140.out) | exact HB.out)⟩⟩
          · rw [if_neg c4] at H
            exact absurd H (by simp)
        · rw [if_neg c3] at H
          exact absurd H (by simp)
      · rw [if_neg c2] at H
        have c2b0 : decide (x7_1 < (l0.length : Int)) = false := decide_eq_false c2
        clear c2
        obtain rfl := Option.some.inj H
        go_wp2
        go_ret
        exact ⟨by first | rfl | (simp [errW_none, errW_some] <;> rfl) | (simp [*, errW_none, errW_some] <;> rfl), by repeat (first | (with_reducible first | exact HB.out | apply below_alloc | apply pw_below_drewN | apply below_drew1) | exact HB.out)⟩

/-! ### math_IsNaN: function 67 -/
def math_IsNaN.f (a0 : Nat) : Option (Bool) := some (FloatKind.f64.format.order a0 a0 != some Ordering.eq)
set_option maxHeartbeats 8000000 in
set_option maxRecDepth 100000 in
theorem math_IsNaN.calls (a0 : Nat) (r : Bool) (w : World) (h : math_IsNaN.f a0 = some r) :
    Calls Tryz.prog 67 #[.float .f64 a0] w fun e w' => e = .returned (.bool r) ∧ Drawn0 w w' := by
  have H : (some (FloatKind.f64.format.order a0 a0 != some Ordering.eq)) = some r := h
  clear h
  obtain rfl := Option.some.inj H
  go_enter Tryz.func67, Tryz.ntmps67
  go_wp2
  go_ret
  exact ⟨by first | rfl | (simp; done) | (simp [*]; done) | (generalize ByteArray.toList _ = l_; cases l_ <;> rfl), by repeat (first | exact Drawn0.refl _ | apply Drawn0.step)⟩

/-! ### mortmainref02_Kept: function 28 -/
def mortmainref02_Kept.f (a0 : Nat) : Option (Int) := (math_IsNaN.f a0).bind fun t141 => (if t141 = true then (some 9221120237041090560) else (if (FloatKind.f64.format.order a0 0 == some Ordering.eq) = true then (some 0) else (some (wrap64 ((a0 : Int))))))
set_option maxHeartbeats 8000000 in
set_option maxRecDepth 100000 in
theorem mortmainref02_Kept.calls (a0 : Nat) (r : Int) (w : World) (h : mortmainref02_Kept.f a0 = some r) :
    Calls Tryz.prog 28 #[.float .f64 a0] w fun e w' => e = .returned (.int .i64 r) ∧ Drawn0 w w' := by
  have hx68 := ext68
  have H : ((math_IsNaN.f a0).bind fun t141 => (if t141 = true then (some 9221120237041090560) else (if (FloatKind.f64.format.order a0 0 == some Ordering.eq) = true then (some 0) else (some (wrap64 ((a0 : Int))))))) = some r := h
  clear h
  replace H := Option.bind_eq_some_iff.mp H
  obtain ⟨t141, A20, H⟩ := H
  replace H : (if t141 = true then (some 9221120237041090560) else (if (FloatKind.f64.format.order a0 0 == some Ordering.eq) = true then (some 0) else (some (wrap64 ((a0 : Int)))))) = some r := H
  have A2 := Aside0.mk A20
  clear A20
  by_cases c3 : t141 = true
  · subst c3
    have H1 : (some 9221120237041090560) = some r := by rw [if_pos rfl] at H; exact H
    clear H
    have H := H1
    clear H1
    obtain rfl := Option.some.inj H
    go_enter Tryz.func28, Tryz.ntmps28
    go_wp2_with (first | ((with_reducible refine gate_callee (f := 67) rfl ?_); refine goesL_ (some 4) rfl rfl Tryz.func67 (by kernel_rfl) rfl #[.float .f64 a0] rfl (by (try simp only [List.map_toArray, List.map_cons, List.map_nil]); first | done | rfl | (simp only [List.length_drop, List.length_take]; rfl)) ?_; (with_reducible refine (math_IsNaN.calls a0 true _ A2.out).mono ?_); rintro e w' ⟨rfl, ⟨nd, rfl⟩⟩; refine ⟨_, rfl, ?_⟩))
    go_ret
    exact ⟨by first | rfl | (simp; done) | (simp [*]; done) | (generalize ByteArray.toList _ = l_; cases l_ <;> rfl), by repeat (first | exact Drawn0.refl _ | apply Drawn0.step)⟩
  · replace c3 := Bool.eq_false_iff.mpr c3
    subst c3
    have H1 : (if (FloatKind.f64.format.order a0 0 == some Ordering.eq) = true then (some 0) else (some (wrap64 ((a0 : Int))))) = some r := by rw [if_neg (show ¬ (false = true) by decide)] at H; exact H
    clear H
    have H := H1
    clear H1
    by_cases c4 : (FloatKind.f64.format.order a0 0 == some Ordering.eq) = true
    · rw [if_pos c4] at H
      have c4b0 : (FloatKind.f64.format.order a0 0 == some Ordering.eq) = true := c4
      clear c4
      obtain rfl := Option.some.inj H
      go_enter Tryz.func28, Tryz.ntmps28
      go_wp2_with (first | ((with_reducible refine gate_callee (f := 67) rfl ?_); refine goesL_ (some 4) rfl rfl Tryz.func67 (by kernel_rfl) rfl #[.float .f64 a0] rfl (by (try simp only [List.map_toArray, List.map_cons, List.map_nil]); first | done | rfl | (simp only [List.length_drop, List.length_take]; rfl)) ?_; (with_reducible refine (math_IsNaN.calls a0 false _ A2.out).mono ?_); rintro e w' ⟨rfl, ⟨nd, rfl⟩⟩; refine ⟨_, rfl, ?_⟩))
      go_ret
      exact ⟨by first | rfl | (simp; done) | (simp [*]; done) | (generalize ByteArray.toList _ = l_; cases l_ <;> rfl), by repeat (first | exact Drawn0.refl _ | apply Drawn0.step)⟩
    · rw [if_neg c4] at H
      have c4b0 : (FloatKind.f64.format.order a0 0 == some Ordering.eq) = false := Bool.eq_false_iff.mpr c4
      clear c4
      obtain rfl := Option.some.inj H
      go_enter Tryz.func28, Tryz.ntmps28
      go_wp2_with (first | ((with_reducible refine gate_callee (f := 67) rfl ?_); refine goesL_ (some 4) rfl rfl Tryz.func67 (by kernel_rfl) rfl #[.float .f64 a0] rfl (by (try simp only [List.map_toArray, List.map_cons, List.map_nil]); first | done | rfl | (simp only [List.length_drop, List.length_take]; rfl)) ?_; (with_reducible refine (math_IsNaN.calls a0 false _ A2.out).mono ?_); rintro e w' ⟨rfl, ⟨nd, rfl⟩⟩; refine ⟨_, rfl, ?_⟩))
      go_ret
      exact ⟨by first | rfl | (simp; done) | (simp [*]; done) | (generalize ByteArray.toList _ = l_; cases l_ <;> rfl), by repeat (first | exact Drawn0.refl _ | apply Drawn0.step)⟩

/-! ### mortmainref02_Of: function 29 -/
def mortmainref02_Of.f (a0 : Int) : Option (Nat) := some ((IntKind.u64.wrap (a0)).toNat)
set_option maxHeartbeats 8000000 in
set_option maxRecDepth 100000 in
theorem mortmainref02_Of.calls (a0 : Int) (r : Nat) (w : World) (h : mortmainref02_Of.f a0 = some r) :
    Calls Tryz.prog 29 #[.int .i64 a0] w fun e w' => e = .returned (.float .f64 r) ∧ Drawn0 w w' := by
  have hx69 := ext69
  have H : (some ((IntKind.u64.wrap (a0)).toNat)) = some r := h
  clear h
  obtain rfl := Option.some.inj H
  go_enter Tryz.func29, Tryz.ntmps29
  go_wp2
  go_ret
  exact ⟨by first | rfl | (simp; done) | (simp [*]; done) | (generalize ByteArray.toList _ = l_; cases l_ <;> rfl), by repeat (first | exact Drawn0.refl _ | apply Drawn0.step)⟩

/-! ### mortmainref03_Good: function 13 -/
def mortmainref03_Good.f (a0_0 : Int) (a0_1 : Int) (a0_2 : ByteArray) : Option (Bool) := if a0_0 = 0 then (if a0_1 = 0 then (some (a0_2.toList == ([] : List UInt8))) else (some false)) else (if a0_0 = 1 then (some (a0_2.toList == ([] : List UInt8))) else (if a0_0 = 2 then (if a0_2.toList = ([] : List UInt8) then ((mortmainref02_Of.f a0_1).bind fun t143 => ((mortmainref02_Kept.f t143).bind fun t144 => (some (t144 == a0_1)))) else (some false)) else (if a0_0 = 3 then (if a0_1 = 0 then (some (decide ((a0_2.size : Int) ≤ 24))) else (some false)) else (some false))))
set_option maxHeartbeats 8000000 in
set_option maxRecDepth 100000 in
theorem mortmainref03_Good.calls (a0_0 : Int) (a0_1 : Int) (a0_2 : ByteArray) (r : Bool) (w : World) (h : mortmainref03_Good.f a0_0 a0_1 a0_2 = some r) :
    Calls Tryz.prog 13 #[.agg #[.int .i64 a0_0, .int .i64 a0_1, .string a0_2]] w fun e w' => e = .returned (.bool r) ∧ Below w.heap.size w w' := by
  have hu23 := Tryz.underlying23
  have HB := Aside0.mk (Below.refl w.heap.size w)
  have H : (if a0_0 = 0 then (if a0_1 = 0 then (some (a0_2.toList == ([] : List UInt8))) else (some false)) else (if a0_0 = 1 then (some (a0_2.toList == ([] : List UInt8))) else (if a0_0 = 2 then (if a0_2.toList = ([] : List UInt8) then ((mortmainref02_Of.f a0_1).bind fun t143 => ((mortmainref02_Kept.f t143).bind fun t144 => (some (t144 == a0_1)))) else (some false)) else (if a0_0 = 3 then (if a0_1 = 0 then (some (decide ((a0_2.size : Int) ≤ 24))) else (some false)) else (some false))))) = some r := h
  clear h
  by_cases c2 : a0_0 = 0
  · rw [if_pos c2] at H
    have c2b0 : (a0_0 == 0) = true := beq_iff_eq.mpr c2
    have c2b1 : (a0_0 != 0) = false := bne_eq_false_iff_eq.mpr c2
    clear c2
    by_cases c3 : a0_1 = 0
    · rw [if_pos c3] at H
      have c3b0 : (a0_1 == 0) = true := beq_iff_eq.mpr c3
      have c3b1 : (a0_1 != 0) = false := bne_eq_false_iff_eq.mpr c3
      clear c3
      obtain rfl := Option.some.inj H
      go_enter Tryz.func13, Tryz.ntmps13
      go_wp2_with (first | ((with_reducible refine gate_dst (N := 1) rfl ?_); (try (refine gate_guard (by rfl) ?_; dsimp only)); refine box_event ?hg (N := 1) ?hd (cs := #[.int .i64 a0_0, .int .i64 a0_1, .string a0_2]) (t := 23) ?hr ?_; (case hd => rfl); (case hg => rfl); (case hr => first | (go_simp; done) | (go_simp; rfl)); intro gb142 hg w4 hbox hb; have n0_ := Aside0.mk (below_step (by repeat (first | (with_reducible first | exact HB.out | apply below_alloc | apply pw_below_drewN | apply below_drew1) | exact HB.out)) hb); have n1_ := Aside0.mk (hbox); have n2_ := Aside0.mk ((by rw [hg]; exact (below_size (by repeat (first | (with_reducible first | exact HB.out | apply below_alloc | apply pw_below_drewN | apply below_drew1) | exact HB.out))) : w.heap.size ≤ gb142)); have n3_ := Aside0.mk ((by rw [hg]; exact (below_size (by repeat (first | (with_reducible first | exact HB.out | apply below_alloc | apply pw_below_drewN | apply below_drew1) | exact HB.out))) : w.heap.size ≤ gb142)); clear HB; have HB := n0_; have BK142 := n1_; have GW142 := n2_; have GE142 := n3_; clear n0_ n1_ n2_ n3_; clear hb hbox hg; have hcz5_0 : w4.cell? ⟨gb142, 0, none⟩ = some (.int .i64 a0_0) := (blk_cell BK142.out 0).trans rfl; have hcz5_1 : w4.cell? ⟨gb142, 1, none⟩ = some (.int .i64 a0_1) := (blk_cell BK142.out 1).trans rfl; have hcz5_2 : w4.cell? ⟨gb142, 2, none⟩ = some (.string a0_2) := (blk_cell BK142.out 2).trans rfl; have hfz5_0 := blk_frozen BK142.out 0; have hfz5_1 := blk_frozen BK142.out 1; have hfz5_2 := blk_frozen BK142.out 2))
      repeat (go_quiet (first | ((with_reducible refine gate_dst (N := 1) rfl ?_); (try (refine gate_guard (by rfl) ?_; dsimp only)); refine box_event ?hg (N := 1) ?hd (cs := #[.int .i64 a0_0, .int .i64 a0_1, .string a0_2]) (t := 23) ?hr ?_; (case hd => rfl); (case hg => rfl); (case hr => first | (go_simp; done) | (go_simp; rfl)); intro gb142 hg w4 hbox hb; have n0_ := Aside0.mk (below_step (by repeat (first | (with_reducible first | exact HB.out | apply below_alloc | apply pw_below_drewN | apply below_drew1) | exact HB.out)) hb); have n1_ := Aside0.mk (hbox); have n2_ := Aside0.mk ((by rw [hg]; exact (below_size (by repeat (first | (with_reducible first | exact HB.out | apply below_alloc | apply pw_below_drewN | apply below_drew1) | exact HB.out))) : w.heap.size ≤ gb142)); have n3_ := Aside0.mk ((by rw [hg]; exact (below_size (by repeat (first | (with_reducible first | exact HB.out | apply below_alloc | apply pw_below_drewN | apply below_drew1) | exact HB.out))) : w.heap.size ≤ gb142)); clear HB; have HB := n0_; have BK142 := n1_; have GW142 := n2_; have GE142 := n3_; clear n0_ n1_ n2_ n3_; clear hb hbox hg; have hcz5_0 : w4.cell? ⟨gb142, 0, none⟩ = some (.int .i64 a0_0) := (blk_cell BK142.out 0).trans rfl; have hcz5_1 : w4.cell? ⟨gb142, 1, none⟩ = some (.int .i64 a0_1) := (blk_cell BK142.out 1).trans rfl; have hcz5_2 : w4.cell? ⟨gb142, 2, none⟩ = some (.string a0_2) := (blk_cell BK142.out 2).trans rfl; have hfz5_0 := blk_frozen BK142.out 0; have hfz5_1 := blk_frozen BK142.out 1; have hfz5_2 := blk_frozen BK142.out 2)); try go_wp2_with (first | ((with_reducible refine gate_dst (N := 1) rfl ?_); (try (refine gate_guard (by rfl) ?_; dsimp only)); refine box_event ?hg (N := 1) ?hd (cs := #[.int .i64 a0_0, .int .i64 a0_1, .string a0_2]) (t := 23) ?hr ?_; (case hd => rfl); (case hg => rfl); (case hr => first | (go_simp; done) | (go_simp; rfl)); intro gb142 hg w4 hbox hb; have n0_ := Aside0.mk (below_step (by repeat (first | (with_reducible first | exact HB.out | apply below_alloc | apply pw_below_drewN | apply below_drew1) | exact HB.out)) hb); have n1_ := Aside0.mk (hbox); have n2_ := Aside0.mk ((by rw [hg]; exact (below_size (by repeat (first | (with_reducible first | exact HB.out | apply below_alloc | apply pw_below_drewN | apply below_drew1) | exact HB.out))) : w.heap.size ≤ gb142)); have n3_ := Aside0.mk ((by rw [hg]; exact (below_size (by repeat (first | (with_reducible first | exact HB.out | apply below_alloc | apply pw_below_drewN | apply below_drew1) | exact HB.out))) : w.heap.size ≤ gb142)); clear HB; have HB := n0_; have BK142 := n1_; have GW142 := n2_; have GE142 := n3_; clear n0_ n1_ n2_ n3_; clear hb hbox hg; have hcz5_0 : w4.cell? ⟨gb142, 0, none⟩ = some (.int .i64 a0_0) := (blk_cell BK142.out 0).trans rfl; have hcz5_1 : w4.cell? ⟨gb142, 1, none⟩ = some (.int .i64 a0_1) := (blk_cell BK142.out 1).trans rfl; have hcz5_2 : w4.cell? ⟨gb142, 2, none⟩ = some (.string a0_2) := (blk_cell BK142.out 2).trans rfl; have hfz5_0 := blk_frozen BK142.out 0; have hfz5_1 := blk_frozen BK142.out 1; have hfz5_2 := blk_frozen BK142.out 2)))
      go_ret
      exact ⟨by first | rfl | (simp [errW_none, errW_some] <;> rfl) | (simp [*, errW_none, errW_some] <;> rfl), by repeat (first | (with_reducible first | exact HB.out | apply below_alloc | apply pw_below_drewN | apply below_drew1 | refine below_set ?_ GE142.out) | exact HB.out)⟩
    · rw [if_neg c3] at H
      have c3b0 : (a0_1 == 0) = false := beq_eq_false_iff_ne.mpr c3
      have c3b1 : (a0_1 != 0) = true := bne_iff_ne.mpr c3
      obtain rfl := Option.some.inj H
      go_enter Tryz.func13, Tryz.ntmps13
      go_wp2_with (first | ((with_reducible refine gate_dst (N := 1) rfl ?_); (try (refine gate_guard (by rfl) ?_; dsimp only)); refine box_event ?hg (N := 1) ?hd (cs := #[.int .i64 a0_0, .int .i64 a0_1, .string a0_2]) (t := 23) ?hr ?_; (case hd => rfl); (case hg => rfl); (case hr => first | (go_simp; done) | (go_simp; rfl)); intro gb142 hg w6 hbox hb; have n0_ := Aside0.mk (below_step (by repeat (first | (with_reducible first | exact HB.out | apply below_alloc | apply pw_below_drewN | apply below_drew1) | exact HB.out)) hb); have n1_ := Aside0.mk (hbox); have n2_ := Aside0.mk ((by rw [hg]; exact (below_size (by repeat (first | (with_reducible first | exact HB.out | apply below_alloc | apply pw_below_drewN | apply below_drew1) | exact HB.out))) : w.heap.size ≤ gb142)); have n3_ := Aside0.mk ((by rw [hg]; exact (below_size (by repeat (first | (with_reducible first | exact HB.out | apply below_alloc | apply pw_below_drewN | apply below_drew1) | exact HB.out))) : w.heap.size ≤ gb142)); clear HB; have HB := n0_; have BK142 := n1_; have GW142 := n2_; have GE142 := n3_; clear n0_ n1_ n2_ n3_; clear hb hbox hg; have hcz7_0 : w6.cell? ⟨gb142, 0, none⟩ = some (.int .i64 a0_0) := (blk_cell BK142.out 0).trans rfl; have hcz7_1 : w6.cell? ⟨gb142, 1, none⟩ = some (.int .i64 a0_1) := (blk_cell BK142.out 1).trans rfl; have hcz7_2 : w6.cell? ⟨gb142, 2, none⟩ = some (.string a0_2) := (blk_cell BK142.out 2).trans rfl; have hfz7_0 := blk_frozen BK142.out 0; have hfz7_1 := blk_frozen BK142.out 1; have hfz7_2 := blk_frozen BK142.out 2))
      repeat (go_quiet (first | ((with_reducible refine gate_dst (N := 1) rfl ?_); (try (refine gate_guard (by rfl) ?_; dsimp only)); refine box_event ?hg (N := 1) ?hd (cs := #[.int .i64 a0_0, .int .i64 a0_1, .string a0_2]) (t := 23) ?hr ?_; (case hd => rfl); (case hg => rfl); (case hr => first | (go_simp; done) | (go_simp; rfl)); intro gb142 hg w6 hbox hb; have n0_ := Aside0.mk (below_step (by repeat (first | (with_reducible first | exact HB.out | apply below_alloc | apply pw_below_drewN | apply below_drew1) | exact HB.out)) hb); have n1_ := Aside0.mk (hbox); have n2_ := Aside0.mk ((by rw [hg]; exact (below_size (by repeat (first | (with_reducible first | exact HB.out | apply below_alloc | apply pw_below_drewN | apply below_drew1) | exact HB.out))) : w.heap.size ≤ gb142)); have n3_ := Aside0.mk ((by rw [hg]; exact (below_size (by repeat (first | (with_reducible first | exact HB.out | apply below_alloc | apply pw_below_drewN | apply below_drew1) | exact HB.out))) : w.heap.size ≤ gb142)); clear HB; have HB := n0_; have BK142 := n1_; have GW142 := n2_; have GE142 := n3_; clear n0_ n1_ n2_ n3_; clear hb hbox hg; have hcz7_0 : w6.cell? ⟨gb142, 0, none⟩ = some (.int .i64 a0_0) := (blk_cell BK142.out 0).trans rfl; have hcz7_1 : w6.cell? ⟨gb142, 1, none⟩ = some (.int .i64 a0_1) := (blk_cell BK142.out 1).trans rfl; have hcz7_2 : w6.cell? ⟨gb142, 2, none⟩ = some (.string a0_2) := (blk_cell BK142.out 2).trans rfl; have hfz7_0 := blk_frozen BK142.out 0; have hfz7_1 := blk_frozen BK142.out 1; have hfz7_2 := blk_frozen BK142.out 2)); try go_wp2_with (first | ((with_reducible refine gate_dst (N := 1) rfl ?_); (try (refine gate_guard (by rfl) ?_; dsimp only)); refine box_event ?hg (N := 1) ?hd (cs := #[.int .i64 a0_0, .int .i64 a0_1, .string a0_2]) (t := 23) ?hr ?_; (case hd => rfl); (case hg => rfl); (case hr => first | (go_simp; done) | (go_simp; rfl)); intro gb142 hg w6 hbox hb; have n0_ := Aside0.mk (below_step (by repeat (first | (with_reducible first | exact HB.out | apply below_alloc | apply pw_below_drewN | apply below_drew1) | exact HB.out)) hb); have n1_ := Aside0.mk (hbox); have n2_ := Aside0.mk ((by rw [hg]; exact (below_size (by repeat (first | (with_reducible first | exact HB.out | apply below_alloc | apply pw_below_drewN | apply below_drew1) | exact HB.out))) : w.heap.size ≤ gb142)); have n3_ := Aside0.mk ((by rw [hg]; exact (below_size (by repeat (first | (with_reducible first | exact HB.out | apply below_alloc | apply pw_below_drewN | apply below_drew1) | exact HB.out))) : w.heap.size ≤ gb142)); clear HB; have HB := n0_; have BK142 := n1_; have GW142 := n2_; have GE142 := n3_; clear n0_ n1_ n2_ n3_; clear hb hbox hg; have hcz7_0 : w6.cell? ⟨gb142, 0, none⟩ = some (.int .i64 a0_0) := (blk_cell BK142.out 0).trans rfl; have hcz7_1 : w6.cell? ⟨gb142, 1, none⟩ = some (.int .i64 a0_1) := (blk_cell BK142.out 1).trans rfl; have hcz7_2 : w6.cell? ⟨gb142, 2, none⟩ = some (.string a0_2) := (blk_cell BK142.out 2).trans rfl; have hfz7_0 := blk_frozen BK142.out 0; have hfz7_1 := blk_frozen BK142.out 1; have hfz7_2 := blk_frozen BK142.out 2)))
      go_ret
      exact ⟨by first | rfl | (simp [errW_none, errW_some] <;> rfl) | (simp [*, errW_none, errW_some] <;> rfl), by repeat (first | (with_reducible first | exact HB.out | apply below_alloc | apply pw_below_drewN | apply below_drew1 | refine below_set ?_ GE142.out) | exact HB.out)⟩
  · rw [if_neg c2] at H
    have c2b0 : (a0_0 == 0) = false := beq_eq_false_iff_ne.mpr c2
    have c2b1 : (a0_0 != 0) = true := bne_iff_ne.mpr c2
    by_cases c8 : a0_0 = 1
    · rw [if_pos c8] at H
      have c8b0 : (a0_0 == 1) = true := beq_iff_eq.mpr c8
      have c8b1 : (a0_0 != 1) = false := bne_eq_false_iff_eq.mpr c8
      clear c8
      obtain rfl := Option.some.inj H
      go_enter Tryz.func13, Tryz.ntmps13
      go_wp2_with (first | ((with_reducible refine gate_dst (N := 1) rfl ?_); (try (refine gate_guard (by rfl) ?_; dsimp only)); refine box_event ?hg (N := 1) ?hd (cs := #[.int .i64 a0_0, .int .i64 a0_1, .string a0_2]) (t := 23) ?hr ?_; (case hd => rfl); (case hg => rfl); (case hr => first | (go_simp; done) | (go_simp; rfl)); intro gb142 hg w9 hbox hb; have n0_ := Aside0.mk (below_step (by repeat (first | (with_reducible first | exact HB.out | apply below_alloc | apply pw_below_drewN | apply below_drew1) | exact HB.out)) hb); have n1_ := Aside0.mk (hbox); have n2_ := Aside0.mk ((by rw [hg]; exact (below_size (by repeat (first | (with_reducible first | exact HB.out | apply below_alloc | apply pw_below_drewN | apply below_drew1) | exact HB.out))) : w.heap.size ≤ gb142)); have n3_ := Aside0.mk ((by rw [hg]; exact (below_size (by repeat (first | (with_reducible first | exact HB.out | apply below_alloc | apply pw_below_drewN | apply below_drew1) | exact HB.out))) : w.heap.size ≤ gb142)); clear HB; have HB := n0_; have BK142 := n1_; have GW142 := n2_; have GE142 := n3_; clear n0_ n1_ n2_ n3_; clear hb hbox hg; have hcz10_0 : w9.cell? ⟨gb142, 0, none⟩ = some (.int .i64 a0_0) := (blk_cell BK142.out 0).trans rfl; have hcz10_1 : w9.cell? ⟨gb142, 1, none⟩ = some (.int .i64 a0_1) := (blk_cell BK142.out 1).trans rfl; have hcz10_2 : w9.cell? ⟨gb142, 2, none⟩ = some (.string a0_2) := (blk_cell BK142.out 2).trans rfl; have hfz10_0 := blk_frozen BK142.out 0; have hfz10_1 := blk_frozen BK142.out 1; have hfz10_2 := blk_frozen BK142.out 2))
      repeat (go_quiet (first | ((with_reducible refine gate_dst (N := 1) rfl ?_); (try (refine gate_guard (by rfl) ?_; dsimp only)); refine box_event ?hg (N := 1) ?hd (cs := #[.int .i64 a0_0, .int .i64 a0_1, .string a0_2]) (t := 23) ?hr ?_; (case hd => rfl); (case hg => rfl); (case hr => first | (go_simp; done) | (go_simp; rfl)); intro gb142 hg w9 hbox hb; have n0_ := Aside0.mk (below_step (by repeat (first | (with_reducible first | exact HB.out | apply below_alloc | apply pw_below_drewN | apply below_drew1) | exact HB.out)) hb); have n1_ := Aside0.mk (hbox); have n2_ := Aside0.mk ((by rw [hg]; exact (below_size (by repeat (first | (with_reducible first | exact HB.out | apply below_alloc | apply pw_below_drewN | apply below_drew1) | exact HB.out))) : w.heap.size ≤ gb142)); have n3_ := Aside0.mk ((by rw [hg]; exact (below_size (by repeat (first | (with_reducible first | exact HB.out | apply below_alloc | apply pw_below_drewN | apply below_drew1) | exact HB.out))) : w.heap.size ≤ gb142)); clear HB; have HB := n0_; have BK142 := n1_; have GW142 := n2_; have GE142 := n3_; clear n0_ n1_ n2_ n3_; clear hb hbox hg; have hcz10_0 : w9.cell? ⟨gb142, 0, none⟩ = some (.int .i64 a0_0) := (blk_cell BK142.out 0).trans rfl; have hcz10_1 : w9.cell? ⟨gb142, 1, none⟩ = some (.int .i64 a0_1) := (blk_cell BK142.out 1).trans rfl; have hcz10_2 : w9.cell? ⟨gb142, 2, none⟩ = some (.string a0_2) := (blk_cell BK142.out 2).trans rfl; have hfz10_0 := blk_frozen BK142.out 0; have hfz10_1 := blk_frozen BK142.out 1; have hfz10_2 := blk_frozen BK142.out 2)); try go_wp2_with (first | ((with_reducible refine gate_dst (N := 1) rfl ?_); (try (refine gate_guard (by rfl) ?_; dsimp only)); refine box_event ?hg (N := 1) ?hd (cs := #[.int .i64 a0_0, .int .i64 a0_1, .string a0_2]) (t := 23) ?hr ?_; (case hd => rfl); (case hg => rfl); (case hr => first | (go_simp; done) | (go_simp; rfl)); intro gb142 hg w9 hbox hb; have n0_ := Aside0.mk (below_step (by repeat (first | (with_reducible first | exact HB.out | apply below_alloc | apply pw_below_drewN | apply below_drew1) | exact HB.out)) hb); have n1_ := Aside0.mk (hbox); have n2_ := Aside0.mk ((by rw [hg]; exact (below_size (by repeat (first | (with_reducible first | exact HB.out | apply below_alloc | apply pw_below_drewN | apply below_drew1) | exact HB.out))) : w.heap.size ≤ gb142)); have n3_ := Aside0.mk ((by rw [hg]; exact (below_size (by repeat (first | (with_reducible first | exact HB.out | apply below_alloc | apply pw_below_drewN | apply below_drew1) | exact HB.out))) : w.heap.size ≤ gb142)); clear HB; have HB := n0_; have BK142 := n1_; have GW142 := n2_; have GE142 := n3_; clear n0_ n1_ n2_ n3_; clear hb hbox hg; have hcz10_0 : w9.cell? ⟨gb142, 0, none⟩ = some (.int .i64 a0_0) := (blk_cell BK142.out 0).trans rfl; have hcz10_1 : w9.cell? ⟨gb142, 1, none⟩ = some (.int .i64 a0_1) := (blk_cell BK142.out 1).trans rfl; have hcz10_2 : w9.cell? ⟨gb142, 2, none⟩ = some (.string a0_2) := (blk_cell BK142.out 2).trans rfl; have hfz10_0 := blk_frozen BK142.out 0; have hfz10_1 := blk_frozen BK142.out 1; have hfz10_2 := blk_frozen BK142.out 2)))
      go_ret
      exact ⟨by first | rfl | (simp [errW_none, errW_some] <;> rfl) | (simp [*, errW_none, errW_some] <;> rfl), by repeat (first | (with_reducible first | exact HB.out | apply below_alloc | apply pw_below_drewN | apply below_drew1 | refine below_set ?_ GE142.out) | exact HB.out)⟩
    · rw [if_neg c8] at H
      have c8b0 : (a0_0 == 1) = false := beq_eq_false_iff_ne.mpr c8
      have c8b1 : (a0_0 != 1) = true := bne_iff_ne.mpr c8
      by_cases c11 : a0_0 = 2
      · rw [if_pos c11] at H
        have c11b0 : (a0_0 == 2) = true := beq_iff_eq.mpr c11
        have c11b1 : (a0_0 != 2) = false := bne_eq_false_iff_eq.mpr c11
        clear c11
        by_cases c12 : a0_2.toList = ([] : List UInt8)
        · rw [if_pos c12] at H
          have c12b0 : (a0_2.toList == ([] : List UInt8)) = true := beq_iff_eq.mpr c12
          have c12b1 : (a0_2.toList != ([] : List UInt8)) = false := bne_eq_false_iff_eq.mpr c12
          clear c12
          replace H := Option.bind_eq_some_iff.mp H
          obtain ⟨t143, A130, H⟩ := H
          replace H : ((mortmainref02_Kept.f t143).bind fun t144 => (some (t144 == a0_1))) = some r := H
          have A13 := Aside0.mk A130
          clear A130
          replace H := Option.bind_eq_some_iff.mp H
          obtain ⟨t144, A140, H⟩ := H
          replace H : (some (t144 == a0_1)) = some r := H
          have A14 := Aside0.mk A140
          clear A140
          obtain rfl := Option.some.inj H
          go_enter Tryz.func13, Tryz.ntmps13
          go_wp2_with (first | ((with_reducible refine gate_dst (N := 1) rfl ?_); (try (refine gate_guard (by rfl) ?_; dsimp only)); refine box_event ?hg (N := 1) ?hd (cs := #[.int .i64 a0_0, .int .i64 a0_1, .string a0_2]) (t := 23) ?hr ?_; (case hd => rfl); (case hg => rfl); (case hr => first | (go_simp; done) | (go_simp; rfl)); intro gb142 hg w15 hbox hb; have n0_ := Aside0.mk (below_step (by repeat (first | (with_reducible first | exact HB.out | apply below_alloc | apply pw_below_drewN | apply below_drew1) | exact HB.out)) hb); have n1_ := Aside0.mk (hbox); have n2_ := Aside0.mk ((by rw [hg]; exact (below_size (by repeat (first | (with_reducible first | exact HB.out | apply below_alloc | apply pw_below_drewN | apply below_drew1) | exact HB.out))) : w.heap.size ≤ gb142)); have n3_ := Aside0.mk ((by rw [hg]; exact (below_size (by repeat (first | (with_reducible first | exact HB.out | apply below_alloc | apply pw_below_drewN | apply below_drew1) | exact HB.out))) : w.heap.size ≤ gb142)); clear HB; have HB := n0_; have BK142 := n1_; have GW142 := n2_; have GE142 := n3_; clear n0_ n1_ n2_ n3_; clear hb hbox hg; have hcz16_0 : w15.cell? ⟨gb142, 0, none⟩ = some (.int .i64 a0_0) := (blk_cell BK142.out 0).trans rfl; have hcz16_1 : w15.cell? ⟨gb142, 1, none⟩ = some (.int .i64 a0_1) := (blk_cell BK142.out 1).trans rfl; have hcz16_2 : w15.cell? ⟨gb142, 2, none⟩ = some (.string a0_2) := (blk_cell BK142.out 2).trans rfl; have hfz16_0 := blk_frozen BK142.out 0; have hfz16_1 := blk_frozen BK142.out 1; have hfz16_2 := blk_frozen BK142.out 2) | (go_at_call 29; (with_reducible refine (mortmainref02_Of.calls a0_1 t143 _ A13.out).mono ?_); rintro e w' ⟨rfl, ⟨nd, rfl⟩⟩; (try first | exact ⟨rfl, _, World.drewN_drewN _ _ _⟩ | exact ⟨rfl, _, Eq.trans (World.drewN_drewN _ _ _) (congrArg (World.drewN _) (Nat.add_assoc _ _ _))⟩)) | (go_at_call 28; (with_reducible refine (mortmainref02_Kept.calls t143 t144 _ A14.out).mono ?_); rintro e w' ⟨rfl, ⟨nd, rfl⟩⟩; (try first | exact ⟨rfl, _, World.drewN_drewN _ _ _⟩ | exact ⟨rfl, _, Eq.trans (World.drewN_drewN _ _ _) (congrArg (World.drewN _) (Nat.add_assoc _ _ _))⟩)))
          repeat (go_quiet (first | ((with_reducible refine gate_dst (N := 1) rfl ?_); (try (refine gate_guard (by rfl) ?_; dsimp only)); refine box_event ?hg (N := 1) ?hd (cs := #[.int .i64 a0_0, .int .i64 a0_1, .string a0_2]) (t := 23) ?hr ?_; (case hd => rfl); (case hg => rfl); (case hr => first | (go_simp; done) | (go_simp; rfl)); intro gb142 hg w15 hbox hb; have n0_ := Aside0.mk (below_step (by repeat (first | (with_reducible first | exact HB.out | apply below_alloc | apply pw_below_drewN | apply below_drew1) | exact HB.out)) hb); have n1_ := Aside0.mk (hbox); have n2_ := Aside0.mk ((by rw [hg]; exact (below_size (by repeat (first | (with_reducible first | exact HB.out | apply below_alloc | apply pw_below_drewN | apply below_drew1) | exact HB.out))) : w.heap.size ≤ gb142)); have n3_ := Aside0.mk ((by rw [hg]; exact (below_size (by repeat (first | (with_reducible first | exact HB.out | apply below_alloc | apply pw_below_drewN | apply below_drew1) | exact HB.out))) : w.heap.size ≤ gb142)); clear HB; have HB := n0_; have BK142 := n1_; have GW142 := n2_; have GE142 := n3_; clear n0_ n1_ n2_ n3_; clear hb hbox hg; have hcz16_0 : w15.cell? ⟨gb142, 0, none⟩ = some (.int .i64 a0_0) := (blk_cell BK142.out 0).trans rfl; have hcz16_1 : w15.cell? ⟨gb142, 1, none⟩ = some (.int .i64 a0_1) := (blk_cell BK142.out 1).trans rfl; have hcz16_2 : w15.cell? ⟨gb142, 2, none⟩ = some (.string a0_2) := (blk_cell BK142.out 2).trans rfl; have hfz16_0 := blk_frozen BK142.out 0; have hfz16_1 := blk_frozen BK142.out 1; have hfz16_2 := blk_frozen BK142.out 2) | (go_at_call 29; (with_reducible refine (mortmainref02_Of.calls a0_1 t143 _ A13.out).mono ?_); rintro e w' ⟨rfl, ⟨nd, rfl⟩⟩; (try first | exact ⟨rfl, _, World.drewN_drewN _ _ _⟩ | exact ⟨rfl, _, Eq.trans (World.drewN_drewN _ _ _) (congrArg (World.drewN _) (Nat.add_assoc _ _ _))⟩)) | (go_at_call 28; (with_reducible refine (mortmainref02_Kept.calls t143 t144 _ A14.out).mono ?_); rintro e w' ⟨rfl, ⟨nd, rfl⟩⟩; (try first | exact ⟨rfl, _, World.drewN_drewN _ _ _⟩ | exact ⟨rfl, _, Eq.trans (World.drewN_drewN _ _ _) (congrArg (World.drewN _) (Nat.add_assoc _ _ _))⟩))); try go_wp2_with (first | ((with_reducible refine gate_dst (N := 1) rfl ?_); (try (refine gate_guard (by rfl) ?_; dsimp only)); refine box_event ?hg (N := 1) ?hd (cs := #[.int .i64 a0_0, .int .i64 a0_1, .string a0_2]) (t := 23) ?hr ?_; (case hd => rfl); (case hg => rfl); (case hr => first | (go_simp; done) | (go_simp; rfl)); intro gb142 hg w15 hbox hb; have n0_ := Aside0.mk (below_step (by repeat (first | (with_reducible first | exact HB.out | apply below_alloc | apply pw_below_drewN | apply below_drew1) | exact HB.out)) hb); have n1_ := Aside0.mk (hbox); have n2_ := Aside0.mk ((by rw [hg]; exact (below_size (by repeat (first | (with_reducible first | exact HB.out | apply below_alloc | apply pw_below_drewN | apply below_drew1) | exact HB.out))) : w.heap.size ≤ gb142)); have n3_ := Aside0.mk ((by rw [hg]; exact (below_size (by repeat (first | (with_reducible first | exact HB.out | apply below_alloc | apply pw_below_drewN | apply below_drew1) | exact HB.out))) : w.heap.size ≤ gb142)); clear HB; have HB := n0_; have BK142 := n1_; have GW142 := n2_; have GE142 := n3_; clear n0_ n1_ n2_ n3_; clear hb hbox hg; have hcz16_0 : w15.cell? ⟨gb142, 0, none⟩ = some (.int .i64 a0_0) := (blk_cell BK142.out 0).trans rfl; have hcz16_1 : w15.cell? ⟨gb142, 1, none⟩ = some (.int .i64 a0_1) := (blk_cell BK142.out 1).trans rfl; have hcz16_2 : w15.cell? ⟨gb142, 2, none⟩ = some (.string a0_2) := (blk_cell BK142.out 2).trans rfl; have hfz16_0 := blk_frozen BK142.out 0; have hfz16_1 := blk_frozen BK142.out 1; have hfz16_2 := blk_frozen BK142.out 2) | (go_at_call 29; (with_reducible refine (mortmainref02_Of.calls a0_1 t143 _ A13.out).mono ?_); rintro e w' ⟨rfl, ⟨nd, rfl⟩⟩; (try first | exact ⟨rfl, _, World.drewN_drewN _ _ _⟩ | exact ⟨rfl, _, Eq.trans (World.drewN_drewN _ _ _) (congrArg (World.drewN _) (Nat.add_assoc _ _ _))⟩)) | (go_at_call 28; (with_reducible refine (mortmainref02_Kept.calls t143 t144 _ A14.out).mono ?_); rintro e w' ⟨rfl, ⟨nd, rfl⟩⟩; (try first | exact ⟨rfl, _, World.drewN_drewN _ _ _⟩ | exact ⟨rfl, _, Eq.trans (World.drewN_drewN _ _ _) (congrArg (World.drewN _) (Nat.add_assoc _ _ _))⟩))))
          go_ret
          exact ⟨by first | rfl | (simp [errW_none, errW_some] <;> rfl) | (simp [*, errW_none, errW_some] <;> rfl), by repeat (first | (with_reducible first | exact HB.out | apply below_alloc | apply pw_below_drewN | apply below_drew1 | refine below_set ?_ GE142.out) | exact HB.out)⟩
        · rw [if_neg c12] at H
          have c12b0 : (a0_2.toList == ([] : List UInt8)) = false := beq_eq_false_iff_ne.mpr c12
          have c12b1 : (a0_2.toList != ([] : List UInt8)) = true := bne_iff_ne.mpr c12
          obtain rfl := Option.some.inj H
          go_enter Tryz.func13, Tryz.ntmps13
          go_wp2_with (first | ((with_reducible refine gate_dst (N := 1) rfl ?_); (try (refine gate_guard (by rfl) ?_; dsimp only)); refine box_event ?hg (N := 1) ?hd (cs := #[.int .i64 a0_0, .int .i64 a0_1, .string a0_2]) (t := 23) ?hr ?_; (case hd => rfl); (case hg => rfl); (case hr => first | (go_simp; done) | (go_simp; rfl)); intro gb142 hg w17 hbox hb; have n0_ := Aside0.mk (below_step (by repeat (first | (with_reducible first | exact HB.out | apply below_alloc | apply pw_below_drewN | apply below_drew1) | exact HB.out)) hb); have n1_ := Aside0.mk (hbox); have n2_ := Aside0.mk ((by rw [hg]; exact (below_size (by repeat (first | (with_reducible first | exact HB.out | apply below_alloc | apply pw_below_drewN | apply below_drew1) | exact HB.out))) : w.heap.size ≤ gb142)); have n3_ := Aside0.mk ((by rw [hg]; exact (below_size (by repeat (first | (with_reducible first | exact HB.out | apply below_alloc | apply pw_below_drewN | apply below_drew1) | exact HB.out))) : w.heap.size ≤ gb142)); clear HB; have HB := n0_; have BK142 := n1_; have GW142 := n2_; have GE142 := n3_; clear n0_ n1_ n2_ n3_; clear hb hbox hg; have hcz18_0 : w17.cell? ⟨gb142, 0, none⟩ = some (.int .i64 a0_0) := (blk_cell BK142.out 0).trans rfl; have hcz18_1 : w17.cell? ⟨gb142, 1, none⟩ = some (.int .i64 a0_1) := (blk_cell BK142.out 1).trans rfl; have hcz18_2 : w17.cell? ⟨gb142, 2, none⟩ = some (.string a0_2) := (blk_cell BK142.out 2).trans rfl; have hfz18_0 := blk_frozen BK142.out 0; have hfz18_1 := blk_frozen BK142.out 1; have hfz18_2 := blk_frozen BK142.out 2))
          repeat (go_quiet (first | ((with_reducible refine gate_dst (N := 1) rfl ?_); (try (refine gate_guard (by rfl) ?_; dsimp only)); refine box_event ?hg (N := 1) ?hd (cs := #[.int .i64 a0_0, .int .i64 a0_1, .string a0_2]) (t := 23) ?hr ?_; (case hd => rfl); (case hg => rfl); (case hr => first | (go_simp; done) | (go_simp; rfl)); intro gb142 hg w17 hbox hb; have n0_ := Aside0.mk (below_step (by repeat (first | (with_reducible first | exact HB.out | apply below_alloc | apply pw_below_drewN | apply below_drew1) | exact HB.out)) hb); have n1_ := Aside0.mk (hbox); have n2_ := Aside0.mk ((by rw [hg]; exact (below_size (by repeat (first | (with_reducible first | exact HB.out | apply below_alloc | apply pw_below_drewN | apply below_drew1) | exact HB.out))) : w.heap.size ≤ gb142)); have n3_ := Aside0.mk ((by rw [hg]; exact (below_size (by repeat (first | (with_reducible first | exact HB.out | apply below_alloc | apply pw_below_drewN | apply below_drew1) | exact HB.out))) : w.heap.size ≤ gb142)); clear HB; have HB := n0_; have BK142 := n1_; have GW142 := n2_; have GE142 := n3_; clear n0_ n1_ n2_ n3_; clear hb hbox hg; have hcz18_0 : w17.cell? ⟨gb142, 0, none⟩ = some (.int .i64 a0_0) := (blk_cell BK142.out 0).trans rfl; have hcz18_1 : w17.cell? ⟨gb142, 1, none⟩ = some (.int .i64 a0_1) := (blk_cell BK142.out 1).trans rfl; have hcz18_2 : w17.cell? ⟨gb142, 2, none⟩ = some (.string a0_2) := (blk_cell BK142.out 2).trans rfl; have hfz18_0 := blk_frozen BK142.out 0; have hfz18_1 := blk_frozen BK142.out 1; have hfz18_2 := blk_frozen BK142.out 2)); try go_wp2_with (first | ((with_reducible refine gate_dst (N := 1) rfl ?_); (try (refine gate_guard (by rfl) ?_; dsimp only)); refine box_event ?hg (N := 1) ?hd (cs := #[.int .i64 a0_0, .int .i64 a0_1, .string a0_2]) (t := 23) ?hr ?_; (case hd => rfl); (case hg => rfl); (case hr => first | (go_simp; done) | (go_simp; rfl)); intro gb142 hg w17 hbox hb; have n0_ := Aside0.mk (below_step (by repeat (first | (with_reducible first | exact HB.out | apply below_alloc | apply pw_below_drewN | apply below_drew1) | exact HB.out)) hb); have n1_ := Aside0.mk (hbox); have n2_ := Aside0.mk ((by rw [hg]; exact (below_size (by repeat (first | (with_reducible first | exact HB.out | apply below_alloc | apply pw_below_drewN | apply below_drew1) | exact HB.out))) : w.heap.size ≤ gb142)); have n3_ := Aside0.mk ((by rw [hg]; exact (below_size (by repeat (first | (with_reducible first | exact HB.out | apply below_alloc | apply pw_below_drewN | apply below_drew1) | exact HB.out))) : w.heap.size ≤ gb142)); clear HB; have HB := n0_; have BK142 := n1_; have GW142 := n2_; have GE142 := n3_; clear n0_ n1_ n2_ n3_; clear hb hbox hg; have hcz18_0 : w17.cell? ⟨gb142, 0, none⟩ = some (.int .i64 a0_0) := (blk_cell BK142.out 0).trans rfl; have hcz18_1 : w17.cell? ⟨gb142, 1, none⟩ = some (.int .i64 a0_1) := (blk_cell BK142.out 1).trans rfl; have hcz18_2 : w17.cell? ⟨gb142, 2, none⟩ = some (.string a0_2) := (blk_cell BK142.out 2).trans rfl; have hfz18_0 := blk_frozen BK142.out 0; have hfz18_1 := blk_frozen BK142.out 1; have hfz18_2 := blk_frozen BK142.out 2)))
          go_ret
          exact ⟨by first | rfl | (simp [errW_none, errW_some] <;> rfl) | (simp [*, errW_none, errW_some] <;> rfl), by repeat (first | (with_reducible first | exact HB.out | apply below_alloc | apply pw_below_drewN | apply below_drew1 | refine below_set ?_ GE142.out) | exact HB.out)⟩
      · rw [if_neg c11] at H
        have c11b0 : (a0_0 == 2) = false := beq_eq_false_iff_ne.mpr c11
        have c11b1 : (a0_0 != 2) = true := bne_iff_ne.mpr c11
        by_cases c19 : a0_0 = 3
        · rw [if_pos c19] at H
          have c19b0 : (a0_0 == 3) = true := beq_iff_eq.mpr c19
          have c19b1 : (a0_0 != 3) = false := bne_eq_false_iff_eq.mpr c19
          clear c19
          by_cases c20 : a0_1 = 0
          · rw [if_pos c20] at H
            have c20b0 : (a0_1 == 0) = true := beq_iff_eq.mpr c20
            have c20b1 : (a0_1 != 0) = false := bne_eq_false_iff_eq.mpr c20
            clear c20
            obtain rfl := Option.some.inj H
            go_enter Tryz.func13, Tryz.ntmps13
            go_wp2_with (first | ((with_reducible refine gate_dst (N := 1) rfl ?_); (try (refine gate_guard (by rfl) ?_; dsimp only)); refine box_event ?hg (N := 1) ?hd (cs := #[.int .i64 a0_0, .int .i64 a0_1, .string a0_2]) (t := 23) ?hr ?_; (case hd => rfl); (case hg => rfl); (case hr => first | (go_simp; done) | (go_simp; rfl)); intro gb142 hg w21 hbox hb; have n0_ := Aside0.mk (below_step (by repeat (first | (with_reducible first | exact HB.out | apply below_alloc | apply pw_below_drewN | apply below_drew1) | exact HB.out)) hb); have n1_ := Aside0.mk (hbox); have n2_ := Aside0.mk ((by rw [hg]; exact (below_size (by repeat (first | (with_reducible first | exact HB.out | apply below_alloc | apply pw_below_drewN | apply below_drew1) | exact HB.out))) : w.heap.size ≤ gb142)); have n3_ := Aside0.mk ((by rw [hg]; exact (below_size (by repeat (first | (with_reducible first | exact HB.out | apply below_alloc | apply pw_below_drewN | apply below_drew1) | exact HB.out))) : w.heap.size ≤ gb142)); clear HB; have HB := n0_; have BK142 := n1_; have GW142 := n2_; have GE142 := n3_; clear n0_ n1_ n2_ n3_; clear hb hbox hg; have hcz22_0 : w21.cell? ⟨gb142, 0, none⟩ = some (.int .i64 a0_0) := (blk_cell BK142.out 0).trans rfl; have hcz22_1 : w21.cell? ⟨gb142, 1, none⟩ = some (.int .i64 a0_1) := (blk_cell BK142.out 1).trans rfl; have hcz22_2 : w21.cell? ⟨gb142, 2, none⟩ = some (.string a0_2) := (blk_cell BK142.out 2).trans rfl; have hfz22_0 := blk_frozen BK142.out 0; have hfz22_1 := blk_frozen BK142.out 1; have hfz22_2 := blk_frozen BK142.out 2))
            repeat (go_quiet (first | ((with_reducible refine gate_dst (N := 1) rfl ?_); (try (refine gate_guard (by rfl) ?_; dsimp only)); refine box_event ?hg (N := 1) ?hd (cs := #[.int .i64 a0_0, .int .i64 a0_1, .string a0_2]) (t := 23) ?hr ?_; (case hd => rfl); (case hg => rfl); (case hr => first | (go_simp; done) | (go_simp; rfl)); intro gb142 hg w21 hbox hb; have n0_ := Aside0.mk (below_step (by repeat (first | (with_reducible first | exact HB.out | apply below_alloc | apply pw_below_drewN | apply below_drew1) | exact HB.out)) hb); have n1_ := Aside0.mk (hbox); have n2_ := Aside0.mk ((by rw [hg]; exact (below_size (by repeat (first | (with_reducible first | exact HB.out | apply below_alloc | apply pw_below_drewN | apply below_drew1) | exact HB.out))) : w.heap.size ≤ gb142)); have n3_ := Aside0.mk ((by rw [hg]; exact (below_size (by repeat (first | (with_reducible first | exact HB.out | apply below_alloc | apply pw_below_drewN | apply below_drew1) | exact HB.out))) : w.heap.size ≤ gb142)); clear HB; have HB := n0_; have BK142 := n1_; have GW142 := n2_; have GE142 := n3_; clear n0_ n1_ n2_ n3_; clear hb hbox hg; have hcz22_0 : w21.cell? ⟨gb142, 0, none⟩ = some (.int .i64 a0_0) := (blk_cell BK142.out 0).trans rfl; have hcz22_1 : w21.cell? ⟨gb142, 1, none⟩ = some (.int .i64 a0_1) := (blk_cell BK142.out 1).trans rfl; have hcz22_2 : w21.cell? ⟨gb142, 2, none⟩ = some (.string a0_2) := (blk_cell BK142.out 2).trans rfl; have hfz22_0 := blk_frozen BK142.out 0; have hfz22_1 := blk_frozen BK142.out 1; have hfz22_2 := blk_frozen BK142.out 2)); try go_wp2_with (first | ((with_reducible refine gate_dst (N := 1) rfl ?_); (try (refine gate_guard (by rfl) ?_; dsimp only)); refine box_event ?hg (N := 1) ?hd (cs := #[.int .i64 a0_0, .int .i64 a0_1, .string a0_2]) (t := 23) ?hr ?_; (case hd => rfl); (case hg => rfl); (case hr => first | (go_simp; done) | (go_simp; rfl)); intro gb142 hg w21 hbox hb; have n0_ := Aside0.mk (below_step (by repeat (first | (with_reducible first | exact HB.out | apply below_alloc | apply pw_below_drewN | apply below_drew1) | exact HB.out)) hb); have n1_ := Aside0.mk (hbox); have n2_ := Aside0.mk ((by rw [hg]; exact (below_size (by repeat (first | (with_reducible first | exact HB.out | apply below_alloc | apply pw_below_drewN | apply below_drew1) | exact HB.out))) : w.heap.size ≤ gb142)); have n3_ := Aside0.mk ((by rw [hg]; exact (below_size (by repeat (first | (with_reducible first | exact HB.out | apply below_alloc | apply pw_below_drewN | apply below_drew1) | exact HB.out))) : w.heap.size ≤ gb142)); clear HB; have HB := n0_; have BK142 := n1_; have GW142 := n2_; have GE142 := n3_; clear n0_ n1_ n2_ n3_; clear hb hbox hg; have hcz22_0 : w21.cell? ⟨gb142, 0, none⟩ = some (.int .i64 a0_0) := (blk_cell BK142.out 0).trans rfl; have hcz22_1 : w21.cell? ⟨gb142, 1, none⟩ = some (.int .i64 a0_1) := (blk_cell BK142.out 1).trans rfl; have hcz22_2 : w21.cell? ⟨gb142, 2, none⟩ = some (.string a0_2) := (blk_cell BK142.out 2).trans rfl; have hfz22_0 := blk_frozen BK142.out 0; have hfz22_1 := blk_frozen BK142.out 1; have hfz22_2 := blk_frozen BK142.out 2)))
            go_ret
            exact ⟨by first | rfl | (simp [errW_none, errW_some] <;> rfl) | (simp [*, errW_none, errW_some] <;> rfl), by repeat (first | (with_reducible first | exact HB.out | apply below_alloc | apply pw_below_drewN | apply below_drew1 | refine below_set ?_ GE142.out) | exact HB.out)⟩
          · rw [if_neg c20] at H
            have c20b0 : (a0_1 == 0) = false := beq_eq_false_iff_ne.mpr c20
            have c20b1 : (a0_1 != 0) = true := bne_iff_ne.mpr c20
            obtain rfl := Option.some.inj H
            go_enter Tryz.func13, Tryz.ntmps13
            go_wp2_with (first | ((with_reducible refine gate_dst (N := 1) rfl ?_); (try (refine gate_guard (by rfl) ?_; dsimp only)); refine box_event ?hg (N := 1) ?hd (cs := #[.int .i64 a0_0, .int .i64 a0_1, .string a0_2]) (t := 23) ?hr ?_; (case hd => rfl); (case hg => rfl); (case hr => first | (go_simp; done) | (go_simp; rfl)); intro gb142 hg w23 hbox hb; have n0_ := Aside0.mk (below_step (by repeat (first | (with_reducible first | exact HB.out | apply below_alloc | apply pw_below_drewN | apply below_drew1) | exact HB.out)) hb); have n1_ := Aside0.mk (hbox); have n2_ := Aside0.mk ((by rw [hg]; exact (below_size (by repeat (first | (with_reducible first | exact HB.out | apply below_alloc | apply pw_below_drewN | apply below_drew1) | exact HB.out))) : w.heap.size ≤ gb142)); have n3_ := Aside0.mk ((by rw [hg]; exact (below_size (by repeat (first | (with_reducible first | exact HB.out | apply below_alloc | apply pw_below_drewN | apply below_drew1) | exact HB.out))) : w.heap.size ≤ gb142)); clear HB; have HB := n0_; have BK142 := n1_; have GW142 := n2_; have GE142 := n3_; clear n0_ n1_ n2_ n3_; clear hb hbox hg; have hcz24_0 : w23.cell? ⟨gb142, 0, none⟩ = some (.int .i64 a0_0) := (blk_cell BK142.out 0).trans rfl; have hcz24_1 : w23.cell? ⟨gb142, 1, none⟩ = some (.int .i64 a0_1) := (blk_cell BK142.out 1).trans rfl; have hcz24_2 : w23.cell? ⟨gb142, 2, none⟩ = some (.string a0_2) := (blk_cell BK142.out 2).trans rfl; have hfz24_0 := blk_frozen BK142.out 0; have hfz24_1 := blk_frozen BK142.out 1; have hfz24_2 := blk_frozen BK142.out 2))
            repeat (go_quiet (first | ((with_reducible refine gate_dst (N := 1) rfl ?_); (try (refine gate_guard (by rfl) ?_; dsimp only)); refine box_event ?hg (N := 1) ?hd (cs := #[.int .i64 a0_0, .int .i64 a0_1, .string a0_2]) (t := 23) ?hr ?_; (case hd => rfl); (case hg => rfl); (case hr => first | (go_simp; done) | (go_simp; rfl)); intro gb142 hg w23 hbox hb; have n0_ := Aside0.mk (below_step (by repeat (first | (with_reducible first | exact HB.out | apply below_alloc | apply pw_below_drewN | apply below_drew1) | exact HB.out)) hb); have n1_ := Aside0.mk (hbox); have n2_ := Aside0.mk ((by rw [hg]; exact (below_size (by repeat (first | (with_reducible first | exact HB.out | apply below_alloc | apply pw_below_drewN | apply below_drew1) | exact HB.out))) : w.heap.size ≤ gb142)); have n3_ := Aside0.mk ((by rw [hg]; exact (below_size (by repeat (first | (with_reducible first | exact HB.out | apply below_alloc | apply pw_below_drewN | apply below_drew1) | exact HB.out))) : w.heap.size ≤ gb142)); clear HB; have HB := n0_; have BK142 := n1_; have GW142 := n2_; have GE142 := n3_; clear n0_ n1_ n2_ n3_; clear hb hbox hg; have hcz24_0 : w23.cell? ⟨gb142, 0, none⟩ = some (.int .i64 a0_0) := (blk_cell BK142.out 0).trans rfl; have hcz24_1 : w23.cell? ⟨gb142, 1, none⟩ = some (.int .i64 a0_1) := (blk_cell BK142.out 1).trans rfl; have hcz24_2 : w23.cell? ⟨gb142, 2, none⟩ = some (.string a0_2) := (blk_cell BK142.out 2).trans rfl; have hfz24_0 := blk_frozen BK142.out 0; have hfz24_1 := blk_frozen BK142.out 1; have hfz24_2 := blk_frozen BK142.out 2)); try go_wp2_with (first | ((with_reducible refine gate_dst (N := 1) rfl ?_); (try (refine gate_guard (by rfl) ?_; dsimp only)); refine box_event ?hg (N := 1) ?hd (cs := #[.int .i64 a0_0, .int .i64 a0_1, .string a0_2]) (t := 23) ?hr ?_; (case hd => rfl); (case hg => rfl); (case hr => first | (go_simp; done) | (go_simp; rfl)); intro gb142 hg w23 hbox hb; have n0_ := Aside0.mk (below_step (by repeat (first | (with_reducible first | exact HB.out | apply below_alloc | apply pw_below_drewN | apply below_drew1) | exact HB.out)) hb); have n1_ := Aside0.mk (hbox); have n2_ := Aside0.mk ((by rw [hg]; exact (below_size (by repeat (first | (with_reducible first | exact HB.out | apply below_alloc | apply pw_below_drewN | apply below_drew1) | exact HB.out))) : w.heap.size ≤ gb142)); have n3_ := Aside0.mk ((by rw [hg]; exact (below_size (by repeat (first | (with_reducible first | exact HB.out | apply below_alloc | apply pw_below_drewN | apply below_drew1) | exact HB.out))) : w.heap.size ≤ gb142)); clear HB; have HB := n0_; have BK142 := n1_; have GW142 := n2_; have GE142 := n3_; clear n0_ n1_ n2_ n3_; clear hb hbox hg; have hcz24_0 : w23.cell? ⟨gb142, 0, none⟩ = some (.int .i64 a0_0) := (blk_cell BK142.out 0).trans rfl; have hcz24_1 : w23.cell? ⟨gb142, 1, none⟩ = some (.int .i64 a0_1) := (blk_cell BK142.out 1).trans rfl; have hcz24_2 : w23.cell? ⟨gb142, 2, none⟩ = some (.string a0_2) := (blk_cell BK142.out 2).trans rfl; have hfz24_0 := blk_frozen BK142.out 0; have hfz24_1 := blk_frozen BK142.out 1; have hfz24_2 := blk_frozen BK142.out 2)))
            go_ret
            exact ⟨by first | rfl | (simp [errW_none, errW_some] <;> rfl) | (simp [*, errW_none, errW_some] <;> rfl), by repeat (first | (with_reducible first | exact HB.out | apply below_alloc | apply pw_below_drewN | apply below_drew1 | refine below_set ?_ GE142.out) | exact HB.out)⟩
        · rw [if_neg c19] at H
          have c19b0 : (a0_0 == 3) = false := beq_eq_false_iff_ne.mpr c19
          have c19b1 : (a0_0 != 3) = true := bne_iff_ne.mpr c19
          obtain rfl := Option.some.inj H
          go_enter Tryz.func13, Tryz.ntmps13
          go_wp2_with (first | ((with_reducible refine gate_dst (N := 1) rfl ?_); (try (refine gate_guard (by rfl) ?_; dsimp only)); refine box_event ?hg (N := 1) ?hd (cs := #[.int .i64 a0_0, .int .i64 a0_1, .string a0_2]) (t := 23) ?hr ?_; (case hd => rfl); (case hg => rfl); (case hr => first | (go_simp; done) | (go_simp; rfl)); intro gb142 hg w25 hbox hb; have n0_ := Aside0.mk (below_step (by repeat (first | (with_reducible first | exact HB.out | apply below_alloc | apply pw_below_drewN | apply below_drew1) | exact HB.out)) hb); have n1_ := Aside0.mk (hbox); have n2_ := Aside0.mk ((by rw [hg]; exact (below_size (by repeat (first | (with_reducible first | exact HB.out | apply below_alloc | apply pw_below_drewN | apply below_drew1) | exact HB.out))) : w.heap.size ≤ gb142)); have n3_ := Aside0.mk ((by rw [hg]; exact (below_size (by repeat (first | (with_reducible first | exact HB.out | apply below_alloc | apply pw_below_drewN | apply below_drew1) | exact HB.out))) : w.heap.size ≤ gb142)); clear HB; have HB := n0_; have BK142 := n1_; have GW142 := n2_; have GE142 := n3_; clear n0_ n1_ n2_ n3_; clear hb hbox hg; have hcz26_0 : w25.cell? ⟨gb142, 0, none⟩ = some (.int .i64 a0_0) := (blk_cell BK142.out 0).trans rfl; have hcz26_1 : w25.cell? ⟨gb142, 1, none⟩ = some (.int .i64 a0_1) := (blk_cell BK142.out 1).trans rfl; have hcz26_2 : w25.cell? ⟨gb142, 2, none⟩ = some (.string a0_2) := (blk_cell BK142.out 2).trans rfl; have hfz26_0 := blk_frozen BK142.out 0; have hfz26_1 := blk_frozen BK142.out 1; have hfz26_2 := blk_frozen BK142.out 2))
          repeat (go_quiet (first | ((with_reducible refine gate_dst (N := 1) rfl ?_); (try (refine gate_guard (by rfl) ?_; dsimp only)); refine box_event ?hg (N := 1) ?hd (cs := #[.int .i64 a0_0, .int .i64 a0_1, .string a0_2]) (t := 23) ?hr ?_; (case hd => rfl); (case hg => rfl); (case hr => first | (go_simp; done) | (go_simp; rfl)); intro gb142 hg w25 hbox hb; have n0_ := Aside0.mk (below_step (by repeat (first | (with_reducible first | exact HB.out | apply below_alloc | apply pw_below_drewN | apply below_drew1) | exact HB.out)) hb); have n1_ := Aside0.mk (hbox); have n2_ := Aside0.mk ((by rw [hg]; exact (below_size (by repeat (first | (with_reducible first | exact HB.out | apply below_alloc | apply pw_below_drewN | apply below_drew1) | exact HB.out))) : w.heap.size ≤ gb142)); have n3_ := Aside0.mk ((by rw [hg]; exact (below_size (by repeat (first | (with_reducible first | exact HB.out | apply below_alloc | apply pw_below_drewN | apply below_drew1) | exact HB.out))) : w.heap.size ≤ gb142)); clear HB; have HB := n0_; have BK142 := n1_; have GW142 := n2_; have GE142 := n3_; clear n0_ n1_ n2_ n3_; clear hb hbox hg; have hcz26_0 : w25.cell? ⟨gb142, 0, none⟩ = some (.int .i64 a0_0) := (blk_cell BK142.out 0).trans rfl; have hcz26_1 : w25.cell? ⟨gb142, 1, none⟩ = some (.int .i64 a0_1) := (blk_cell BK142.out 1).trans rfl; have hcz26_2 : w25.cell? ⟨gb142, 2, none⟩ = some (.string a0_2) := (blk_cell BK142.out 2).trans rfl; have hfz26_0 := blk_frozen BK142.out 0; have hfz26_1 := blk_frozen BK142.out 1; have hfz26_2 := blk_frozen BK142.out 2)); try go_wp2_with (first | ((with_reducible refine gate_dst (N := 1) rfl ?_); (try (refine gate_guard (by rfl) ?_; dsimp only)); refine box_event ?hg (N := 1) ?hd (cs := #[.int .i64 a0_0, .int .i64 a0_1, .string a0_2]) (t := 23) ?hr ?_; (case hd => rfl); (case hg => rfl); (case hr => first | (go_simp; done) | (go_simp; rfl)); intro gb142 hg w25 hbox hb; have n0_ := Aside0.mk (below_step (by repeat (first | (with_reducible first | exact HB.out | apply below_alloc | apply pw_below_drewN | apply below_drew1) | exact HB.out)) hb); have n1_ := Aside0.mk (hbox); have n2_ := Aside0.mk ((by rw [hg]; exact (below_size (by repeat (first | (with_reducible first | exact HB.out | apply below_alloc | apply pw_below_drewN | apply below_drew1) | exact HB.out))) : w.heap.size ≤ gb142)); have n3_ := Aside0.mk ((by rw [hg]; exact (below_size (by repeat (first | (with_reducible first | exact HB.out | apply below_alloc | apply pw_below_drewN | apply below_drew1) | exact HB.out))) : w.heap.size ≤ gb142)); clear HB; have HB := n0_; have BK142 := n1_; have GW142 := n2_; have GE142 := n3_; clear n0_ n1_ n2_ n3_; clear hb hbox hg; have hcz26_0 : w25.cell? ⟨gb142, 0, none⟩ = some (.int .i64 a0_0) := (blk_cell BK142.out 0).trans rfl; have hcz26_1 : w25.cell? ⟨gb142, 1, none⟩ = some (.int .i64 a0_1) := (blk_cell BK142.out 1).trans rfl; have hcz26_2 : w25.cell? ⟨gb142, 2, none⟩ = some (.string a0_2) := (blk_cell BK142.out 2).trans rfl; have hfz26_0 := blk_frozen BK142.out 0; have hfz26_1 := blk_frozen BK142.out 1; have hfz26_2 := blk_frozen BK142.out 2)))
          go_ret
          exact ⟨by first | rfl | (simp [errW_none, errW_some] <;> rfl) | (simp [*, errW_none, errW_some] <;> rfl), by repeat (first | (with_reducible first | exact HB.out | apply below_alloc | apply pw_below_drewN | apply below_drew1 | refine below_set ?_ GE142.out) | exact HB.out)⟩

end Go.Proofs.YtmaciepkkianhabGreatDoor.QVal

namespace Go.Proofs.YtmaciepkkianhabGreatDoor.QVal
open Go.Proofs.YtmaciepkkianhabGreatDoor.H
attribute [local go_sem] ite_signed_u64 ite_signed_u32
open Go.RowKit Go.Proofs.YtmaciepkkianhabGreatDoorW.PrintWords Go.Proofs.YtmaciepkkianhabGreatDoorW.PrintLast Go.Proofs.YtmaciepkkianhabGreatDoorW.PrintMore
attribute [local go_sem] max2_int min2_int max_two min_two max_three min_three max_four min_four   -- for this text's walks alone
set_option linter.unusedVariables false
set_option linter.unusedSimpArgs false

/-! ### mortmainref03_eight: function 43 -/
def mortmainref03_eight.l0 : Nat → Int → ByteArray → Int → Option (ByteArray)
  | 0, _, _, _ => none
  | k + 1, x0, x3, x4 => if x4 < 8 then ((some (([(Int.tmod x0 256) % 256] : List Int) : List Int)).bind fun y145 => (if (strOfNums y145).size + x3.size ≤ 9223372036854775807 then (mortmainref03_eight.l0 k (IntKind.u64.wrap (Int.tdiv x0 256)) ((strOfNums y145) ++ x3) (wrap64 (x4 + 1))) else (none))) else (some x3)
def mortmainref03_eight.f (k : Nat) (a0 : Int) : Option (ByteArray) := mortmainref03_eight.l0 k a0 (⟨#[]⟩ : ByteArray) 0
set_option maxHeartbeats 8000000 in
set_option maxRecDepth 100000 in
theorem mortmainref03_eight.calls (k : Nat) (a0 : Int) (r : ByteArray) (w : World) (h : mortmainref03_eight.f k a0 = some r) :
    Calls Tryz.prog 43 #[.int .u64 a0] w fun e w' => e = .returned (.string r) ∧ Below w.heap.size w w' := by
  have HB := Aside0.mk (Below.refl w.heap.size w)
  have H : (mortmainref03_eight.l0 k a0 (⟨#[]⟩ : ByteArray) 0) = some r := h
  clear h
  have H' := Aside0.mk H
  clear H
  go_enter Tryz.func43, Tryz.ntmps43
  go_wp2
  go_loopg [0, 3, 4] k (fun kq v0 v3 v4 w' => ∃ (x0_1 : Int) (x3_1 : ByteArray) (x4_1 : Int), v0 = .int .u64 x0_1 ∧ v3 = .string x3_1 ∧ v4 = .int .i64 x4_1 ∧ Aside0 (mortmainref03_eight.l0 kq x0_1 x3_1 x4_1 = some r) ∧ Aside0 (kq ≤ k) ∧ Aside0 (Below w.heap.size w w'))
  case atStart => exact ⟨(a0), ((⟨#[]⟩ : ByteArray)), (0), (by first | rfl | (simp; done) | (simp [*]; done) | (generalize ByteArray.toList _ = l_; cases l_ <;> rfl)), (by first | rfl | (simp; done) | (simp [*]; done) | (generalize ByteArray.toList _ = l_; cases l_ <;> rfl)), (by first | rfl | (simp; done) | (simp [*]; done) | (generalize ByteArray.toList _ = l_; cases l_ <;> rfl)), H', ⟨Nat.le_refl _⟩, ⟨by repeat (first | (with_reducible first | exact HB.out | apply below_alloc | apply pw_below_drewN | apply below_drew1) | exact HB.out)⟩⟩
  case round =>
    clear H'
    obtain ⟨x0_1, x3_1, x4_1, rfl, rfl, rfl, HA, HK1, HB⟩ := hrel
    cases gk with
    | zero => exact absurd HA.out (by simp [mortmainref03_eight.l0])
    | succ k1 =>
      have H := HA.out
      clear HA
      simp only [mortmainref03_eight.l0] at H
      by_cases c2 : x4_1 < 8
      · rw [if_pos c2] at H
        have c2b0 : decide (x4_1 < 8) = true := decide_eq_true c2
        clear c2
        obtain ⟨y145, hy145⟩ : ∃ y_ : List Int, y_ = (([(Int.tmod x0_1 256) % 256] : List Int)) := ⟨_, rfl⟩
        replace H : (if (strOfNums y145).size + x3_1.size ≤ 9223372036854775807 then (mortmainref03_eight.l0 k1 (IntKind.u64.wrap (Int.tdiv x0_1 256)) ((strOfNums y145) ++ x3_1) (wrap64 (x4_1 + 1))) else (none)) = some r := by first | (rw [hy145]; with_reducible exact H) | (have H2_ := (Option.bind_some _ _).symm.trans H; rw [hy145]; with_reducible exact H2_) | (have H2_ := (Option.bind_some _ _).symm.trans H; with_reducible exact H2_) | with_reducible exact H | (rw [hy145]; exact H) | exact H
        have Ny145 := Aside0.mk hy145
        clear hy145
        by_cases c3 : (strOfNums y145).size + x3_1.size ≤ 9223372036854775807
        · rw [if_pos c3] at H
          have c3b0 := eq_true c3
          have c3b1 : decide ((strOfNums y145).size + x3_1.size ≤ 9223372036854775807) = true := decide_eq_true c3
          try have c3b2 : (9223372036854775807 < (strOfNums y145).size + x3_1.size) = False := eq_false (Nat.not_lt.2 c3)
          have H' := Aside0.mk H
          clear H
          go_wp2_with (first | ((with_reducible refine gate_dst (N := 12) rfl ?_); refine Kd.R_lit (Kd.int .u8) _ 5 ?hg (N := 12) ?hd (xs := ([(Int.tmod x0_1 256) % 256] : List Int)) (inner := [.int .u8 ((Int.tmod x0_1 256) % 256)]) (ok := fun _ => True) (okp := fun _ => True) ?hr ?hp (fun _ hk => hk) trivial (Below.refl _ _) (Nat.le_refl _) (by simp) ?_; (case hd => rfl); (case hg => rfl); (case hr => first | (go_simp; done) | (go_simp; rfl)); (case hp => exact (Reps.one (show Kd.M (Kd.int .u8) _ _ _ ((Int.tmod x0_1 256) % 256) [.int .u8 ((Int.tmod x0_1 256) % 256)] from rfl) (Reps.none _ _))); intro v146 w4 ho5 hb hg_ hnew_; clear hg_ hnew_; (first | rw [← Ny145.out] at ho5 | (simp only [Int.reduceToNat] at ho5; rw [← Ny145.out] at ho5)); have n0_ := Aside0.mk (Kd.R_lower ho5 (below_size (by repeat (first | (with_reducible first | exact HB.out | apply below_alloc | apply pw_below_drewN | apply below_drew1) | exact HB.out)))); have n1_ := Aside0.mk (below_step (by repeat (first | (with_reducible first | exact HB.out | apply below_alloc | apply pw_below_drewN | apply below_drew1) | exact HB.out)) hb); clear HB; have HO147 := n0_; have HB := n1_; clear n0_ n1_; clear hb ho5; have hcv6 := own_string (P := Tryz.prog) Tryz.underlying45 Tryz.underlying5 Tryz.underlying9 (Kd.own_of_R HO147.out)))
          go_roundg k1
          case measure => have := HK1.out; omega
          case rel => exact ⟨(IntKind.u64.wrap (Int.tdiv x0_1 256)), ((strOfNums y145) ++ x3_1), (wrap64 (x4_1 + 1)), (by first | rfl | (simp; done) | (simp [*]; done) | (generalize ByteArray.toList _ = l_; cases l_ <;> rfl)), (by first | rfl | (simp; done) | (simp [*]; done) | (generalize ByteArray.toList _ = l_; cases l_ <;> rfl)), (by first | rfl | (simp; done) | (simp [*]; done) | (generalize ByteArray.toList _ = l_; cases l_ <;> rfl)), H', ⟨by have := HK1.out; omega⟩, ⟨by repeat (first | (with_reducible first | exact HB.out | apply below_alloc | apply pw_below_drewN | apply below_drew1) | exact HB.out)⟩⟩
        · rw [if_neg c3] at H
          exact absurd H (by simp)
      · rw [if_neg c2] at H
        have c2b0 : decide (x4_1 < 8) = false := decide_eq_false c2
        clear c2
        obtain rfl := Option.some.inj H
        go_wp2
        go_ret
        exact ⟨by first | rfl | (simp [errW_none, errW_some] <;> rfl) | (simp [*, errW_none, errW_some] <;> rfl), by repeat (first | (with_reducible first | exact HB.out | apply below_alloc | apply pw_below_drewN | apply below_drew1) | exact HB.out)⟩

/-! ### mortmainref02_Key: function 44 -/
def mortmainref02_Key.f (a0 : Int) : Option (Int) := (mortmainref02_Of.f a0).bind fun t148 => ((mortmainref02_Kept.f t148).bind fun t149 => (if (IntKind.u64.wrap (t149)) ≥ 9223372036854775808 then (some (IntKind.u64.wrap (18446744073709551615 - (IntKind.u64.wrap (t149))))) else (some (IntKind.u64.wrap ((IntKind.u64.wrap (t149)) + 9223372036854775808)))))
set_option maxHeartbeats 8000000 in
set_option maxRecDepth 100000 in
theorem mortmainref02_Key.calls (a0 : Int) (r : Int) (w : World) (h : mortmainref02_Key.f a0 = some r) :
    Calls Tryz.prog 44 #[.int .i64 a0] w fun e w' => e = .returned (.int .u64 r) ∧ Drawn0 w w' := by
  have H : ((mortmainref02_Of.f a0).bind fun t148 => ((mortmainref02_Kept.f t148).bind fun t149 => (if (IntKind.u64.wrap (t149)) ≥ 9223372036854775808 then (some (IntKind.u64.wrap (18446744073709551615 - (IntKind.u64.wrap (t149))))) else (some (IntKind.u64.wrap ((IntKind.u64.wrap (t149)) + 9223372036854775808)))))) = some r := h
  clear h
  replace H := Option.bind_eq_some_iff.mp H
  obtain ⟨t148, A20, H⟩ := H
  replace H : ((mortmainref02_Kept.f t148).bind fun t149 => (if (IntKind.u64.wrap (t149)) ≥ 9223372036854775808 then (some (IntKind.u64.wrap (18446744073709551615 - (IntKind.u64.wrap (t149))))) else (some (IntKind.u64.wrap ((IntKind.u64.wrap (t149)) + 9223372036854775808))))) = some r := H
  have A2 := Aside0.mk A20
  clear A20
  replace H := Option.bind_eq_some_iff.mp H
  obtain ⟨t149, A30, H⟩ := H
  replace H : (if (IntKind.u64.wrap (t149)) ≥ 9223372036854775808 then (some (IntKind.u64.wrap (18446744073709551615 - (IntKind.u64.wrap (t149))))) else (some (IntKind.u64.wrap ((IntKind.u64.wrap (t149)) + 9223372036854775808)))) = some r := H
  have A3 := Aside0.mk A30
  clear A30
  by_cases c4 : (IntKind.u64.wrap (t149)) ≥ 9223372036854775808
  · rw [if_pos c4] at H
    have c4b0 : decide (9223372036854775808 ≤ (IntKind.u64.wrap (t149))) = true := decide_eq_true c4
    clear c4
    obtain rfl := Option.some.inj H
    go_enter Tryz.func44, Tryz.ntmps44
    go_wp2_with (first | ((with_reducible refine gate_callee (f := 29) rfl ?_); refine goesL_ (some 5) rfl rfl Tryz.func29 (by kernel_rfl) rfl #[.int .i64 a0] rfl (by (try simp only [List.map_toArray, List.map_cons, List.map_nil]); first | done | rfl | (simp only [List.length_drop, List.length_take]; rfl)) ?_; (with_reducible refine (mortmainref02_Of.calls a0 t148 _ A2.out).mono ?_); rintro e w' ⟨rfl, ⟨nd, rfl⟩⟩; refine ⟨_, rfl, ?_⟩) | ((with_reducible refine gate_callee (f := 28) rfl ?_); refine goesL_ (some 6) rfl rfl Tryz.func28 (by kernel_rfl) rfl #[.float .f64 t148] rfl (by (try simp only [List.map_toArray, List.map_cons, List.map_nil]); first | done | rfl | (simp only [List.length_drop, List.length_take]; rfl)) ?_; (with_reducible refine (mortmainref02_Kept.calls t148 t149 _ A3.out).mono ?_); rintro e w' ⟨rfl, ⟨nd, rfl⟩⟩; refine ⟨_, rfl, ?_⟩))
    go_ret
    exact ⟨by first | rfl | (simp; done) | (simp [*]; done) | (generalize ByteArray.toList _ = l_; cases l_ <;> rfl), by repeat (first | exact Drawn0.refl _ | apply Drawn0.step)⟩
  · rw [if_neg c4] at H
    have c4b0 : decide (9223372036854775808 ≤ (IntKind.u64.wrap (t149))) = false := decide_eq_false c4
    clear c4
    obtain rfl := Option.some.inj H
    go_enter Tryz.func44, Tryz.ntmps44
    go_wp2_with (first | ((with_reducible refine gate_callee (f := 29) rfl ?_); refine goesL_ (some 5) rfl rfl Tryz.func29 (by kernel_rfl) rfl #[.int .i64 a0] rfl (by (try simp only [List.map_toArray, List.map_cons, List.map_nil]); first | done | rfl | (simp only [List.length_drop, List.length_take]; rfl)) ?_; (with_reducible refine (mortmainref02_Of.calls a0 t148 _ A2.out).mono ?_); rintro e w' ⟨rfl, ⟨nd, rfl⟩⟩; refine ⟨_, rfl, ?_⟩) | ((with_reducible refine gate_callee (f := 28) rfl ?_); refine goesL_ (some 6) rfl rfl Tryz.func28 (by kernel_rfl) rfl #[.float .f64 t148] rfl (by (try simp only [List.map_toArray, List.map_cons, List.map_nil]); first | done | rfl | (simp only [List.length_drop, List.length_take]; rfl)) ?_; (with_reducible refine (mortmainref02_Kept.calls t148 t149 _ A3.out).mono ?_); rintro e w' ⟨rfl, ⟨nd, rfl⟩⟩; refine ⟨_, rfl, ?_⟩))
    go_ret
    exact ⟨by first | rfl | (simp; done) | (simp [*]; done) | (generalize ByteArray.toList _ = l_; cases l_ <;> rfl), by repeat (first | exact Drawn0.refl _ | apply Drawn0.step)⟩

end Go.Proofs.YtmaciepkkianhabGreatDoor.QVal

namespace Go.Proofs.YtmaciepkkianhabGreatDoor.QVal
open Go.Proofs.YtmaciepkkianhabGreatDoor.H
attribute [local go_sem] ite_signed_u64 ite_signed_u32
open Go.RowKit Go.Proofs.YtmaciepkkianhabGreatDoorW.PrintWords Go.Proofs.YtmaciepkkianhabGreatDoorW.PrintLast Go.Proofs.YtmaciepkkianhabGreatDoorW.PrintMore
attribute [local go_sem] max2_int min2_int max_two min_two max_three min_three max_four min_four   -- for this text's walks alone
set_option linter.unusedVariables false
set_option linter.unusedSimpArgs false

/-! ### mortmainref03_Key: function 12 -/
def mortmainref03_Key.l0 : Nat → ByteArray → Int → Int → Int → ByteArray → Option (ByteArray)
  | 0, _, _, _, _, _ => none
  | k + 1, x3, x4, x151000, x151001, x151002 => if x4 < (x151002.size : Int) then (if 0 ≤ x4 then (if x4 ≤ (wrap64 (x4 + 1)) then (if (wrap64 (x4 + 1)) ≤ (x151002.size : Int) then (if x3.size + (x151002.extract (x4 : Int).toNat ((wrap64 (x4 + 1)) : Int).toNat).size ≤ 9223372036854775807 then (if (bt x151002 x4) = 0 then (if x3.size + (x151002.extract (x4 : Int).toNat ((wrap64 (x4 + 1)) : Int).toNat).size + 1 ≤ 9223372036854775807 then (mortmainref03_Key.l0 k ((x3 ++ (x151002.extract (x4 : Int).toNat ((wrap64 (x4 + 1)) : Int).toNat)) ++ (⟨#[255]⟩ : ByteArray)) (wrap64 (x4 + 1)) x151000 x151001 x151002) else (none)) else (mortmainref03_Key.l0 k (x3 ++ (x151002.extract (x4 : Int).toNat ((wrap64 (x4 + 1)) : Int).toNat)) (wrap64 (x4 + 1)) x151000 x151001 x151002)) else (none)) else (none)) else (none)) else (none)) else (if x3.size + 2 ≤ 9223372036854775807 then (some (x3 ++ (⟨#[0, 0]⟩ : ByteArray))) else (none))
def mortmainref03_Key.f (k : Nat) (a0_0 : Int) (a0_1 : Int) (a0_2 : ByteArray) : Option (ByteArray) := (mortmainref03_Good.f a0_0 a0_1 a0_2).bind fun t151 => (if t151 = true then ((some (([(a0_0) % 256] : List Int) : List Int)).bind fun y152 => (if a0_0 = 1 then ((mortmainref03_eight.f k (IntKind.u64.wrap ((IntKind.u64.wrap (a0_1)) + 9223372036854775808))).bind fun t155 => (if (strOfNums y152).size + t155.size ≤ 9223372036854775807 then (some ((strOfNums y152) ++ t155)) else (none))) else (if a0_0 = 2 then ((mortmainref02_Key.f a0_1).bind fun t156 => ((mortmainref03_eight.f k t156).bind fun t157 => (if (strOfNums y152).size + t157.size ≤ 9223372036854775807 then (some ((strOfNums y152) ++ t157)) else (none)))) else (if a0_0 = 3 then (mortmainref03_Key.l0 k (strOfNums y152) 0 a0_0 a0_1 a0_2) else (some (strOfNums y152)))))) else (some (⟨#[]⟩ : ByteArray)))
set_option maxHeartbeats 8000000 in
set_option maxRecDepth 100000 in
theorem mortmainref03_Key.calls (k : Nat) (a0_0 : Int) (a0_1 : Int) (a0_2 : ByteArray) (r : ByteArray) (w : World) (h : mortmainref03_Key.f k a0_0 a0_1 a0_2 = some r) :
    Calls Tryz.prog 12 #[.agg #[.int .i64 a0_0, .int .i64 a0_1, .string a0_2]] w fun e w' => e = .returned (.string r) ∧ Below w.heap.size w w' := by
  have hu23 := Tryz.underlying23
  have HB := Aside0.mk (Below.refl w.heap.size w)
  have H : ((mortmainref03_Good.f a0_0 a0_1 a0_2).bind fun t151 => (if t151 = true then ((some (([(a0_0) % 256] : List Int) : List Int)).bind fun y152 => (if a0_0 = 1 then ((mortmainref03_eight.f k (IntKind.u64.wrap ((IntKind.u64.wrap (a0_1)) + 9223372036854775808))).bind fun t155 => (if (strOfNums y152).size + t155.size ≤ 9223372036854775807 then (some ((strOfNums y152) ++ t155)) else (none))) else (if a0_0 = 2 then ((mortmainref02_Key.f a0_1).bind fun t156 => ((mortmainref03_eight.f k t156).bind fun t157 => (if (strOfNums y152).size + t157.size ≤ 9223372036854775807 then (some ((strOfNums y152) ++ t157)) else (none)))) else (if a0_0 = 3 then (mortmainref03_Key.l0 k (strOfNums y152) 0 a0_0 a0_1 a0_2) else (some (strOfNums y152)))))) else (some (⟨#[]⟩ : ByteArray)))) = some r := h
  clear h
  replace H := Option.bind_eq_some_iff.mp H
  obtain ⟨t151, A20, H⟩ := H
  replace H : (if t151 = true then ((some (([(a0_0) % 256] : List Int) : List Int)).bind fun y152 => (if a0_0 = 1 then ((mortmainref03_eight.f k (IntKind.u64.wrap ((IntKind.u64.wrap (a0_1)) + 9223372036854775808))).bind fun t155 => (if (strOfNums y152).size + t155.size ≤ 9223372036854775807 then (some ((strOfNums y152) ++ t155)) else (none))) else (if a0_0 = 2 then ((mortmainref02_Key.f a0_1).bind fun t156 => ((mortmainref03_eight.f k t156).bind fun t157 => (if (strOfNums y152).size + t157.size ≤ 9223372036854775807 then (some ((strOfNums y152) ++ t157)) else (none)))) else (if a0_0 = 3 then (mortmainref03_Key.l0 k (strOfNums y152) 0 a0_0 a0_1 a0_2) else (some (strOfNums y152)))))) else (some (⟨#[]⟩ : ByteArray))) = some r := H
  have A2 := Aside0.mk A20
  clear A20
  by_cases c3 : t151 = true
  · subst c3
    have H1 : ((some (([(a0_0) % 256] : List Int) : List Int)).bind fun y152 => (if a0_0 = 1 then ((mortmainref03_eight.f k (IntKind.u64.wrap ((IntKind.u64.wrap (a0_1)) + 9223372036854775808))).bind fun t155 => (if (strOfNums y152).size + t155.size ≤ 9223372036854775807 then (some ((strOfNums y152) ++ t155)) else (none))) else (if a0_0 = 2 then ((mortmainref02_Key.f a0_1).bind fun t156 => ((mortmainref03_eight.f k t156).bind fun t157 => (if (strOfNums y152).size + t157.size ≤ 9223372036854775807 then (some ((strOfNums y152) ++ t157)) else (none)))) else (if a0_0 = 3 then (mortmainref03_Key.l0 k (strOfNums y152) 0 a0_0 a0_1 a0_2) else (some (strOfNums y152)))))) = some r := by rw [if_pos rfl] at H; exact H
    clear H
    have H := H1
    clear H1
    obtain ⟨y152, hy152⟩ : ∃ y_ : List Int, y_ = (([(a0_0) % 256] : List Int)) := ⟨_, rfl⟩
    replace H : (if a0_0 = 1 then ((mortmainref03_eight.f k (IntKind.u64.wrap ((IntKind.u64.wrap (a0_1)) + 9223372036854775808))).bind fun t155 => (if (strOfNums y152).size + t155.size ≤ 9223372036854775807 then (some ((strOfNums y152) ++ t155)) else (none))) else (if a0_0 = 2 then ((mortmainref02_Key.f a0_1).bind fun t156 => ((mortmainref03_eight.f k t156).bind fun t157 => (if (strOfNums y152).size + t157.size ≤ 9223372036854775807 then (some ((strOfNums y152) ++ t157)) else (none)))) else (if a0_0 = 3 then (mortmainref03_Key.l0 k (strOfNums y152) 0 a0_0 a0_1 a0_2) else (some (strOfNums y152))))) = some r := by first | (rw [hy152]; with_reducible exact H) | (have H2_ := (Option.bind_some _ _).symm.trans H; rw [hy152]; with_reducible exact H2_) | (have H2_ := (Option.bind_some _ _).symm.trans H; with_reducible exact H2_) | with_reducible exact H | (rw [hy152]; exact H) | exact H
    have Ny152 := Aside0.mk hy152
    clear hy152
    by_cases c4 : a0_0 = 1
    · rw [if_pos c4] at H
      have c4b0 : (a0_0 == 1) = true := beq_iff_eq.mpr c4
      have c4b1 : (a0_0 != 1) = false := bne_eq_false_iff_eq.mpr c4
      clear c4
      replace H := Option.bind_eq_some_iff.mp H
      obtain ⟨t155, A50, H⟩ := H
      replace H : (if (strOfNums y152).size + t155.size ≤ 9223372036854775807 then (some ((strOfNums y152) ++ t155)) else (none)) = some r := H
      have A5 := Aside0.mk A50
      clear A50
      by_cases c6 : (strOfNums y152).size + t155.size ≤ 9223372036854775807
      · rw [if_pos c6] at H
        have c6b0 := eq_true c6
        have c6b1 : decide ((strOfNums y152).size + t155.size ≤ 9223372036854775807) = true := decide_eq_true c6
        try have c6b2 : (9223372036854775807 < (strOfNums y152).size + t155.size) = False := eq_false (Nat.not_lt.2 c6)
        obtain rfl := Option.some.inj H
        go_enter Tryz.func12, Tryz.ntmps12
        go_wp2_with (first | ((with_reducible refine gate_dst (N := 1) rfl ?_); refine box_event ?hg (N := 1) ?hd (cs := #[.int .i64 a0_0, .int .i64 a0_1, .string a0_2]) (t := 23) ?hr ?_; (case hd => rfl); (case hg => rfl); (case hr => first | (go_simp; done) | (go_simp; rfl)); intro gb150 hg w7 hbox hb; have n0_ := Aside0.mk (below_step (by repeat (first | (with_reducible first | exact HB.out | apply below_alloc | apply pw_below_drewN | apply below_drew1) | exact HB.out)) hb); have n1_ := Aside0.mk (hbox); have n2_ := Aside0.mk ((by rw [hg]; exact (below_size (by repeat (first | (with_reducible first | exact HB.out | apply below_alloc | apply pw_below_drewN | apply below_drew1) | exact HB.out))) : w.heap.size ≤ gb150)); have n3_ := Aside0.mk ((by rw [hg]; exact (below_size (by repeat (first | (with_reducible first | exact HB.out | apply below_alloc | apply pw_below_drewN | apply below_drew1) | exact HB.out))) : w.heap.size ≤ gb150)); clear HB; have HB := n0_; have BK150 := n1_; have GW150 := n2_; have GE150 := n3_; clear n0_ n1_ n2_ n3_; clear hb hbox hg; have hcz8_0 : w7.cell? ⟨gb150, 0, none⟩ = some (.int .i64 a0_0) := (blk_cell BK150.out 0).trans rfl; have hcz8_1 : w7.cell? ⟨gb150, 1, none⟩ = some (.int .i64 a0_1) := (blk_cell BK150.out 1).trans rfl; have hcz8_2 : w7.cell? ⟨gb150, 2, none⟩ = some (.string a0_2) := (blk_cell BK150.out 2).trans rfl; have hfz8_0 := blk_frozen BK150.out 0; have hfz8_1 := blk_frozen BK150.out 1; have hfz8_2 := blk_frozen BK150.out 2) | ((with_reducible refine gate_callee (f := 13) rfl ?_); refine goesL_ (some 6) rfl rfl Tryz.func13 (by kernel_rfl) rfl #[.agg #[.int .i64 a0_0, .int .i64 a0_1, .string a0_2]] rfl (by (try simp only [List.map_toArray, List.map_cons, List.map_nil]); first | done | rfl | (simp only [List.length_drop, List.length_take]; rfl)) ?_; (with_reducible refine (mortmainref03_Good.calls a0_0 a0_1 a0_2 true _ A2.out).mono ?_); rintro e w9 ⟨rfl, hb⟩; refine ⟨_, rfl, ?_⟩; have n0_ := Aside0.mk (blk_below (g := gb150) (o := .cells #[.int .i64 a0_0, .int .i64 a0_1, .string a0_2] 23 (0, 0)) (by (with_reducible repeat (first | refine blk_drewN ?_ _ | refine blk_drew ?_ | refine blk_alloc ?_ _)); exact BK150.out) hb); have n1_ := Aside0.mk (below_step (by repeat (first | (with_reducible first | exact HB.out | apply below_alloc | apply pw_below_drewN | apply below_drew1 | refine below_set ?_ GE150.out) | exact HB.out)) hb); clear BK150; clear HB; have BK150 := n0_; have HB := n1_; clear n0_ n1_; (try clear hb); (try clear hb2); (try clear hk); (try clear hi); have hcz10_0 : w9.cell? ⟨gb150, 0, none⟩ = some (.int .i64 a0_0) := (blk_cell BK150.out 0).trans rfl; have hcz10_1 : w9.cell? ⟨gb150, 1, none⟩ = some (.int .i64 a0_1) := (blk_cell BK150.out 1).trans rfl; have hcz10_2 : w9.cell? ⟨gb150, 2, none⟩ = some (.string a0_2) := (blk_cell BK150.out 2).trans rfl; have hfz10_0 := blk_frozen BK150.out 0; have hfz10_1 := blk_frozen BK150.out 1; have hfz10_2 := blk_frozen BK150.out 2) | ((with_reducible refine gate_dst (N := 11) rfl ?_); refine Kd.R_lit (Kd.int .u8) _ 5 ?hg (N := 11) ?hd (xs := ([(a0_0) % 256] : List Int)) (inner := [.int .u8 ((a0_0) % 256)]) (ok := fun _ => True) (okp := fun _ => True) ?hr ?hp (fun _ hk => hk) trivial (Below.refl _ _) (Nat.le_refl _) (by simp) ?_; (case hd => rfl); (case hg => rfl); (case hr => first | (go_simp; done) | (go_simp; rfl)); (case hp => exact (Reps.one (show Kd.M (Kd.int .u8) _ _ _ ((a0_0) % 256) [.int .u8 ((a0_0) % 256)] from rfl) (Reps.none _ _))); intro v153 w11 ho12 hb hg_ hnew_; clear hg_ hnew_; (first | rw [← Ny152.out] at ho12 | (simp only [Int.reduceToNat] at ho12; rw [← Ny152.out] at ho12)); have n0_ := Aside0.mk (Kd.R_lower ho12 (below_size (by repeat (first | (with_reducible first | exact HB.out | apply below_alloc | apply pw_below_drewN | apply below_drew1 | refine below_set ?_ GE150.out) | exact HB.out)))); have n1_ := Aside0.mk (blk_below (g := gb150) (o := .cells #[.int .i64 a0_0, .int .i64 a0_1, .string a0_2] 23 (0, 0)) (by (with_reducible repeat (first | refine blk_drewN ?_ _ | refine blk_drew ?_ | refine blk_alloc ?_ _)); exact BK150.out) hb); have n2_ := Aside0.mk (below_step (by repeat (first | (with_reducible first | exact HB.out | apply below_alloc | apply pw_below_drewN | apply below_drew1 | refine below_set ?_ GE150.out) | exact HB.out)) hb); clear BK150; clear HB; have HO154 := n0_; have BK150 := n1_; have HB := n2_; clear n0_ n1_ n2_; clear hb ho12; have hcv13 := own_string (P := Tryz.prog) Tryz.underlying45 Tryz.underlying5 Tryz.underlying9 (Kd.own_of_R HO154.out); have hcz14_0 : w11.cell? ⟨gb150, 0, none⟩ = some (.int .i64 a0_0) := (blk_cell BK150.out 0).trans rfl; have hcz14_1 : w11.cell? ⟨gb150, 1, none⟩ = some (.int .i64 a0_1) := (blk_cell BK150.out 1).trans rfl; have hcz14_2 : w11.cell? ⟨gb150, 2, none⟩ = some (.string a0_2) := (blk_cell BK150.out 2).trans rfl; have hfz14_0 := blk_frozen BK150.out 0; have hfz14_1 := blk_frozen BK150.out 1; have hfz14_2 := blk_frozen BK150.out 2) | ((with_reducible refine gate_callee (f := 43) rfl ?_); refine goesL_ (some 22) rfl rfl Tryz.func43 (by kernel_rfl) rfl #[.int .u64 (IntKind.u64.wrap ((IntKind.u64.wrap (a0_1)) + 9223372036854775808))] rfl (by (try simp only [List.map_toArray, List.map_cons, List.map_nil]); first | done | rfl | (simp only [List.length_drop, List.length_take]; rfl)) ?_; (with_reducible refine (mortmainref03_eight.calls k (IntKind.u64.wrap ((IntKind.u64.wrap (a0_1)) + 9223372036854775808)) t155 _ A5.out).mono ?_); rintro e w15 ⟨rfl, hb⟩; refine ⟨_, rfl, ?_⟩; have n0_ := Aside0.mk (Kd.R_below (by (with_reducible repeat (first | apply Kd.R_alloc | apply Kd.R_drewN | apply Kd.R_drew)); exact HO154.out) hb); have n1_ := Aside0.mk (blk_below (g := gb150) (o := .cells #[.int .i64 a0_0, .int .i64 a0_1, .string a0_2] 23 (0, 0)) (by (with_reducible repeat (first | refine blk_drewN ?_ _ | refine blk_drew ?_ | refine blk_alloc ?_ _)); exact BK150.out) hb); have n2_ := Aside0.mk (below_step (by repeat (first | (with_reducible first | exact HB.out | apply below_alloc | apply pw_below_drewN | apply below_drew1 | refine below_set ?_ GE150.out) | exact HB.out)) hb); clear HO154; clear BK150; clear HB; have HO154 := n0_; have BK150 := n1_; have HB := n2_; clear n0_ n1_ n2_; (try clear hb); (try clear hb2); (try clear hk); (try clear hi)))
        go_ret
        exact ⟨by first | rfl | (simp [errW_none, errW_some] <;> rfl) | (simp [*, errW_none, errW_some] <;> rfl), by repeat (first | (with_reducible first | exact HB.out | apply below_alloc | apply pw_below_drewN | apply below_drew1 | refine below_set ?_ GE150.out) | exact HB.out)⟩
      · rw [if_neg c6] at H
        exact absurd H (by simp)
    · rw [if_neg c4] at H
      have c4b0 : (a0_0 == 1) = false := beq_eq_false_iff_ne.mpr c4
      have c4b1 : (a0_0 != 1) = true := bne_iff_ne.mpr c4
      by_cases c16 : a0_0 = 2
      · rw [if_pos c16] at H
        have c16b0 : (a0_0 == 2) = true := beq_iff_eq.mpr c16
        have c16b1 : (a0_0 != 2) = false := bne_eq_false_iff_eq.mpr c16
        clear c16
        replace H := Option.bind_eq_some_iff.mp H
        obtain ⟨t156, A170, H⟩ := H
        replace H : ((mortmainref03_eight.f k t156).bind fun t157 => (if (strOfNums y152).size + t157.size ≤ 9223372036854775807 then (some ((strOfNums y152) ++ t157)) else (none))) = some r := H
        have A17 := Aside0.mk A170
        clear A170
        replace H := Option.bind_eq_some_iff.mp H
        obtain ⟨t157, A180, H⟩ := H
        replace H : (if (strOfNums y152).size + t157.size ≤ 9223372036854775807 then (some ((strOfNums y152) ++ t157)) else (none)) = some r := H
        have A18 := Aside0.mk A180
        clear A180
        by_cases c19 : (strOfNums y152).size + t157.size ≤ 9223372036854775807
        · rw [if_pos c19] at H
          have c19b0 := eq_true c19
          have c19b1 : decide ((strOfNums y152).size + t157.size ≤ 9223372036854775807) = true := decide_eq_true c19
          try have c19b2 : (9223372036854775807 < (strOfNums y152).size + t157.size) = False := eq_false (Nat.not_lt.2 c19)
          obtain rfl := Option.some.inj H
          go_enter Tryz.func12, Tryz.ntmps12
          go_wp2_with (first | ((with_reducible refine gate_dst (N := 1) rfl ?_); refine box_event ?hg (N := 1) ?hd (cs := #[.int .i64 a0_0, .int .i64 a0_1, .string a0_2]) (t := 23) ?hr ?_; (case hd => rfl); (case hg => rfl); (case hr => first | (go_simp; done) | (go_simp; rfl)); intro gb150 hg w20 hbox hb; have n0_ := Aside0.mk (below_step (by repeat (first | (with_reducible first | exact HB.out | apply below_alloc | apply pw_below_drewN | apply below_drew1) | exact HB.out)) hb); have n1_ := Aside0.mk (hbox); have n2_ := Aside0.mk ((by rw [hg]; exact (below_size (by repeat (first | (with_reducible first | exact HB.out | apply below_alloc | apply pw_below_drewN | apply below_drew1) | exact HB.out))) : w.heap.size ≤ gb150)); have n3_ := Aside0.mk ((by rw [hg]; exact (below_size (by repeat (first | (with_reducible first | exact HB.out | apply below_alloc | apply pw_below_drewN | apply below_drew1) | exact HB.out))) : w.heap.size ≤ gb150)); clear HB; have HB := n0_; have BK150 := n1_; have GW150 := n2_; have GE150 := n3_; clear n0_ n1_ n2_ n3_; clear hb hbox hg; have hcz21_0 : w20.cell? ⟨gb150, 0, none⟩ = some (.int .i64 a0_0) := (blk_cell BK150.out 0).trans rfl; have hcz21_1 : w20.cell? ⟨gb150, 1, none⟩ = some (.int .i64 a0_1) := (blk_cell BK150.out 1).trans rfl; have hcz21_2 : w20.cell? ⟨gb150, 2, none⟩ = some (.string a0_2) := (blk_cell BK150.out 2).trans rfl; have hfz21_0 := blk_frozen BK150.out 0; have hfz21_1 := blk_frozen BK150.out 1; have hfz21_2 := blk_frozen BK150.out 2) | ((with_reducible refine gate_callee (f := 13) rfl ?_); refine goesL_ (some 6) rfl rfl Tryz.func13 (by kernel_rfl) rfl #[.agg #[.int .i64 a0_0, .int .i64 a0_1, .string a0_2]] rfl (by (try simp only [List.map_toArray, List.map_cons, List.map_nil]); first | done | rfl | (simp only [List.length_drop, List.length_take]; rfl)) ?_; (with_reducible refine (mortmainref03_Good.calls a0_0 a0_1 a0_2 true _ A2.out).mono ?_); rintro e w22 ⟨rfl, hb⟩; refine ⟨_, rfl, ?_⟩; have n0_ := Aside0.mk (blk_below (g := gb150) (o := .cells #[.int .i64 a0_0, .int .i64 a0_1, .string a0_2] 23 (0, 0)) (by (with_reducible repeat (first | refine blk_drewN ?_ _ | refine blk_drew ?_ | refine blk_alloc ?_ _)); exact BK150.out) hb); have n1_ := Aside0.mk (below_step (by repeat (first | (with_reducible first | exact HB.out | apply below_alloc | apply pw_below_drewN | apply below_drew1 | refine below_set ?_ GE150.out) | exact HB.out)) hb); clear BK150; clear HB; have BK150 := n0_; have HB := n1_; clear n0_ n1_; (try clear hb); (try clear hb2); (try clear hk); (try clear hi); have hcz23_0 : w22.cell? ⟨gb150, 0, none⟩ = some (.int .i64 a0_0) := (blk_cell BK150.out 0).trans rfl; have hcz23_1 : w22.cell? ⟨gb150, 1, none⟩ = some (.int .i64 a0_1) := (blk_cell BK150.out 1).trans rfl; have hcz23_2 : w22.cell? ⟨gb150, 2, none⟩ = some (.string a0_2) := (blk_cell BK150.out 2).trans rfl; have hfz23_0 := blk_frozen BK150.out 0; have hfz23_1 := blk_frozen BK150.out 1; have hfz23_2 := blk_frozen BK150.out 2) | ((with_reducible refine gate_dst (N := 11) rfl ?_); refine Kd.R_lit (Kd.int .u8) _ 5 ?hg (N := 11) ?hd (xs := ([(a0_0) % 256] : List Int)) (inner := [.int .u8 ((a0_0) % 256)]) (ok := fun _ => True) (okp := fun _ => True) ?hr ?hp (fun _ hk => hk) trivial (Below.refl _ _) (Nat.le_refl _) (by simp) ?_; (case hd => rfl); (case hg => rfl); (case hr => first | (go_simp; done) | (go_simp; rfl)); (case hp => exact (Reps.one (show Kd.M (Kd.int .u8) _ _ _ ((a0_0) % 256) [.int .u8 ((a0_0) % 256)] from rfl) (Reps.none _ _))); intro v153 w24 ho25 hb hg_ hnew_; clear hg_ hnew_; (first | rw [← Ny152.out] at ho25 | (simp only [Int.reduceToNat] at ho25; rw [← Ny152.out] at ho25)); have n0_ := Aside0.mk (Kd.R_lower ho25 (below_size (by repeat (first | (with_reducible first | exact HB.out | apply below_alloc | apply pw_below_drewN | apply below_drew1 | refine below_set ?_ GE150.out) | exact HB.out)))); have n1_ := Aside0.mk (blk_below (g := gb150) (o := .cells #[.int .i64 a0_0, .int .i64 a0_1, .string a0_2] 23 (0, 0)) (by (with_reducible repeat (first | refine blk_drewN ?_ _ | refine blk_drew ?_ | refine blk_alloc ?_ _)); exact BK150.out) hb); have n2_ := Aside0.mk (below_step (by repeat (first | (with_reducible first | exact HB.out | apply below_alloc | apply pw_below_drewN | apply below_drew1 | refine below_set ?_ GE150.out) | exact HB.out)) hb); clear BK150; clear HB; have HO154 := n0_; have BK150 := n1_; have HB := n2_; clear n0_ n1_ n2_; clear hb ho25; have hcv26 := own_string (P := Tryz.prog) Tryz.underlying45 Tryz.underlying5 Tryz.underlying9 (Kd.own_of_R HO154.out); have hcz27_0 : w24.cell? ⟨gb150, 0, none⟩ = some (.int .i64 a0_0) := (blk_cell BK150.out 0).trans rfl; have hcz27_1 : w24.cell? ⟨gb150, 1, none⟩ = some (.int .i64 a0_1) := (blk_cell BK150.out 1).trans rfl; have hcz27_2 : w24.cell? ⟨gb150, 2, none⟩ = some (.string a0_2) := (blk_cell BK150.out 2).trans rfl; have hfz27_0 := blk_frozen BK150.out 0; have hfz27_1 := blk_frozen BK150.out 1; have hfz27_2 := blk_frozen BK150.out 2) | ((with_reducible refine gate_callee (f := 44) rfl ?_); refine goesL_ (some 29) rfl rfl Tryz.func44 (by kernel_rfl) rfl #[.int .i64 a0_1] rfl (by (try simp only [List.map_toArray, List.map_cons, List.map_nil]); first | done | rfl | (simp only [List.length_drop, List.length_take]; rfl)) ?_; (with_reducible refine (mortmainref02_Key.calls a0_1 t156 _ A17.out).mono ?_); rintro e w' ⟨rfl, ⟨nd, rfl⟩⟩; refine ⟨_, rfl, ?_⟩) | ((with_reducible refine gate_callee (f := 43) rfl ?_); refine goesL_ (some 30) rfl rfl Tryz.func43 (by kernel_rfl) rfl #[.int .u64 t156] rfl (by (try simp only [List.map_toArray, List.map_cons, List.map_nil]); first | done | rfl | (simp only [List.length_drop, List.length_take]; rfl)) ?_; (with_reducible refine (mortmainref03_eight.calls k t156 t157 _ A18.out).mono ?_); rintro e w28 ⟨rfl, hb⟩; refine ⟨_, rfl, ?_⟩; have n0_ := Aside0.mk (Kd.R_below (by (with_reducible repeat (first | apply Kd.R_alloc | apply Kd.R_drewN | apply Kd.R_drew)); exact HO154.out) hb); have n1_ := Aside0.mk (blk_below (g := gb150) (o := .cells #[.int .i64 a0_0, .int .i64 a0_1, .string a0_2] 23 (0, 0)) (by (with_reducible repeat (first | refine blk_drewN ?_ _ | refine blk_drew ?_ | refine blk_alloc ?_ _)); exact BK150.out) hb); have n2_ := Aside0.mk (below_step (by repeat (first | (with_reducible first | exact HB.out | apply below_alloc | apply pw_below_drewN | apply below_drew1 | refine below_set ?_ GE150.out) | exact HB.out)) hb); clear HO154; clear BK150; clear HB; have HO154 := n0_; have BK150 := n1_; have HB := n2_; clear n0_ n1_ n2_; (try clear hb); (try clear hb2); (try clear hk); (try clear hi)))
          go_ret
          exact ⟨by first | rfl | (simp [errW_none, errW_some] <;> rfl) | (simp [*, errW_none, errW_some] <;> rfl), by repeat (first | (with_reducible first | exact HB.out | apply below_alloc | apply pw_below_drewN | apply below_drew1 | refine below_set ?_ GE150.out) | exact HB.out)⟩
        · rw [if_neg c19] at H
          exact absurd H (by simp)
      · rw [if_neg c16] at H
        have c16b0 : (a0_0 == 2) = false := beq_eq_false_iff_ne.mpr c16
        have c16b1 : (a0_0 != 2) = true := bne_iff_ne.mpr c16
        by_cases c29 : a0_0 = 3
        · rw [if_pos c29] at H
          have c29b0 : (a0_0 == 3) = true := beq_iff_eq.mpr c29
          have c29b1 : (a0_0 != 3) = false := bne_eq_false_iff_eq.mpr c29
          clear c29
          have H' := Aside0.mk H
          clear H
          go_enter Tryz.func12, Tryz.ntmps12
          go_wp2_with (first | ((with_reducible refine gate_dst (N := 1) rfl ?_); refine box_event ?hg (N := 1) ?hd (cs := #[.int .i64 a0_0, .int .i64 a0_1, .string a0_2]) (t := 23) ?hr ?_; (case hd => rfl); (case hg => rfl); (case hr => first | (go_simp; done) | (go_simp; rfl)); intro gb150 hg w30 hbox hb; have n0_ := Aside0.mk (below_step (by repeat (first | (with_reducible first | exact HB.out | apply below_alloc | apply pw_below_drewN | apply below_drew1) | exact HB.out)) hb); have n1_ := Aside0.mk (hbox); have n2_ := Aside0.mk ((by rw [hg]; exact (below_size (by repeat (first | (with_reducible first | exact HB.out | apply below_alloc | apply pw_below_drewN | apply below_drew1) | exact HB.out))) : w.heap.size ≤ gb150)); have n3_ := Aside0.mk ((by rw [hg]; exact (below_size (by repeat (first | (with_reducible first | exact HB.out | apply below_alloc | apply pw_below_drewN | apply below_drew1) | exact HB.out))) : w.heap.size ≤ gb150)); clear HB; have HB := n0_; have BK150 := n1_; have GW150 := n2_; have GE150 := n3_; clear n0_ n1_ n2_ n3_; clear hb hbox hg; have hcz31_0 : w30.cell? ⟨gb150, 0, none⟩ = some (.int .i64 a0_0) := (blk_cell BK150.out 0).trans rfl; have hcz31_1 : w30.cell? ⟨gb150, 1, none⟩ = some (.int .i64 a0_1) := (blk_cell BK150.out 1).trans rfl; have hcz31_2 : w30.cell? ⟨gb150, 2, none⟩ = some (.string a0_2) := (blk_cell BK150.out 2).trans rfl; have hfz31_0 := blk_frozen BK150.out 0; have hfz31_1 := blk_frozen BK150.out 1; have hfz31_2 := blk_frozen BK150.out 2) | ((with_reducible refine gate_callee (f := 13) rfl ?_); refine goesL_ (some 6) rfl rfl Tryz.func13 (by kernel_rfl) rfl #[.agg #[.int .i64 a0_0, .int .i64 a0_1, .string a0_2]] rfl (by (try simp only [List.map_toArray, List.map_cons, List.map_nil]); first | done | rfl | (simp only [List.length_drop, List.length_take]; rfl)) ?_; (with_reducible refine (mortmainref03_Good.calls a0_0 a0_1 a0_2 true _ A2.out).mono ?_); rintro e w32 ⟨rfl, hb⟩; refine ⟨_, rfl, ?_⟩; have n0_ := Aside0.mk (blk_below (g := gb150) (o := .cells #[.int .i64 a0_0, .int .i64 a0_1, .string a0_2] 23 (0, 0)) (by (with_reducible repeat (first | refine blk_drewN ?_ _ | refine blk_drew ?_ | refine blk_alloc ?_ _)); exact BK150.out) hb); have n1_ := Aside0.mk (below_step (by repeat (first | (with_reducible first | exact HB.out | apply below_alloc | apply pw_below_drewN | apply below_drew1 | refine below_set ?_ GE150.out) | exact HB.out)) hb); clear BK150; clear HB; have BK150 := n0_; have HB := n1_; clear n0_ n1_; (try clear hb); (try clear hb2); (try clear hk); (try clear hi); have hcz33_0 : w32.cell? ⟨gb150, 0, none⟩ = some (.int .i64 a0_0) := (blk_cell BK150.out 0).trans rfl; have hcz33_1 : w32.cell? ⟨gb150, 1, none⟩ = some (.int .i64 a0_1) := (blk_cell BK150.out 1).trans rfl; have hcz33_2 : w32.cell? ⟨gb150, 2, none⟩ = some (.string a0_2) := (blk_cell BK150.out 2).trans rfl; have hfz33_0 := blk_frozen BK150.out 0; have hfz33_1 := blk_frozen BK150.out 1; have hfz33_2 := blk_frozen BK150.out 2) | ((with_reducible refine gate_dst (N := 11) rfl ?_); refine Kd.R_lit (Kd.int .u8) _ 5 ?hg (N := 11) ?hd (xs := ([(a0_0) % 256] : List Int)) (inner := [.int .u8 ((a0_0) % 256)]) (ok := fun _ => True) (okp := fun _ => True) ?hr ?hp (fun _ hk => hk) trivial (Below.refl _ _) (Nat.le_refl _) (by simp) ?_; (case hd => rfl); (case hg => rfl); (case hr => first | (go_simp; done) | (go_simp; rfl)); (case hp => exact (Reps.one (show Kd.M (Kd.int .u8) _ _ _ ((a0_0) % 256) [.int .u8 ((a0_0) % 256)] from rfl) (Reps.none _ _))); intro v153 w34 ho35 hb hg_ hnew_; clear hg_ hnew_; (first | rw [← Ny152.out] at ho35 | (simp only [Int.reduceToNat] at ho35; rw [← Ny152.out] at ho35)); have n0_ := Aside0.mk (Kd.R_lower ho35 (below_size (by repeat (first | (with_reducible first | exact HB.out | apply below_alloc | apply pw_below_drewN | apply below_drew1 | refine below_set ?_ GE150.out) | exact HB.out)))); have n1_ := Aside0.mk (blk_below (g := gb150) (o := .cells #[.int .i64 a0_0, .int .i64 a0_1, .string a0_2] 23 (0, 0)) (by (with_reducible repeat (first | refine blk_drewN ?_ _ | refine blk_drew ?_ | refine blk_alloc ?_ _)); exact BK150.out) hb); have n2_ := Aside0.mk (below_step (by repeat (first | (with_reducible first | exact HB.out | apply below_alloc | apply pw_below_drewN | apply below_drew1 | refine below_set ?_ GE150.out) | exact HB.out)) hb); clear BK150; clear HB; have HO154 := n0_; have BK150 := n1_; have HB := n2_; clear n0_ n1_ n2_; clear hb ho35; have hcv36 := own_string (P := Tryz.prog) Tryz.underlying45 Tryz.underlying5 Tryz.underlying9 (Kd.own_of_R HO154.out); have hcz37_0 : w34.cell? ⟨gb150, 0, none⟩ = some (.int .i64 a0_0) := (blk_cell BK150.out 0).trans rfl; have hcz37_1 : w34.cell? ⟨gb150, 1, none⟩ = some (.int .i64 a0_1) := (blk_cell BK150.out 1).trans rfl; have hcz37_2 : w34.cell? ⟨gb150, 2, none⟩ = some (.string a0_2) := (blk_cell BK150.out 2).trans rfl; have hfz37_0 := blk_frozen BK150.out 0; have hfz37_1 := blk_frozen BK150.out 1; have hfz37_2 := blk_frozen BK150.out 2))
          go_loopg [3, 4] k (fun kq v3 v4 w' => ∃ (x3_1 : ByteArray) (x4_1 : Int), v3 = .string x3_1 ∧ v4 = .int .i64 x4_1 ∧ Aside0 (mortmainref03_Key.l0 kq x3_1 x4_1 a0_0 a0_1 a0_2 = some r) ∧ Aside0 (kq ≤ k) ∧ Aside0 (w'.heap[gb150]? = some (.cells #[.int .i64 a0_0, .int .i64 a0_1, .string a0_2] 23 (0, 0))) ∧ Aside0 (Below w.heap.size w w'))
          case atStart => exact ⟨(strOfNums y152), (0), (by first | rfl | (simp; done) | (simp [*]; done) | (generalize ByteArray.toList _ = l_; cases l_ <;> rfl)), (by first | rfl | (simp; done) | (simp [*]; done) | (generalize ByteArray.toList _ = l_; cases l_ <;> rfl)), H', ⟨Nat.le_refl _⟩, ⟨by (with_reducible repeat (first | refine blk_drewN ?_ _ | refine blk_drew ?_ | refine blk_alloc ?_ _)); exact BK150.out⟩, ⟨by repeat (first | (with_reducible first | exact HB.out | apply below_alloc | apply pw_below_drewN | apply below_drew1 | refine below_set ?_ GE150.out) | exact HB.out)⟩⟩
          case round =>
            clear H'
            try clear c1
            try clear hcv1
            try clear c2
            try clear p2
            try clear hcv2
            try clear c3
            try clear hcv3
            try clear c4
            try clear c4b0
            try clear c4b1
            try clear c6
            try clear c6b0
            try clear c6b1
            try clear c6b2
            try clear c12
            try clear c13
            try clear hcv13
            try clear c16
            try clear c16b0
            try clear c16b1
            try clear c19
            try clear c19b0
            try clear c19b1
            try clear c19b2
            try clear hcv26
            try clear c29
            try clear c29b0
            try clear c29b1
            try clear hcv36
            try clear hcz10_0
            try clear hcz10_1
            try clear hcz10_2
            try clear hcz14_0
            try clear hcz14_1
            try clear hcz14_2
            try clear hcz21_0
            try clear hcz21_1
            try clear hcz21_2
            try clear hcz23_0
            try clear hcz23_1
            try clear hcz23_2
            try clear hcz27_0
            try clear hcz27_1
            try clear hcz27_2
            try clear hcz31_0
            try clear hcz31_1
            try clear hcz31_2
            try clear hcz33_0
            try clear hcz33_1
            try clear hcz33_2
            try clear hcz37_0
            try clear hcz37_1
            try clear hcz37_2
            try clear hcz8_0
            try clear hcz8_1
            try clear hcz8_2
            try clear hfz10_0
            try clear hfz10_1
            try clear hfz10_2
            try clear hfz14_0
            try clear hfz14_1
            try clear hfz14_2
            try clear hfz21_0
            try clear hfz21_1
            try clear hfz21_2
            try clear hfz23_0
            try clear hfz23_1
            try clear hfz23_2
            try clear hfz27_0
            try clear hfz27_1
            try clear hfz27_2
            try clear hfz31_0
            try clear hfz31_1
            try clear hfz31_2
            try clear hfz33_0
            try clear hfz33_1
            try clear hfz33_2
            try clear hfz37_0
            try clear hfz37_1
            try clear hfz37_2
            try clear hfz8_0
            try clear hfz8_1
            try clear hfz8_2
            obtain ⟨x3_1, x4_1, rfl, rfl, HA, HK1, BK150, HB⟩ := hrel
            cases gk with
            | zero => exact absurd HA.out (by simp [mortmainref03_Key.l0])
            | succ k1 =>
              have H := HA.out
              clear HA
              simp only [mortmainref03_Key.l0] at H
              by_cases c38 : x4_1 < (a0_2.size : Int)
              · rw [if_pos c38] at H
                have c38b0 : decide (x4_1 < (a0_2.size : Int)) = true := decide_eq_true c38
                clear c38
                by_cases c39 : 0 ≤ x4_1
                · rw [if_pos c39] at H
                  have c39b0 := eq_true c39
                  have c39b1 : decide (0 ≤ x4_1) = true := decide_eq_true c39
                  clear c39
                  by_cases c40 : x4_1 ≤ (wrap64 (x4_1 + 1))
                  · rw [if_pos c40] at H
                    have c40b0 := eq_true c40
                    have c40b1 : decide (x4_1 ≤ (wrap64 (x4_1 + 1))) = true := decide_eq_true c40
                    by_cases c41 : (wrap64 (x4_1 + 1)) ≤ (a0_2.size : Int)
                    · rw [if_pos c41] at H
                      have c41b0 := eq_true c41
                      have c41b1 : decide ((wrap64 (x4_1 + 1)) ≤ (a0_2.size : Int)) = true := decide_eq_true c41
                      by_cases c42 : x3_1.size + (a0_2.extract (x4_1 : Int).toNat ((wrap64 (x4_1 + 1)) : Int).toNat).size ≤ 9223372036854775807
                      · rw [if_pos c42] at H
                        have c42b0 := eq_true c42
                        have c42b1 : decide (x3_1.size + (a0_2.extract (x4_1 : Int).toNat ((wrap64 (x4_1 + 1)) : Int).toNat).size ≤ 9223372036854775807) = true := decide_eq_true c42
                        try have c42b2 : (9223372036854775807 < x3_1.size + (a0_2.extract (x4_1 : Int).toNat ((wrap64 (x4_1 + 1)) : Int).toNat).size) = False := eq_false (Nat.not_lt.2 c42)
                        have c42b3 : (9223372036854775807 < x3_1.size + (((wrap64 (x4_1 + 1)) : Int).toNat - (x4_1 : Int).toNat)) = False := eq_false (by have h_ := c42; (try simp only [eq_iff_iff, iff_true, decide_eq_true_eq] at *); simp only [ByteArray.size_extract] at *; omega)
                        by_cases c44 : (bt a0_2 x4_1) = 0
                        · rw [if_pos c44] at H
                          have c44b0 : ((bt a0_2 x4_1) == 0) = true := beq_iff_eq.mpr c44
                          have c44b1 : ((bt a0_2 x4_1) != 0) = false := bne_eq_false_iff_eq.mpr c44
                          clear c44
                          by_cases c45 : x3_1.size + (a0_2.extract (x4_1 : Int).toNat ((wrap64 (x4_1 + 1)) : Int).toNat).size + 1 ≤ 9223372036854775807
                          · rw [if_pos c45] at H
                            have c45b0 := eq_true c45
                            have c45b1 : decide (x3_1.size + (a0_2.extract (x4_1 : Int).toNat ((wrap64 (x4_1 + 1)) : Int).toNat).size + 1 ≤ 9223372036854775807) = true := decide_eq_true c45
                            try have c45b2 : (9223372036854775807 < x3_1.size + (a0_2.extract (x4_1 : Int).toNat ((wrap64 (x4_1 + 1)) : Int).toNat).size + 1) = False := eq_false (Nat.not_lt.2 c45)
                            have c45b3 : (9223372036854775807 < x3_1.size + (((wrap64 (x4_1 + 1)) : Int).toNat - (x4_1 : Int).toNat) + 1) = False := eq_false (by have h_ := c45; (try simp only [eq_iff_iff, iff_true, decide_eq_true_eq] at *); simp only [ByteArray.size_extract] at *; omega)
                            have H' := Aside0.mk H
                            clear H
                            have hcz46_0 : wr.cell? ⟨gb150, 0, none⟩ = some (.int .i64 a0_0) := (blk_cell BK150.out 0).trans rfl
                            have hcz46_1 : wr.cell? ⟨gb150, 1, none⟩ = some (.int .i64 a0_1) := (blk_cell BK150.out 1).trans rfl
                            have hcz46_2 : wr.cell? ⟨gb150, 2, none⟩ = some (.string a0_2) := (blk_cell BK150.out 2).trans rfl
                            have hfz46_0 := blk_frozen BK150.out 0
                            have hfz46_1 := blk_frozen BK150.out 1
                            have hfz46_2 := blk_frozen BK150.out 2
                            have p43 : 0 ≤ (x4_1 : Int) := of_decide_eq_true (by first | (with_reducible assumption) | assumption)
                            have q43 : x4_1 < (a0_2.size : Int) := of_decide_eq_true (by first | (with_reducible assumption) | assumption)
                            have hx43 := bt_at a0_2 x4_1
                            replace p43 := eq_true p43
                            replace q43 := eq_true q43
                            go_wp2
                            go_roundg k1
                            case measure => have := HK1.out; omega
                            case rel => exact ⟨((x3_1 ++ (a0_2.extract (x4_1 : Int).toNat ((wrap64 (x4_1 + 1)) : Int).toNat)) ++ (⟨#[255]⟩ : ByteArray)), (wrap64 (x4_1 + 1)), (by first | rfl | (simp; done) | (simp [*]; done) | (generalize ByteArray.toList _ = l_; cases l_ <;> rfl)), (by first | rfl | (simp; done) | (simp [*]; done) | (generalize ByteArray.toList _ = l_; cases l_ <;> rfl)), H', ⟨by have := HK1.out; omega⟩, ⟨by (with_reducible repeat (first | refine blk_drewN ?_ _ | refine blk_drew ?_ | refine blk_alloc ?_ _)); exact BK150.out⟩, ⟨by repeat (first | (with_reducible first | exact HB.out | apply below_alloc | apply pw_below_drewN | apply below_drew1 | refine below_set ?_ GE150.out) | exact HB.out)⟩⟩
                          · rw [if_neg c45] at H
                            exact absurd H (by simp)
                        · rw [if_neg c44] at H
                          have c44b0 : ((bt a0_2 x4_1) == 0) = false := beq_eq_false_iff_ne.mpr c44
                          have c44b1 : ((bt a0_2 x4_1) != 0) = true := bne_iff_ne.mpr c44
                          have H' := Aside0.mk H
                          clear H
                          have hcz47_0 : wr.cell? ⟨gb150, 0, none⟩ = some (.int .i64 a0_0) := (blk_cell BK150.out 0).trans rfl
                          have hcz47_1 : wr.cell? ⟨gb150, 1, none⟩ = some (.int .i64 a0_1) := (blk_cell BK150.out 1).trans rfl
                          have hcz47_2 : wr.cell? ⟨gb150, 2, none⟩ = some (.string a0_2) := (blk_cell BK150.out 2).trans rfl
                          have hfz47_0 := blk_frozen BK150.out 0
                          have hfz47_1 := blk_frozen BK150.out 1
                          have hfz47_2 := blk_frozen BK150.out 2
                          have p43 : 0 ≤ (x4_1 : Int) := of_decide_eq_true (by first | (with_reducible assumption) | assumption)
                          have q43 : x4_1 < (a0_2.size : Int) := of_decide_eq_true (by first | (with_reducible assumption) | assumption)
                          have hx43 := bt_at a0_2 x4_1
                          replace p43 := eq_true p43
                          replace q43 := eq_true q43
                          go_wp2
                          go_roundg k1
                          case measure => have := HK1.out; omega
                          case rel => exact ⟨(x3_1 ++ (a0_2.extract (x4_1 : Int).toNat ((wrap64 (x4_1 + 1)) : Int).toNat)), (wrap64 (x4_1 + 1)), (by first | rfl | (simp; done) | (simp [*]; done) | (generalize ByteArray.toList _ = l_; cases l_ <;> rfl)), (by first | rfl | (simp; done) | (simp [*]; done) | (generalize ByteArray.toList _ = l_; cases l_ <;> rfl)), H', ⟨by have := HK1.out; omega⟩, ⟨by (with_reducible repeat (first | refine blk_drewN ?_ _ | refine blk_drew ?_ | refine blk_alloc ?_ _)); exact BK150.out⟩, ⟨by repeat (first | (with_reducible first | exact HB.out | apply below_alloc | apply pw_below_drewN | apply below_drew1 | refine below_set ?_ GE150.out) | exact HB.out)⟩⟩
                      · rw [if_neg c42] at H
                        exact absurd H (by simp)
                    · rw [if_neg c41] at H
                      exact absurd H (by simp)
                  · rw [if_neg c40] at H
                    exact absurd H (by simp)
                · rw [if_neg c39] at H
                  exact absurd H (by simp)
              · rw [if_neg c38] at H
                have c38b0 : decide (x4_1 < (a0_2.size : Int)) = false := decide_eq_false c38
                clear c38
                by_cases c48 : x3_1.size + 2 ≤ 9223372036854775807
                · rw [if_pos c48] at H
                  have c48b0 := eq_true c48
                  have c48b1 : decide (x3_1.size + 2 ≤ 9223372036854775807) = true := decide_eq_true c48
                  try have c48b2 : (9223372036854775807 < x3_1.size + 2) = False := eq_false (Nat.not_lt.2 c48)
                  obtain rfl := Option.some.inj H
                  have hcz49_0 : wr.cell? ⟨gb150, 0, none⟩ = some (.int .i64 a0_0) := (blk_cell BK150.out 0).trans rfl
                  have hcz49_1 : wr.cell? ⟨gb150, 1, none⟩ = some (.int .i64 a0_1) := (blk_cell BK150.out 1).trans rfl
                  have hcz49_2 : wr.cell? ⟨gb150, 2, none⟩ = some (.string a0_2) := (blk_cell BK150.out 2).trans rfl
                  have hfz49_0 := blk_frozen BK150.out 0
                  have hfz49_1 := blk_frozen BK150.out 1
                  have hfz49_2 := blk_frozen BK150.out 2
                  go_wp2
                  go_ret
                  exact ⟨by first | rfl | (simp [errW_none, errW_some] <;> rfl) | (simp [*, errW_none, errW_some] <;> rfl), by repeat (first | (with_reducible first | exact HB.out | apply below_alloc | apply pw_below_drewN | apply below_drew1 | refine below_set ?_ GE150.out) | exact HB.out)⟩
                · rw [if_neg c48] at H
                  exact absurd H (by simp)
        · rw [if_neg c29] at H
          have c29b0 : (a0_0 == 3) = false := beq_eq_false_iff_ne.mpr c29
          have c29b1 : (a0_0 != 3) = true := bne_iff_ne.mpr c29
          obtain rfl := Option.some.inj H
          go_enter Tryz.func12, Tryz.ntmps12
          go_wp2_with (first | ((with_reducible refine gate_dst (N := 1) rfl ?_); refine box_event ?hg (N := 1) ?hd (cs := #[.int .i64 a0_0, .int .i64 a0_1, .string a0_2]) (t := 23) ?hr ?_; (case hd => rfl); (case hg => rfl); (case hr => first | (go_simp; done) | (go_simp; rfl)); intro gb150 hg w50 hbox hb; have n0_ := Aside0.mk (below_step (by repeat (first | (with_reducible first | exact HB.out | apply below_alloc | apply pw_below_drewN | apply below_drew1) | exact HB.out)) hb); have n1_ := Aside0.mk (hbox); have n2_ := Aside0.mk ((by rw [hg]; exact (below_size (by repeat (first | (with_reducible first | exact HB.out | apply below_alloc | apply pw_below_drewN | apply below_drew1) | exact HB.out))) : w.heap.size ≤ gb150)); have n3_ := Aside0.mk ((by rw [hg]; exact (below_size (by repeat (first | (with_reducible first | exact HB.out | apply below_alloc | apply pw_below_drewN | apply below_drew1) | exact HB.out))) : w.heap.size ≤ gb150)); clear HB; have HB := n0_; have BK150 := n1_; have GW150 := n2_; have GE150 := n3_; clear n0_ n1_ n2_ n3_; clear hb hbox hg; have hcz51_0 : w50.cell? ⟨gb150, 0, none⟩ = some (.int .i64 a0_0) := (blk_cell BK150.out 0).trans rfl; have hcz51_1 : w50.cell? ⟨gb150, 1, none⟩ = some (.int .i64 a0_1) := (blk_cell BK150.out 1).trans rfl; have hcz51_2 : w50.cell? ⟨gb150, 2, none⟩ = some (.string a0_2) := (blk_cell BK150.out 2).trans rfl; have hfz51_0 := blk_frozen BK150.out 0; have hfz51_1 := blk_frozen BK150.out 1; have hfz51_2 := blk_frozen BK150.out 2) | ((with_reducible refine gate_callee (f := 13) rfl ?_); refine goesL_ (some 6) rfl rfl Tryz.func13 (by kernel_rfl) rfl #[.agg #[.int .i64 a0_0, .int .i64 a0_1, .string a0_2]] rfl (by (try simp only [List.map_toArray, List.map_cons, List.map_nil]); first | done | rfl | (simp only [List.length_drop, List.length_take]; rfl)) ?_; (with_reducible refine (mortmainref03_Good.calls a0_0 a0_1 a0_2 true _ A2.out).mono ?_); rintro e w52 ⟨rfl, hb⟩; refine ⟨_, rfl, ?_⟩; have n0_ := Aside0.mk (blk_below (g := gb150) (o := .cells #[.int .i64 a0_0, .int .i64 a0_1, .string a0_2] 23 (0, 0)) (by (with_reducible repeat (first | refine blk_drewN ?_ _ | refine blk_drew ?_ | refine blk_alloc ?_ _)); exact BK150.out) hb); have n1_ := Aside0.mk (below_step (by repeat (first | (with_reducible first | exact HB.out | apply below_alloc | apply pw_below_drewN | apply below_drew1 | refine below_set ?_ GE150.out) | exact HB.out)) hb); clear BK150; clear HB; have BK150 := n0_; have HB := n1_; clear n0_ n1_; (try clear hb); (try clear hb2); (try clear hk); (try clear hi); have hcz53_0 : w52.cell? ⟨gb150, 0, none⟩ = some (.int .i64 a0_0) := (blk_cell BK150.out 0).trans rfl; have hcz53_1 : w52.cell? ⟨gb150, 1, none⟩ = some (.int .i64 a0_1) := (blk_cell BK150.out 1).trans rfl; have hcz53_2 : w52.cell? ⟨gb150, 2, none⟩ = some (.string a0_2) := (blk_cell BK150.out 2).trans rfl; have hfz53_0 := blk_frozen BK150.out 0; have hfz53_1 := blk_frozen BK150.out 1; have hfz53_2 := blk_frozen BK150.out 2) | ((with_reducible refine gate_dst (N := 11) rfl ?_); refine Kd.R_lit (Kd.int .u8) _ 5 ?hg (N := 11) ?hd (xs := ([(a0_0) % 256] : List Int)) (inner := [.int .u8 ((a0_0) % 256)]) (ok := fun _ => True) (okp := fun _ => True) ?hr ?hp (fun _ hk => hk) trivial (Below.refl _ _) (Nat.le_refl _) (by simp) ?_; (case hd => rfl); (case hg => rfl); (case hr => first | (go_simp; done) | (go_simp; rfl)); (case hp => exact (Reps.one (show Kd.M (Kd.int .u8) _ _ _ ((a0_0) % 256) [.int .u8 ((a0_0) % 256)] from rfl) (Reps.none _ _))); intro v153 w54 ho55 hb hg_ hnew_; clear hg_ hnew_; (first | rw [← Ny152.out] at ho55 | (simp only [Int.reduceToNat] at ho55; rw [← Ny152.out] at ho55)); have n0_ := Aside0.mk (Kd.R_lower ho55 (below_size (by repeat (first | (with_reducible first | exact HB.out | apply below_alloc | apply pw_below_drewN | apply below_drew1 | refine below_set ?_ GE150.out) | exact HB.out)))); have n1_ := Aside0.mk (blk_below (g := gb150) (o := .cells #[.int .i64 a0_0, .int .i64 a0_1, .string a0_2] 23 (0, 0)) (by (with_reducible repeat (first | refine blk_drewN ?_ _ | refine blk_drew ?_ | refine blk_alloc ?_ _)); exact BK150.out) hb); have n2_ := Aside0.mk (below_step (by repeat (first | (with_reducible first | exact HB.out | apply below_alloc | apply pw_below_drewN | apply below_drew1 | refine below_set ?_ GE150.out) | exact HB.out)) hb); clear BK150; clear HB; have HO154 := n0_; have BK150 := n1_; have HB := n2_; clear n0_ n1_ n2_; clear hb ho55; have hcv56 := own_string (P := Tryz.prog) Tryz.underlying45 Tryz.underlying5 Tryz.underlying9 (Kd.own_of_R HO154.out); have hcz57_0 : w54.cell? ⟨gb150, 0, none⟩ = some (.int .i64 a0_0) := (blk_cell BK150.out 0).trans rfl; have hcz57_1 : w54.cell? ⟨gb150, 1, none⟩ = some (.int .i64 a0_1) := (blk_cell BK150.out 1).trans rfl; have hcz57_2 : w54.cell? ⟨gb150, 2, none⟩ = some (.string a0_2) := (blk_cell BK150.out 2).trans rfl; have hfz57_0 := blk_frozen BK150.out 0; have hfz57_1 := blk_frozen BK150.out 1; have hfz57_2 := blk_frozen BK150.out 2))
          go_ret
          exact ⟨by first | rfl | (simp [errW_none, errW_some] <;> rfl) | (simp [*, errW_none, errW_some] <;> rfl), by repeat (first | (with_reducible first | exact HB.out | apply below_alloc | apply pw_below_drewN | apply below_drew1 | refine below_set ?_ GE150.out) | exact HB.out)⟩
  · replace c3 := Bool.eq_false_iff.mpr c3
    subst c3
    have H1 : (some (⟨#[]⟩ : ByteArray)) = some r := by rw [if_neg (show ¬ (false = true) by decide)] at H; exact H
    clear H
    have H := H1
    clear H1
    obtain rfl := Option.some.inj H
    go_enter Tryz.func12, Tryz.ntmps12
    go_wp2_with (first | ((with_reducible refine gate_dst (N := 1) rfl ?_); refine box_event ?hg (N := 1) ?hd (cs := #[.int .i64 a0_0, .int .i64 a0_1, .string a0_2]) (t := 23) ?hr ?_; (case hd => rfl); (case hg => rfl); (case hr => first | (go_simp; done) | (go_simp; rfl)); intro gb150 hg w58 hbox hb; have n0_ := Aside0.mk (below_step (by repeat (first | (with_reducible first | exact HB.out | apply below_alloc | apply pw_below_drewN | apply below_drew1) | exact HB.out)) hb); have n1_ := Aside0.mk (hbox); have n2_ := Aside0.mk ((by rw [hg]; exact (below_size (by repeat (first | (with_reducible first | exact HB.out | apply below_alloc | apply pw_below_drewN | apply below_drew1) | exact HB.out))) : w.heap.size ≤ gb150)); have n3_ := Aside0.mk ((by rw [hg]; exact (below_size (by repeat (first | (with_reducible first | exact HB.out | apply below_alloc | apply pw_below_drewN | apply below_drew1) | exact HB.out))) : w.heap.size ≤ gb150)); clear HB; have HB := n0_; have BK150 := n1_; have GW150 := n2_; have GE150 := n3_; clear n0_ n1_ n2_ n3_; clear hb hbox hg; have hcz59_0 : w58.cell? ⟨gb150, 0, none⟩ = some (.int .i64 a0_0) := (blk_cell BK150.out 0).trans rfl; have hcz59_1 : w58.cell? ⟨gb150, 1, none⟩ = some (.int .i64 a0_1) := (blk_cell BK150.out 1).trans rfl; have hcz59_2 : w58.cell? ⟨gb150, 2, none⟩ = some (.string a0_2) := (blk_cell BK150.out 2).trans rfl; have hfz59_0 := blk_frozen BK150.out 0; have hfz59_1 := blk_frozen BK150.out 1; have hfz59_2 := blk_frozen BK150.out 2) | ((with_reducible refine gate_callee (f := 13) rfl ?_); refine goesL_ (some 6) rfl rfl Tryz.func13 (by kernel_rfl) rfl #[.agg #[.int .i64 a0_0, .int .i64 a0_1, .string a0_2]] rfl (by (try simp only [List.map_toArray, List.map_cons, List.map_nil]); first | done | rfl | (simp only [List.length_drop, List.length_take]; rfl)) ?_; (with_reducible refine (mortmainref03_Good.calls a0_0 a0_1 a0_2 false _ A2.out).mono ?_); rintro e w60 ⟨rfl, hb⟩; refine ⟨_, rfl, ?_⟩; have n0_ := Aside0.mk (blk_below (g := gb150) (o := .cells #[.int .i64 a0_0, .int .i64 a0_1, .string a0_2] 23 (0, 0)) (by (with_reducible repeat (first | refine blk_drewN ?_ _ | refine blk_drew ?_ | refine blk_alloc ?_ _)); exact BK150.out) hb); have n1_ := Aside0.mk (below_step (by repeat (first | (with_reducible first | exact HB.out | apply below_alloc | apply pw_below_drewN | apply below_drew1 | refine below_set ?_ GE150.out) | exact HB.out)) hb); clear BK150; clear HB; have BK150 := n0_; have HB := n1_; clear n0_ n1_; (try clear hb); (try clear hb2); (try clear hk); (try clear hi)))
    go_ret
    exact ⟨by first | rfl | (simp [errW_none, errW_some] <;> rfl) | (simp [*, errW_none, errW_some] <;> rfl), by repeat (first | (with_reducible first | exact HB.out | apply below_alloc | apply pw_below_drewN | apply below_drew1 | refine below_set ?_ GE150.out) | exact HB.out)⟩

/-! ### mortmainref02_Less: function 96 -/
def mortmainref02_Less.f (a0 : Nat) (a1 : Nat) : Option (Bool) := (math_IsNaN.f a0).bind fun t158 => (if t158 = true then (some false) else ((math_IsNaN.f a1).bind fun t159 => (if t159 = true then (some true) else (some (FloatKind.f64.format.order a0 a1 == some Ordering.lt)))))
set_option maxHeartbeats 8000000 in
set_option maxRecDepth 100000 in
theorem mortmainref02_Less.calls (a0 : Nat) (a1 : Nat) (r : Bool) (w : World) (h : mortmainref02_Less.f a0 a1 = some r) :
    Calls Tryz.prog 96 #[.float .f64 a0, .float .f64 a1] w fun e w' => e = .returned (.bool r) ∧ Drawn0 w w' := by
  have H : ((math_IsNaN.f a0).bind fun t158 => (if t158 = true then (some false) else ((math_IsNaN.f a1).bind fun t159 => (if t159 = true then (some true) else (some (FloatKind.f64.format.order a0 a1 == some Ordering.lt)))))) = some r := h
  clear h
  replace H := Option.bind_eq_some_iff.mp H
  obtain ⟨t158, A30, H⟩ := H
  replace H : (if t158 = true then (some false) else ((math_IsNaN.f a1).bind fun t159 => (if t159 = true then (some true) else (some (FloatKind.f64.format.order a0 a1 == some Ordering.lt))))) = some r := H
  have A3 := Aside0.mk A30
  clear A30
  by_cases c4 : t158 = true
  · subst c4
    have H1 : (some false) = some r := by rw [if_pos rfl] at H; exact H
    clear H
    have H := H1
    clear H1
    obtain rfl := Option.some.inj H
    go_enter Tryz.func96, Tryz.ntmps96
    go_wp2_with (first | ((with_reducible refine gate_callee (f := 67) rfl ?_); refine goesL_ (some 6) rfl rfl Tryz.func67 (by kernel_rfl) rfl #[.float .f64 a0] rfl (by (try simp only [List.map_toArray, List.map_cons, List.map_nil]); first | done | rfl | (simp only [List.length_drop, List.length_take]; rfl)) ?_; (with_reducible refine (math_IsNaN.calls a0 true _ A3.out).mono ?_); rintro e w' ⟨rfl, ⟨nd, rfl⟩⟩; refine ⟨_, rfl, ?_⟩))
    go_ret
    exact ⟨by first | rfl | (simp; done) | (simp [*]; done) | (generalize ByteArray.toList _ = l_; cases l_ <;> rfl), by repeat (first | exact Drawn0.refl _ | apply Drawn0.step)⟩
  · replace c4 := Bool.eq_false_iff.mpr c4
    subst c4
    have H1 : ((math_IsNaN.f a1).bind fun t159 => (if t159 = true then (some true) else (some (FloatKind.f64.format.order a0 a1 == some Ordering.lt)))) = some r := by rw [if_neg (show ¬ (false = true) by decide)] at H; exact H
    clear H
    have H := H1
    clear H1
    replace H := Option.bind_eq_some_iff.mp H
    obtain ⟨t159, A50, H⟩ := H
    replace H : (if t159 = true then (some true) else (some (FloatKind.f64.format.order a0 a1 == some Ordering.lt))) = some r := H
    have A5 := Aside0.mk A50
    clear A50
    by_cases c6 : t159 = true
    · subst c6
      have H1 : (some true) = some r := by rw [if_pos rfl] at H; exact H
      clear H
      have H := H1
      clear H1
      obtain rfl := Option.some.inj H
      go_enter Tryz.func96, Tryz.ntmps96
      go_wp2_with (first | ((with_reducible refine gate_callee (f := 67) rfl ?_); refine goesL_ (some 6) rfl rfl Tryz.func67 (by kernel_rfl) rfl #[.float .f64 a0] rfl (by (try simp only [List.map_toArray, List.map_cons, List.map_nil]); first | done | rfl | (simp only [List.length_drop, List.length_take]; rfl)) ?_; (with_reducible refine (math_IsNaN.calls a0 false _ A3.out).mono ?_); rintro e w' ⟨rfl, ⟨nd, rfl⟩⟩; refine ⟨_, rfl, ?_⟩) | ((with_reducible refine gate_callee (f := 67) rfl ?_); refine goesL_ (some 8) rfl rfl Tryz.func67 (by kernel_rfl) rfl #[.float .f64 a1] rfl (by (try simp only [List.map_toArray, List.map_cons, List.map_nil]); first | done | rfl | (simp only [List.length_drop, List.length_take]; rfl)) ?_; (with_reducible refine (math_IsNaN.calls a1 true _ A5.out).mono ?_); rintro e w' ⟨rfl, ⟨nd, rfl⟩⟩; refine ⟨_, rfl, ?_⟩))
      go_ret
      exact ⟨by first | rfl | (simp; done) | (simp [*]; done) | (generalize ByteArray.toList _ = l_; cases l_ <;> rfl), by repeat (first | exact Drawn0.refl _ | apply Drawn0.step)⟩
    · replace c6 := Bool.eq_false_iff.mpr c6
      subst c6
      have H1 : (some (FloatKind.f64.format.order a0 a1 == some Ordering.lt)) = some r := by rw [if_neg (show ¬ (false = true) by decide)] at H; exact H
      clear H
      have H := H1
      clear H1
      obtain rfl := Option.some.inj H
      go_enter Tryz.func96, Tryz.ntmps96
      go_wp2_with (first | ((with_reducible refine gate_callee (f := 67) rfl ?_); refine goesL_ (some 6) rfl rfl Tryz.func67 (by kernel_rfl) rfl #[.float .f64 a0] rfl (by (try simp only [List.map_toArray, List.map_cons, List.map_nil]); first | done | rfl | (simp only [List.length_drop, List.length_take]; rfl)) ?_; (with_reducible refine (math_IsNaN.calls a0 false _ A3.out).mono ?_); rintro e w' ⟨rfl, ⟨nd, rfl⟩⟩; refine ⟨_, rfl, ?_⟩) | ((with_reducible refine gate_callee (f := 67) rfl ?_); refine goesL_ (some 8) rfl rfl Tryz.func67 (by kernel_rfl) rfl #[.float .f64 a1] rfl (by (try simp only [List.map_toArray, List.map_cons, List.map_nil]); first | done | rfl | (simp only [List.length_drop, List.length_take]; rfl)) ?_; (with_reducible refine (math_IsNaN.calls a1 false _ A5.out).mono ?_); rintro e w' ⟨rfl, ⟨nd, rfl⟩⟩; refine ⟨_, rfl, ?_⟩))
      go_ret
      exact ⟨by first | rfl | (simp; done) | (simp [*]; done) | (generalize ByteArray.toList _ = l_; cases l_ <;> rfl), by repeat (first | exact Drawn0.refl _ | apply Drawn0.step)⟩

end Go.Proofs.YtmaciepkkianhabGreatDoor.QVal

namespace Go.Proofs.YtmaciepkkianhabGreatDoor.QVal
open Go.Proofs.YtmaciepkkianhabGreatDoor.H
attribute [local go_sem] ite_signed_u64 ite_signed_u32
open Go.RowKit Go.Proofs.YtmaciepkkianhabGreatDoorW.PrintWords Go.Proofs.YtmaciepkkianhabGreatDoorW.PrintLast Go.Proofs.YtmaciepkkianhabGreatDoorW.PrintMore
attribute [local go_sem] max2_int min2_int max_two min_two max_three min_three max_four min_four   -- for this text's walks alone
set_option linter.unusedVariables false
set_option linter.unusedSimpArgs false

/-! ### mortmainref02_Compare: function 77 -/
def mortmainref02_Compare.f (a0 : Int) (a1 : Int) : Option (Int) := (mortmainref02_Of.f a0).bind fun t160 => ((mortmainref02_Of.f a1).bind fun t161 => ((mortmainref02_Less.f t160 t161).bind fun t162 => (if t162 = true then (some (-1)) else ((mortmainref02_Of.f a1).bind fun t163 => ((mortmainref02_Of.f a0).bind fun t164 => ((mortmainref02_Less.f t163 t164).bind fun t165 => (if t165 = true then (some 1) else (some 0))))))))
set_option maxHeartbeats 8000000 in
set_option maxRecDepth 100000 in
theorem mortmainref02_Compare.calls (a0 : Int) (a1 : Int) (r : Int) (w : World) (h : mortmainref02_Compare.f a0 a1 = some r) :
    Calls Tryz.prog 77 #[.int .i64 a0, .int .i64 a1] w fun e w' => e = .returned (.int .i64 r) ∧ Drawn0 w w' := by
  have H : ((mortmainref02_Of.f a0).bind fun t160 => ((mortmainref02_Of.f a1).bind fun t161 => ((mortmainref02_Less.f t160 t161).bind fun t162 => (if t162 = true then (some (-1)) else ((mortmainref02_Of.f a1).bind fun t163 => ((mortmainref02_Of.f a0).bind fun t164 => ((mortmainref02_Less.f t163 t164).bind fun t165 => (if t165 = true then (some 1) else (some 0))))))))) = some r := h
  clear h
  replace H := Option.bind_eq_some_iff.mp H
  obtain ⟨t160, A30, H⟩ := H
  replace H : ((mortmainref02_Of.f a1).bind fun t161 => ((mortmainref02_Less.f t160 t161).bind fun t162 => (if t162 = true then (some (-1)) else ((mortmainref02_Of.f a1).bind fun t163 => ((mortmainref02_Of.f a0).bind fun t164 => ((mortmainref02_Less.f t163 t164).bind fun t165 => (if t165 = true then (some 1) else (some 0)))))))) = some r := H
  have A3 := Aside0.mk A30
  clear A30
  replace H := Option.bind_eq_some_iff.mp H
  obtain ⟨t161, A40, H⟩ := H
  replace H : ((mortmainref02_Less.f t160 t161).bind fun t162 => (if t162 = true then (some (-1)) else ((mortmainref02_Of.f a1).bind fun t163 => ((mortmainref02_Of.f a0).bind fun t164 => ((mortmainref02_Less.f t163 t164).bind fun t165 => (if t165 = true then (some 1) else (some 0))))))) = some r := H
  have A4 := Aside0.mk A40
  clear A40
  replace H := Option.bind_eq_some_iff.mp H
  obtain ⟨t162, A50, H⟩ := H
  replace H : (if t162 = true then (some (-1)) else ((mortmainref02_Of.f a1).bind fun t163 => ((mortmainref02_Of.f a0).bind fun t164 => ((mortmainref02_Less.f t163 t164).bind fun t165 => (if t165 = true then (some 1) else (some 0)))))) = some r := H
  have A5 := Aside0.mk A50
  clear A50
  by_cases c6 : t162 = true
  · subst c6
    have H1 : (some (-1)) = some r := by rw [if_pos rfl] at H; exact H
    clear H
    have H := H1
    clear H1
    obtain rfl := Option.some.inj H
    go_enter Tryz.func77, Tryz.ntmps77
    go_wp2_with (first | ((with_reducible refine gate_callee (f := 29) rfl ?_); refine goesL_ (some 6) rfl rfl Tryz.func29 (by kernel_rfl) rfl #[.int .i64 a0] rfl (by (try simp only [List.map_toArray, List.map_cons, List.map_nil]); first | done | rfl | (simp only [List.length_drop, List.length_take]; rfl)) ?_; (with_reducible refine (mortmainref02_Of.calls a0 t160 _ A3.out).mono ?_); rintro e w' ⟨rfl, ⟨nd, rfl⟩⟩; refine ⟨_, rfl, ?_⟩) | ((with_reducible refine gate_callee (f := 29) rfl ?_); refine goesL_ (some 8) rfl rfl Tryz.func29 (by kernel_rfl) rfl #[.int .i64 a1] rfl (by (try simp only [List.map_toArray, List.map_cons, List.map_nil]); first | done | rfl | (simp only [List.length_drop, List.length_take]; rfl)) ?_; (with_reducible refine (mortmainref02_Of.calls a1 t161 _ A4.out).mono ?_); rintro e w' ⟨rfl, ⟨nd, rfl⟩⟩; refine ⟨_, rfl, ?_⟩) | ((with_reducible refine gate_callee (f := 96) rfl ?_); refine goesL_ (some 9) rfl rfl Tryz.func96 (by kernel_rfl) rfl #[.float .f64 t160, .float .f64 t161] rfl (by (try simp only [List.map_toArray, List.map_cons, List.map_nil]); first | done | rfl | (simp only [List.length_drop, List.length_take]; rfl)) ?_; (with_reducible refine (mortmainref02_Less.calls t160 t161 true _ A5.out).mono ?_); rintro e w' ⟨rfl, ⟨nd, rfl⟩⟩; refine ⟨_, rfl, ?_⟩))
    go_ret
    exact ⟨by first | rfl | (simp; done) | (simp [*]; done) | (generalize ByteArray.toList _ = l_; cases l_ <;> rfl), by repeat (first | exact Drawn0.refl _ | apply Drawn0.step)⟩
  · replace c6 := Bool.eq_false_iff.mpr c6
    subst c6
    have H1 : ((mortmainref02_Of.f a1).bind fun t163 => ((mortmainref02_Of.f a0).bind fun t164 => ((mortmainref02_Less.f t163 t164).bind fun t165 => (if t165 = true then (some 1) else (some 0))))) = some r := by rw [if_neg (show ¬ (false = true) by decide)] at H; exact H
    clear H
    have H := H1
    clear H1
    replace H := Option.bind_eq_some_iff.mp H
    obtain ⟨t163, A70, H⟩ := H
    replace H : ((mortmainref02_Of.f a0).bind fun t164 => ((mortmainref02_Less.f t163 t164).bind fun t165 => (if t165 = true then (some 1) else (some 0)))) = some r := H
    have A7 := Aside0.mk A70
    clear A70
    replace H := Option.bind_eq_some_iff.mp H
    obtain ⟨t164, A80, H⟩ := H
    replace H : ((mortmainref02_Less.f t163 t164).bind fun t165 => (if t165 = true then (some 1) else (some 0))) = some r := H
    have A8 := Aside0.mk A80
    clear A80
    replace H := Option.bind_eq_some_iff.mp H
    obtain ⟨t165, A90, H⟩ := H
    replace H : (if t165 = true then (some 1) else (some 0)) = some r := H
    have A9 := Aside0.mk A90
    clear A90
    by_cases c10 : t165 = true
    · subst c10
      have H1 : (some 1) = some r := by rw [if_pos rfl] at H; exact H
      clear H
      have H := H1
      clear H1
      obtain rfl := Option.some.inj H
      go_enter Tryz.func77, Tryz.ntmps77
      go_wp2_with (first | ((with_reducible refine gate_callee (f := 29) rfl ?_); refine goesL_ (some 6) rfl rfl Tryz.func29 (by kernel_rfl) rfl #[.int .i64 a0] rfl (by (try simp only [List.map_toArray, List.map_cons, List.map_nil]); first | done | rfl | (simp only [List.length_drop, List.length_take]; rfl)) ?_; (with_reducible refine (mortmainref02_Of.calls a0 t160 _ A3.out).mono ?_); rintro e w' ⟨rfl, ⟨nd, rfl⟩⟩; refine ⟨_, rfl, ?_⟩) | ((with_reducible refine gate_callee (f := 29) rfl ?_); refine goesL_ (some 8) rfl rfl Tryz.func29 (by kernel_rfl) rfl #[.int .i64 a1] rfl (by (try simp only [List.map_toArray, List.map_cons, List.map_nil]); first | done | rfl | (simp only [List.length_drop, List.length_take]; rfl)) ?_; (with_reducible refine (mortmainref02_Of.calls a1 t161 _ A4.out).mono ?_); rintro e w' ⟨rfl, ⟨nd, rfl⟩⟩; refine ⟨_, rfl, ?_⟩) | ((with_reducible refine gate_callee (f := 96) rfl ?_); refine goesL_ (some 9) rfl rfl Tryz.func96 (by kernel_rfl) rfl #[.float .f64 t160, .float .f64 t161] rfl (by (try simp only [List.map_toArray, List.map_cons, List.map_nil]); first | done | rfl | (simp only [List.length_drop, List.length_take]; rfl)) ?_; (with_reducible refine (mortmainref02_Less.calls t160 t161 false _ A5.out).mono ?_); rintro e w' ⟨rfl, ⟨nd, rfl⟩⟩; refine ⟨_, rfl, ?_⟩) | ((with_reducible refine gate_callee (f := 29) rfl ?_); refine goesL_ (some 11) rfl rfl Tryz.func29 (by kernel_rfl) rfl #[.int .i64 a1] rfl (by (try simp only [List.map_toArray, List.map_cons, List.map_nil]); first | done | rfl | (simp only [List.length_drop, List.length_take]; rfl)) ?_; (with_reducible refine (mortmainref02_Of.calls a1 t163 _ A7.out).mono ?_); rintro e w' ⟨rfl, ⟨nd, rfl⟩⟩; refine ⟨_, rfl, ?_⟩) | ((with_reducible refine gate_callee (f := 29) rfl ?_); refine goesL_ (some 13) rfl rfl Tryz.func29 (by kernel_rfl) rfl #[.int .i64 a0] rfl (by (try simp only [List.map_toArray, List.map_cons, List.map_nil]); first | done | rfl | (simp only [List.length_drop, List.length_take]; rfl)) ?_; (with_reducible refine (mortmainref02_Of.calls a0 t164 _ A8.out).mono ?_); rintro e w' ⟨rfl, ⟨nd, rfl⟩⟩; refine ⟨_, rfl, ?_⟩) | ((with_reducible refine gate_callee (f := 96) rfl ?_); refine goesL_ (some 14) rfl rfl Tryz.func96 (by kernel_rfl) rfl #[.float .f64 t163, .float .f64 t164] rfl (by (try simp only [List.map_toArray, List.map_cons, List.map_nil]); first | done | rfl | (simp only [List.length_drop, List.length_take]; rfl)) ?_; (with_reducible refine (mortmainref02_Less.calls t163 t164 true _ A9.out).mono ?_); rintro e w' ⟨rfl, ⟨nd, rfl⟩⟩; refine ⟨_, rfl, ?_⟩))
      go_ret
      exact ⟨by first | rfl | (simp; done) | (simp [*]; done) | (generalize ByteArray.toList _ = l_; cases l_ <;> rfl), by repeat (first | exact Drawn0.refl _ | apply Drawn0.step)⟩
    · replace c10 := Bool.eq_false_iff.mpr c10
      subst c10
      have H1 : (some 0) = some r := by rw [if_neg (show ¬ (false = true) by decide)] at H; exact H
      clear H
      have H := H1
      clear H1
      obtain rfl := Option.some.inj H
      go_enter Tryz.func77, Tryz.ntmps77
      go_wp2_with (first | ((with_reducible refine gate_callee (f := 29) rfl ?_); refine goesL_ (some 6) rfl rfl Tryz.func29 (by kernel_rfl) rfl #[.int .i64 a0] rfl (by (try simp only [List.map_toArray, List.map_cons, List.map_nil]); first | done | rfl | (simp only [List.length_drop, List.length_take]; rfl)) ?_; (with_reducible refine (mortmainref02_Of.calls a0 t160 _ A3.out).mono ?_); rintro e w' ⟨rfl, ⟨nd, rfl⟩⟩; refine ⟨_, rfl, ?_⟩) | ((with_reducible refine gate_callee (f := 29) rfl ?_); refine goesL_ (some 8) rfl rfl Tryz.func29 (by kernel_rfl) rfl #[.int .i64 a1] rfl (by (try simp only [List.map_toArray, List.map_cons, List.map_nil]); first | done | rfl | (simp only [List.length_drop, List.length_take]; rfl)) ?_; (with_reducible refine (mortmainref02_Of.calls a1 t161 _ A4.out).mono ?_); rintro e w' ⟨rfl, ⟨nd, rfl⟩⟩; refine ⟨_, rfl, ?_⟩) | ((with_reducible refine gate_callee (f := 96) rfl ?_); refine goesL_ (some 9) rfl rfl Tryz.func96 (by kernel_rfl) rfl #[.float .f64 t160, .float .f64 t161] rfl (by (try simp only [List.map_toArray, List.map_cons, List.map_nil]); first | done | rfl | (simp only [List.length_drop, List.length_take]; rfl)) ?_; (with_reducible refine (mortmainref02_Less.calls t160 t161 false _ A5.out).mono ?_); rintro e w' ⟨rfl, ⟨nd, rfl⟩⟩; refine ⟨_, rfl, ?_⟩) | ((with_reducible refine gate_callee (f := 29) rfl ?_); refine goesL_ (some 11) rfl rfl Tryz.func29 (by kernel_rfl) rfl #[.int .i64 a1] rfl (by (try simp only [List.map_toArray, List.map_cons, List.map_nil]); first | done | rfl | (simp only [List.length_drop, List.length_take]; rfl)) ?_; (with_reducible refine (mortmainref02_Of.calls a1 t163 _ A7.out).mono ?_); rintro e w' ⟨rfl, ⟨nd, rfl⟩⟩; refine ⟨_, rfl, ?_⟩) | ((with_reducible refine gate_callee (f := 29) rfl ?_); refine goesL_ (some 13) rfl rfl Tryz.func29 (by kernel_rfl) rfl #[.int .i64 a0] rfl (by (try simp only [List.map_toArray, List.map_cons, List.map_nil]); first | done | rfl | (simp only [List.length_drop, List.length_take]; rfl)) ?_; (with_reducible refine (mortmainref02_Of.calls a0 t164 _ A8.out).mono ?_); rintro e w' ⟨rfl, ⟨nd, rfl⟩⟩; refine ⟨_, rfl, ?_⟩) | ((with_reducible refine gate_callee (f := 96) rfl ?_); refine goesL_ (some 14) rfl rfl Tryz.func96 (by kernel_rfl) rfl #[.float .f64 t163, .float .f64 t164] rfl (by (try simp only [List.map_toArray, List.map_cons, List.map_nil]); first | done | rfl | (simp only [List.length_drop, List.length_take]; rfl)) ?_; (with_reducible refine (mortmainref02_Less.calls t163 t164 false _ A9.out).mono ?_); rintro e w' ⟨rfl, ⟨nd, rfl⟩⟩; refine ⟨_, rfl, ?_⟩))
      go_ret
      exact ⟨by first | rfl | (simp; done) | (simp [*]; done) | (generalize ByteArray.toList _ = l_; cases l_ <;> rfl), by repeat (first | exact Drawn0.refl _ | apply Drawn0.step)⟩

/-! ### mortmainref03_Less: function 45 -/
def mortmainref03_Less.f (a0_0 : Int) (a0_1 : Int) (a0_2 : ByteArray) (a1_0 : Int) (a1_1 : Int) (a1_2 : ByteArray) : Option (Bool) := if a0_0 = a1_0 then (if a0_0 = 1 then (some (decide (a0_1 < a1_1))) else (if a0_0 = 2 then ((mortmainref02_Compare.f a0_1 a1_1).bind fun t168 => (some (decide (t168 < 0)))) else (some (Op.bytesLess a0_2.toList a1_2.toList)))) else (some (decide (a0_0 < a1_0)))
set_option maxHeartbeats 8000000 in
set_option maxRecDepth 100000 in
theorem mortmainref03_Less.calls (a0_0 : Int) (a0_1 : Int) (a0_2 : ByteArray) (a1_0 : Int) (a1_1 : Int) (a1_2 : ByteArray) (r : Bool) (w : World) (h : mortmainref03_Less.f a0_0 a0_1 a0_2 a1_0 a1_1 a1_2 = some r) :
    Calls Tryz.prog 45 #[.agg #[.int .i64 a0_0, .int .i64 a0_1, .string a0_2], .agg #[.int .i64 a1_0, .int .i64 a1_1, .string a1_2]] w fun e w' => e = .returned (.bool r) ∧ Below w.heap.size w w' := by
  have hu23 := Tryz.underlying23
  have HB := Aside0.mk (Below.refl w.heap.size w)
  have H : (if a0_0 = a1_0 then (if a0_0 = 1 then (some (decide (a0_1 < a1_1))) else (if a0_0 = 2 then ((mortmainref02_Compare.f a0_1 a1_1).bind fun t168 => (some (decide (t168 < 0)))) else (some (Op.bytesLess a0_2.toList a1_2.toList)))) else (some (decide (a0_0 < a1_0)))) = some r := h
  clear h
  by_cases c3 : a0_0 = a1_0
  · rw [if_pos c3] at H
    have c3b0 : (a0_0 == a1_0) = true := beq_iff_eq.mpr c3
    have c3b1 : (a0_0 != a1_0) = false := bne_eq_false_iff_eq.mpr c3
    clear c3
    by_cases c4 : a0_0 = 1
    · rw [if_pos c4] at H
      have c4b0 : (a0_0 == 1) = true := beq_iff_eq.mpr c4
      have c4b1 : (a0_0 != 1) = false := bne_eq_false_iff_eq.mpr c4
      clear c4
      obtain rfl := Option.some.inj H
      go_enter Tryz.func45, Tryz.ntmps45
      go_wp2_with (first | ((with_reducible refine gate_dst (N := 2) rfl ?_); refine box_event ?hg (N := 2) ?hd (cs := #[.int .i64 a0_0, .int .i64 a0_1, .string a0_2]) (t := 23) ?hr ?_; (case hd => rfl); (case hg => rfl); (case hr => first | (go_simp; done) | (go_simp; rfl)); intro gb166 hg w5 hbox hb; have n0_ := Aside0.mk (below_step (by repeat (first | (with_reducible first | exact HB.out | apply below_alloc | apply pw_below_drewN | apply below_drew1) | exact HB.out)) hb); have n1_ := Aside0.mk (hbox); have n2_ := Aside0.mk ((by rw [hg]; exact (below_size (by repeat (first | (with_reducible first | exact HB.out | apply below_alloc | apply pw_below_drewN | apply below_drew1) | exact HB.out))) : w.heap.size ≤ gb166)); have n3_ := Aside0.mk ((by rw [hg]; exact (below_size (by repeat (first | (with_reducible first | exact HB.out | apply below_alloc | apply pw_below_drewN | apply below_drew1) | exact HB.out))) : w.heap.size ≤ gb166)); clear HB; have HB := n0_; have BK166 := n1_; have GW166 := n2_; have GE166 := n3_; clear n0_ n1_ n2_ n3_; clear hb hbox hg) | ((with_reducible refine gate_dst (N := 3) rfl ?_); refine box_event ?hg (N := 3) ?hd (cs := #[.int .i64 a1_0, .int .i64 a1_1, .string a1_2]) (t := 23) ?hr ?_; (case hd => rfl); (case hg => rfl); (case hr => first | (go_simp; done) | (go_simp; rfl)); intro gb167 hg w6 hbox hb; have n0_ := Aside0.mk (blk_below (g := gb166) (o := .cells #[.int .i64 a0_0, .int .i64 a0_1, .string a0_2] 23 (0, 0)) (by (with_reducible repeat (first | refine blk_drewN ?_ _ | refine blk_drew ?_ | refine blk_alloc ?_ _)); exact BK166.out) hb); have n1_ := Aside0.mk (below_step (by repeat (first | (with_reducible first | exact HB.out | apply below_alloc | apply pw_below_drewN | apply below_drew1 | refine below_set ?_ GE166.out) | exact HB.out)) hb); have n2_ := Aside0.mk (hbox); have n3_ := Aside0.mk ((by rw [hg]; exact (below_size (by repeat (first | (with_reducible first | exact HB.out | apply below_alloc | apply pw_below_drewN | apply below_drew1 | refine below_set ?_ GE166.out) | exact HB.out))) : w.heap.size ≤ gb167)); have n4_ := Aside0.mk ((by rw [hg]; exact (below_size (by repeat (first | (with_reducible first | exact HB.out | apply below_alloc | apply pw_below_drewN | apply below_drew1 | refine below_set ?_ GE166.out) | exact HB.out))) : w.heap.size ≤ gb167)); have n5_ := Aside0.mk ((by rw [hg]; exact Nat.ne_of_lt (blk_lt (g := gb166) (o := .cells #[.int .i64 a0_0, .int .i64 a0_1, .string a0_2] 23 (0, 0)) (by (with_reducible repeat (first | refine blk_drewN ?_ _ | refine blk_drew ?_ | refine blk_alloc ?_ _)); exact BK166.out)) : gb166 ≠ gb167)); have n6_ := Aside0.mk ((by rw [hg]; exact Nat.ne_of_gt (blk_lt (g := gb166) (o := .cells #[.int .i64 a0_0, .int .i64 a0_1, .string a0_2] 23 (0, 0)) (by (with_reducible repeat (first | refine blk_drewN ?_ _ | refine blk_drew ?_ | refine blk_alloc ?_ _)); exact BK166.out)) : gb167 ≠ gb166)); clear BK166; clear HB; have BK166 := n0_; have HB := n1_; have BK167 := n2_; have GW167 := n3_; have GE167 := n4_; have NB166_167 := n5_; have NB167_166 := n6_; clear n0_ n1_ n2_ n3_ n4_ n5_ n6_; clear hb hbox hg; have hnb7 := NB166_167.out; have hnc7 := NB167_166.out; have hcz8_0 : w6.cell? ⟨gb166, 0, none⟩ = some (.int .i64 a0_0) := (blk_cell BK166.out 0).trans rfl; have hcz8_1 : w6.cell? ⟨gb166, 1, none⟩ = some (.int .i64 a0_1) := (blk_cell BK166.out 1).trans rfl; have hcz8_2 : w6.cell? ⟨gb166, 2, none⟩ = some (.string a0_2) := (blk_cell BK166.out 2).trans rfl; have hfz8_0 := blk_frozen BK166.out 0; have hfz8_1 := blk_frozen BK166.out 1; have hfz8_2 := blk_frozen BK166.out 2; have hcz9_0 : w6.cell? ⟨gb167, 0, none⟩ = some (.int .i64 a1_0) := (blk_cell BK167.out 0).trans rfl; have hcz9_1 : w6.cell? ⟨gb167, 1, none⟩ = some (.int .i64 a1_1) := (blk_cell BK167.out 1).trans rfl; have hcz9_2 : w6.cell? ⟨gb167, 2, none⟩ = some (.string a1_2) := (blk_cell BK167.out 2).trans rfl; have hfz9_0 := blk_frozen BK167.out 0; have hfz9_1 := blk_frozen BK167.out 1; have hfz9_2 := blk_frozen BK167.out 2))
      go_ret
      exact ⟨by first | rfl | (simp [errW_none, errW_some] <;> rfl) | (simp [*, errW_none, errW_some] <;> rfl), by repeat (first | (with_reducible first | exact HB.out | apply below_alloc | apply pw_below_drewN | apply below_drew1 | refine below_set ?_ GE166.out | refine below_set ?_ GE167.out) | exact HB.out)⟩
    · rw [if_neg c4] at H
      have c4b0 : (a0_0 == 1) = false := beq_eq_false_iff_ne.mpr c4
      have c4b1 : (a0_0 != 1) = true := bne_iff_ne.mpr c4
      by_cases c10 : a0_0 = 2
      · rw [if_pos c10] at H
        have c10b0 : (a0_0 == 2) = true := beq_iff_eq.mpr c10
        have c10b1 : (a0_0 != 2) = false := bne_eq_false_iff_eq.mpr c10
        clear c10
        replace H := Option.bind_eq_some_iff.mp H
        obtain ⟨t168, A110, H⟩ := H
        replace H : (some (decide (t168 < 0))) = some r := H
        have A11 := Aside0.mk A110
        clear A110
        obtain rfl := Option.some.inj H
        go_enter Tryz.func45, Tryz.ntmps45
        go_wp2_with (first | ((with_reducible refine gate_dst (N := 2) rfl ?_); refine box_event ?hg (N := 2) ?hd (cs := #[.int .i64 a0_0, .int .i64 a0_1, .string a0_2]) (t := 23) ?hr ?_; (case hd => rfl); (case hg => rfl); (case hr => first | (go_simp; done) | (go_simp; rfl)); intro gb166 hg w12 hbox hb; have n0_ := Aside0.mk (below_step (by repeat (first | (with_reducible first | exact HB.out | apply below_alloc | apply pw_below_drewN | apply below_drew1) | exact HB.out)) hb); have n1_ := Aside0.mk (hbox); have n2_ := Aside0.mk ((by rw [hg]; exact (below_size (by repeat (first | (with_reducible first | exact HB.out | apply below_alloc | apply pw_below_drewN | apply below_drew1) | exact HB.out))) : w.heap.size ≤ gb166)); have n3_ := Aside0.mk ((by rw [hg]; exact (below_size (by repeat (first | (with_reducible first | exact HB.out | apply below_alloc | apply pw_below_drewN | apply below_drew1) | exact HB.out))) : w.heap.size ≤ gb166)); clear HB; have HB := n0_; have BK166 := n1_; have GW166 := n2_; have GE166 := n3_; clear n0_ n1_ n2_ n3_; clear hb hbox hg) | ((with_reducible refine gate_dst (N := 3) rfl ?_); refine box_event ?hg (N := 3) ?hd (cs := #[.int .i64 a1_0, .int .i64 a1_1, .string a1_2]) (t := 23) ?hr ?_; (case hd => rfl); (case hg => rfl); (case hr => first | (go_simp; done) | (go_simp; rfl)); intro gb167 hg w13 hbox hb; have n0_ := Aside0.mk (blk_below (g := gb166) (o := .cells #[.int .i64 a0_0, .int .i64 a0_1, .string a0_2] 23 (0, 0)) (by (with_reducible repeat (first | refine blk_drewN ?_ _ | refine blk_drew ?_ | refine blk_alloc ?_ _)); exact BK166.out) hb); have n1_ := Aside0.mk (below_step (by repeat (first | (with_reducible first | exact HB.out | apply below_alloc | apply pw_below_drewN | apply below_drew1 | refine below_set ?_ GE166.out) | exact HB.out)) hb); have n2_ := Aside0.mk (hbox); have n3_ := Aside0.mk ((by rw [hg]; exact (below_size (by repeat (first | (with_reducible first | exact HB.out | apply below_alloc | apply pw_below_drewN | apply below_drew1 | refine below_set ?_ GE166.out) | exact HB.out))) : w.heap.size ≤ gb167)); have n4_ := Aside0.mk ((by rw [hg]; exact (below_size (by repeat (first | (with_reducible first | exact HB.out | apply below_alloc | apply pw_below_drewN | apply below_drew1 | refine below_set ?_ GE166.out) | exact HB.out))) : w.heap.size ≤ gb167)); have n5_ := Aside0.mk ((by rw [hg]; exact Nat.ne_of_lt (blk_lt (g := gb166) (o := .cells #[.int .i64 a0_0, .int .i64 a0_1, .string a0_2] 23 (0, 0)) (by (with_reducible repeat (first | refine blk_drewN ?_ _ | refine blk_drew ?_ | refine blk_alloc ?_ _)); exact BK166.out)) : gb166 ≠ gb167)); have n6_ := Aside0.mk ((by rw [hg]; exact Nat.ne_of_gt (blk_lt (g := gb166) (o := .cells #[.int .i64 a0_0, .int .i64 a0_1, .string a0_2] 23 (0, 0)) (by (with_reducible repeat (first | refine blk_drewN ?_ _ | refine blk_drew ?_ | refine blk_alloc ?_ _)); exact BK166.out)) : gb167 ≠ gb166)); clear BK166; clear HB; have BK166 := n0_; have HB := n1_; have BK167 := n2_; have GW167 := n3_; have GE167 := n4_; have NB166_167 := n5_; have NB167_166 := n6_; clear n0_ n1_ n2_ n3_ n4_ n5_ n6_; clear hb hbox hg; have hnb14 := NB166_167.out; have hnc14 := NB167_166.out; have hcz15_0 : w13.cell? ⟨gb166, 0, none⟩ = some (.int .i64 a0_0) := (blk_cell BK166.out 0).trans rfl; have hcz15_1 : w13.cell? ⟨gb166, 1, none⟩ = some (.int .i64 a0_1) := (blk_cell BK166.out 1).trans rfl; have hcz15_2 : w13.cell? ⟨gb166, 2, none⟩ = some (.string a0_2) := (blk_cell BK166.out 2).trans rfl; have hfz15_0 := blk_frozen BK166.out 0; have hfz15_1 := blk_frozen BK166.out 1; have hfz15_2 := blk_frozen BK166.out 2; have hcz16_0 : w13.cell? ⟨gb167, 0, none⟩ = some (.int .i64 a1_0) := (blk_cell BK167.out 0).trans rfl; have hcz16_1 : w13.cell? ⟨gb167, 1, none⟩ = some (.int .i64 a1_1) := (blk_cell BK167.out 1).trans rfl; have hcz16_2 : w13.cell? ⟨gb167, 2, none⟩ = some (.string a1_2) := (blk_cell BK167.out 2).trans rfl; have hfz16_0 := blk_frozen BK167.out 0; have hfz16_1 := blk_frozen BK167.out 1; have hfz16_2 := blk_frozen BK167.out 2) | ((with_reducible refine gate_callee (f := 77) rfl ?_); refine goesL_ (some 30) rfl rfl Tryz.func77 (by kernel_rfl) rfl #[.int .i64 a0_1, .int .i64 a1_1] rfl (by (try simp only [List.map_toArray, List.map_cons, List.map_nil]); first | done | rfl | (simp only [List.length_drop, List.length_take]; rfl)) ?_; (with_reducible refine (mortmainref02_Compare.calls a0_1 a1_1 t168 _ A11.out).mono ?_); rintro e w' ⟨rfl, ⟨nd, rfl⟩⟩; refine ⟨_, rfl, ?_⟩))
        go_ret
        exact ⟨by first | rfl | (simp [errW_none, errW_some] <;> rfl) | (simp [*, errW_none, errW_some] <;> rfl), by repeat (first | (with_reducible first | exact HB.out | apply below_alloc | apply pw_below_drewN | apply below_drew1 | refine below_set ?_ GE166.out | refine below_set ?_ GE167.out) | exact HB.out)⟩
      · rw [if_neg c10] at H
        have c10b0 : (a0_0 == 2) = false := beq_eq_false_iff_ne.mpr c10
        have c10b1 : (a0_0 != 2) = true := bne_iff_ne.mpr c10
        obtain rfl := Option.some.inj H
        go_enter Tryz.func45, Tryz.ntmps45
        go_wp2_with (first | ((with_reducible refine gate_dst (N := 2) rfl ?_); refine box_event ?hg (N := 2) ?hd (cs := #[.int .i64 a0_0, .int .i64 a0_1, .string a0_2]) (t := 23) ?hr ?_; (case hd => rfl); (case hg => rfl); (case hr => first | (go_simp; done) | (go_simp; rfl)); intro gb166 hg w17 hbox hb; have n0_ := Aside0.mk (below_step (by repeat (first | (with_reducible first | exact HB.out | apply below_alloc | apply pw_below_drewN | apply below_drew1) | exact HB.out)) hb); have n1_ := Aside0.mk (hbox); have n2_ := Aside0.mk ((by rw [hg]; exact (below_size (by repeat (first | (with_reducible first | exact HB.out | apply below_alloc | apply pw_below_drewN | apply below_drew1) | exact HB.out))) : w.heap.size ≤ gb166)); have n3_ := Aside0.mk ((by rw [hg]; exact (below_size (by repeat (first | (with_reducible first | exact HB.out | apply below_alloc | apply pw_below_drewN | apply below_drew1) | exact HB.out))) : w.heap.size ≤ gb166)); clear HB; have HB := n0_; have BK166 := n1_; have GW166 := n2_; have GE166 := n3_; clear n0_ n1_ n2_ n3_; clear hb hbox hg) | ((with_reducible refine gate_dst (N := 3) rfl ?_); refine box_event ?hg (N := 3) ?hd (cs := #[.int .i64 a1_0, .int .i64 a1_1, .string a1_2]) (t := 23) ?hr ?_; (case hd => rfl); (case hg => rfl); (case hr => first | (go_simp; done) | (go_simp; rfl)); intro gb167 hg w18 hbox hb; have n0_ := Aside0.mk (blk_below (g := gb166) (o := .cells #[.int .i64 a0_0, .int .i64 a0_1, .string a0_2] 23 (0, 0)) (by (with_reducible repeat (first | refine blk_drewN ?_ _ | refine blk_drew ?_ | refine blk_alloc ?_ _)); exact BK166.out) hb); have n1_ := Aside0.mk (below_step (by repeat (first | (with_reducible first | exact HB.out | apply below_alloc | apply pw_below_drewN | apply below_drew1 | refine below_set ?_ GE166.out) | exact HB.out)) hb); have n2_ := Aside0.mk (hbox); have n3_ := Aside0.mk ((by rw [hg]; exact (below_size (by repeat (first | (with_reducible first | exact HB.out | apply below_alloc | apply pw_below_drewN | apply below_drew1 | refine below_set ?_ GE166.out) | exact HB.out))) : w.heap.size ≤ gb167)); have n4_ := Aside0.mk ((by rw [hg]; exact (below_size (by repeat (first | (with_reducible first | exact HB.out | apply below_alloc | apply pw_below_drewN | apply below_drew1 | refine below_set ?_ GE166.out) | exact HB.out))) : w.heap.size ≤ gb167)); have n5_ := Aside0.mk ((by rw [hg]; exact Nat.ne_of_lt (blk_lt (g := gb166) (o := .cells #[.int .i64 a0_0, .int .i64 a0_1, .string a0_2] 23 (0, 0)) (by (with_reducible repeat (first | refine blk_drewN ?_ _ | refine blk_drew ?_ | refine blk_alloc ?_ _)); exact BK166.out)) : gb166 ≠ gb167)); have n6_ := Aside0.mk ((by rw [hg]; exact Nat.ne_of_gt (blk_lt (g := gb166) (o := .cells #[.int .i64 a0_0, .int .i64 a0_1, .string a0_2] 23 (0, 0)) (by (with_reducible repeat (first | refine blk_drewN ?_ _ | refine blk_drew ?_ | refine blk_alloc ?_ _)); exact BK166.out)) : gb167 ≠ gb166)); clear BK166; clear HB; have BK166 := n0_; have HB := n1_; have BK167 := n2_; have GW167 := n3_; have GE167 := n4_; have NB166_167 := n5_; have NB167_166 := n6_; clear n0_ n1_ n2_ n3_ n4_ n5_ n6_; clear hb hbox hg; have hnb19 := NB166_167.out; have hnc19 := NB167_166.out; have hcz20_0 : w18.cell? ⟨gb166, 0, none⟩ = some (.int .i64 a0_0) := (blk_cell BK166.out 0).trans rfl; have hcz20_1 : w18.cell? ⟨gb166, 1, none⟩ = some (.int .i64 a0_1) := (blk_cell BK166.out 1).trans rfl; have hcz20_2 : w18.cell? ⟨gb166, 2, none⟩ = some (.string a0_2) := (blk_cell BK166.out 2).trans rfl; have hfz20_0 := blk_frozen BK166.out 0; have hfz20_1 := blk_frozen BK166.out 1; have hfz20_2 := blk_frozen BK166.out 2; have hcz21_0 : w18.cell? ⟨gb167, 0, none⟩ = some (.int .i64 a1_0) := (blk_cell BK167.out 0).trans rfl; have hcz21_1 : w18.cell? ⟨gb167, 1, none⟩ = some (.int .i64 a1_1) := (blk_cell BK167.out 1).trans rfl; have hcz21_2 : w18.cell? ⟨gb167, 2, none⟩ = some (.string a1_2) := (blk_cell BK167.out 2).trans rfl; have hfz21_0 := blk_frozen BK167.out 0; have hfz21_1 := blk_frozen BK167.out 1; have hfz21_2 := blk_frozen BK167.out 2))
        go_ret
        exact ⟨by first | rfl | (simp [errW_none, errW_some] <;> rfl) | (simp [*, errW_none, errW_some] <;> rfl), by repeat (first | (with_reducible first | exact HB.out | apply below_alloc | apply pw_below_drewN | apply below_drew1 | refine below_set ?_ GE166.out | refine below_set ?_ GE167.out) | exact HB.out)⟩
  · rw [if_neg c3] at H
    have c3b0 : (a0_0 == a1_0) = false := beq_eq_false_iff_ne.mpr c3
    have c3b1 : (a0_0 != a1_0) = true := bne_iff_ne.mpr c3
    obtain rfl := Option.some.inj H
    go_enter Tryz.func45, Tryz.ntmps45
    go_wp2_with (first | ((with_reducible refine gate_dst (N := 2) rfl ?_); refine box_event ?hg (N := 2) ?hd (cs := #[.int .i64 a0_0, .int .i64 a0_1, .string a0_2]) (t := 23) ?hr ?_; (case hd => rfl); (case hg => rfl); (case hr => first | (go_simp; done) | (go_simp; rfl)); intro gb166 hg w22 hbox hb; have n0_ := Aside0.mk (below_step (by repeat (first | (with_reducible first | exact HB.out | apply below_alloc | apply pw_below_drewN | apply below_drew1) | exact HB.out)) hb); have n1_ := Aside0.mk (hbox); have n2_ := Aside0.mk ((by rw [hg]; exact (below_size (by repeat (first | (with_reducible first | exact HB.out | apply below_alloc | apply pw_below_drewN | apply below_drew1) | exact HB.out))) : w.heap.size ≤ gb166)); have n3_ := Aside0.mk ((by rw [hg]; exact (below_size (by repeat (first | (with_reducible first | exact HB.out | apply below_alloc | apply pw_below_drewN | apply below_drew1) | exact HB.out))) : w.heap.size ≤ gb166)); clear HB; have HB := n0_; have BK166 := n1_; have GW166 := n2_; have GE166 := n3_; clear n0_ n1_ n2_ n3_; clear hb hbox hg) | ((with_reducible refine gate_dst (N := 3) rfl ?_); refine box_event ?hg (N := 3) ?hd (cs := #[.int .i64 a1_0, .int .i64 a1_1, .string a1_2]) (t := 23) ?hr ?_; (case hd => rfl); (case hg => rfl); (case hr => first | (go_simp; done) | (go_simp; rfl)); intro gb167 hg w23 hbox hb; have n0_ := Aside0.mk (blk_below (g := gb166) (o := .cells #[.int .i64 a0_0, .int .i64 a0_1, .string a0_2] 23 (0, 0)) (by (with_reducible repeat (first | refine blk_drewN ?_ _ | refine blk_drew ?_ | refine blk_alloc ?_ _)); exact BK166.out) hb); have n1_ := Aside0.mk (below_step (by repeat (first | (with_reducible first | exact HB.out | apply below_alloc | apply pw_below_drewN | apply below_drew1 | refine below_set ?_ GE166.out) | exact HB.out)) hb); have n2_ := Aside0.mk (hbox); have n3_ := Aside0.mk ((by rw [hg]; exact (below_size (by repeat (first | (with_reducible first | exact HB.out | apply below_alloc | apply pw_below_drewN | apply below_drew1 | refine below_set ?_ GE166.out) | exact HB.out))) : w.heap.size ≤ gb167)); have n4_ := Aside0.mk ((by rw [hg]; exact (below_size (by repeat (first | (with_reducible first | exact HB.out | apply below_alloc | apply pw_below_drewN | apply below_drew1 | refine below_set ?_ GE166.out) | exact HB.out))) : w.heap.size ≤ gb167)); have n5_ := Aside0.mk ((by rw [hg]; exact Nat.ne_of_lt (blk_lt (g := gb166) (o := .cells #[.int .i64 a0_0, .int .i64 a0_1, .string a0_2] 23 (0, 0)) (by (with_reducible repeat (first | refine blk_drewN ?_ _ | refine blk_drew ?_ | refine blk_alloc ?_ _)); exact BK166.out)) : gb166 ≠ gb167)); have n6_ := Aside0.mk ((by rw [hg]; exact Nat.ne_of_gt (blk_lt (g := gb166) (o := .cells #[.int .i64 a0_0, .int .i64 a0_1, .string a0_2] 23 (0, 0)) (by (with_reducible repeat (first | refine blk_drewN ?_ _ | refine blk_drew ?_ | refine blk_alloc ?_ _)); exact BK166.out)) : gb167 ≠ gb166)); clear BK166; clear HB; have BK166 := n0_; have HB := n1_; have BK167 := n2_; have GW167 := n3_; have GE167 := n4_; have NB166_167 := n5_; have NB167_166 := n6_; clear n0_ n1_ n2_ n3_ n4_ n5_ n6_; clear hb hbox hg; have hnb24 := NB166_167.out; have hnc24 := NB167_166.out; have hcz25_0 : w23.cell? ⟨gb166, 0, none⟩ = some (.int .i64 a0_0) := (blk_cell BK166.out 0).trans rfl; have hcz25_1 : w23.cell? ⟨gb166, 1, none⟩ = some (.int .i64 a0_1) := (blk_cell BK166.out 1).trans rfl; have hcz25_2 : w23.cell? ⟨gb166, 2, none⟩ = some (.string a0_2) := (blk_cell BK166.out 2).trans rfl; have hfz25_0 := blk_frozen BK166.out 0; have hfz25_1 := blk_frozen BK166.out 1; have hfz25_2 := blk_frozen BK166.out 2; have hcz26_0 : w23.cell? ⟨gb167, 0, none⟩ = some (.int .i64 a1_0) := (blk_cell BK167.out 0).trans rfl; have hcz26_1 : w23.cell? ⟨gb167, 1, none⟩ = some (.int .i64 a1_1) := (blk_cell BK167.out 1).trans rfl; have hcz26_2 : w23.cell? ⟨gb167, 2, none⟩ = some (.string a1_2) := (blk_cell BK167.out 2).trans rfl; have hfz26_0 := blk_frozen BK167.out 0; have hfz26_1 := blk_frozen BK167.out 1; have hfz26_2 := blk_frozen BK167.out 2))
    go_ret
    exact ⟨by first | rfl | (simp [errW_none, errW_some] <;> rfl) | (simp [*, errW_none, errW_some] <;> rfl), by repeat (first | (with_reducible first | exact HB.out | apply below_alloc | apply pw_below_drewN | apply below_drew1 | refine below_set ?_ GE166.out | refine below_set ?_ GE167.out) | exact HB.out)⟩

/-! ### mortmainref03_Compare: function 14 -/
def mortmainref03_Compare.f (a0_0 : Int) (a0_1 : Int) (a0_2 : ByteArray) (a1_0 : Int) (a1_1 : Int) (a1_2 : ByteArray) : Option (Int) := (mortmainref03_Less.f a0_0 a0_1 a0_2 a1_0 a1_1 a1_2).bind fun t171 => (if t171 = true then (some (-1)) else ((mortmainref03_Less.f a1_0 a1_1 a1_2 a0_0 a0_1 a0_2).bind fun t172 => (if t172 = true then (some 1) else (some 0))))
set_option maxHeartbeats 8000000 in
set_option maxRecDepth 100000 in
theorem mortmainref03_Compare.calls (a0_0 : Int) (a0_1 : Int) (a0_2 : ByteArray) (a1_0 : Int) (a1_1 : Int) (a1_2 : ByteArray) (r : Int) (w : World) (h : mortmainref03_Compare.f a0_0 a0_1 a0_2 a1_0 a1_1 a1_2 = some r) :
    Calls Tryz.prog 14 #[.agg #[.int .i64 a0_0, .int .i64 a0_1, .string a0_2], .agg #[.int .i64 a1_0, .int .i64 a1_1, .string a1_2]] w fun e w' => e = .returned (.int .i64 r) ∧ Below w.heap.size w w' := by
  have hu23 := Tryz.underlying23
  have HB := Aside0.mk (Below.refl w.heap.size w)
  have H : ((mortmainref03_Less.f a0_0 a0_1 a0_2 a1_0 a1_1 a1_2).bind fun t171 => (if t171 = true then (some (-1)) else ((mortmainref03_Less.f a1_0 a1_1 a1_2 a0_0 a0_1 a0_2).bind fun t172 => (if t172 = true then (some 1) else (some 0))))) = some r := h
  clear h
  replace H := Option.bind_eq_some_iff.mp H
  obtain ⟨t171, A30, H⟩ := H
  replace H : (if t171 = true then (some (-1)) else ((mortmainref03_Less.f a1_0 a1_1 a1_2 a0_0 a0_1 a0_2).bind fun t172 => (if t172 = true then (some 1) else (some 0)))) = some r := H
  have A3 := Aside0.mk A30
  clear A30
  by_cases c4 : t171 = true
  · subst c4
    have H1 : (some (-1)) = some r := by rw [if_pos rfl] at H; exact H
    clear H
    have H := H1
    clear H1
    obtain rfl := Option.some.inj H
    go_enter Tryz.func14, Tryz.ntmps14
    go_wp2_with (first | ((with_reducible refine gate_dst (N := 2) rfl ?_); refine box_event ?hg (N := 2) ?hd (cs := #[.int .i64 a0_0, .int .i64 a0_1, .string a0_2]) (t := 23) ?hr ?_; (case hd => rfl); (case hg => rfl); (case hr => first | (go_simp; done) | (go_simp; rfl)); intro gb169 hg w5 hbox hb; have n0_ := Aside0.mk (below_step (by repeat (first | (with_reducible first | exact HB.out | apply below_alloc | apply pw_below_drewN | apply below_drew1) | exact HB.out)) hb); have n1_ := Aside0.mk (hbox); have n2_ := Aside0.mk ((by rw [hg]; exact (below_size (by repeat (first | (with_reducible first | exact HB.out | apply below_alloc | apply pw_below_drewN | apply below_drew1) | exact HB.out))) : w.heap.size ≤ gb169)); have n3_ := Aside0.mk ((by rw [hg]; exact (below_size (by repeat (first | (with_reducible first | exact HB.out | apply below_alloc | apply pw_below_drewN | apply below_drew1) | exact HB.out))) : w.heap.size ≤ gb169)); clear HB; have HB := n0_; have BK169 := n1_; have GW169 := n2_; have GE169 := n3_; clear n0_ n1_ n2_ n3_; clear hb hbox hg) | ((with_reducible refine gate_dst (N := 3) rfl ?_); refine box_event ?hg (N := 3) ?hd (cs := #[.int .i64 a1_0, .int .i64 a1_1, .string a1_2]) (t := 23) ?hr ?_; (case hd => rfl); (case hg => rfl); (case hr => first | (go_simp; done) | (go_simp; rfl)); intro gb170 hg w6 hbox hb; have n0_ := Aside0.mk (blk_below (g := gb169) (o := .cells #[.int .i64 a0_0, .int .i64 a0_1, .string a0_2] 23 (0, 0)) (by (with_reducible repeat (first | refine blk_drewN ?_ _ | refine blk_drew ?_ | refine blk_alloc ?_ _)); exact BK169.out) hb); have n1_ := Aside0.mk (below_step (by repeat (first | (with_reducible first | exact HB.out | apply below_alloc | apply pw_below_drewN | apply below_drew1 | refine below_set ?_ GE169.out) | exact HB.out)) hb); have n2_ := Aside0.mk (hbox); have n3_ := Aside0.mk ((by rw [hg]; exact (below_size (by repeat (first | (with_reducible first | exact HB.out | apply below_alloc | apply pw_below_drewN | apply below_drew1 | refine below_set ?_ GE169.out) | exact HB.out))) : w.heap.size ≤ gb170)); have n4_ := Aside0.mk ((by rw [hg]; exact (below_size (by repeat (first | (with_reducible first | exact HB.out | apply below_alloc | apply pw_below_drewN | apply below_drew1 | refine below_set ?_ GE169.out) | exact HB.out))) : w.heap.size ≤ gb170)); have n5_ := Aside0.mk ((by rw [hg]; exact Nat.ne_of_lt (blk_lt (g := gb169) (o := .cells #[.int .i64 a0_0, .int .i64 a0_1, .string a0_2] 23 (0, 0)) (by (with_reducible repeat (first | refine blk_drewN ?_ _ | refine blk_drew ?_ | refine blk_alloc ?_ _)); exact BK169.out)) : gb169 ≠ gb170)); have n6_ := Aside0.mk ((by rw [hg]; exact Nat.ne_of_gt (blk_lt (g := gb169) (o := .cells #[.int .i64 a0_0, .int .i64 a0_1, .string a0_2] 23 (0, 0)) (by (with_reducible repeat (first | refine blk_drewN ?_ _ | refine blk_drew ?_ | refine blk_alloc ?_ _)); exact BK169.out)) : gb170 ≠ gb169)); clear BK169; clear HB; have BK169 := n0_; have HB := n1_; have BK170 := n2_; have GW170 := n3_; have GE170 := n4_; have NB169_170 := n5_; have NB170_169 := n6_; clear n0_ n1_ n2_ n3_ n4_ n5_ n6_; clear hb hbox hg; have hnb7 := NB169_170.out; have hnc7 := NB170_169.out; have hcz8_0 : w6.cell? ⟨gb169, 0, none⟩ = some (.int .i64 a0_0) := (blk_cell BK169.out 0).trans rfl; have hcz8_1 : w6.cell? ⟨gb169, 1, none⟩ = some (.int .i64 a0_1) := (blk_cell BK169.out 1).trans rfl; have hcz8_2 : w6.cell? ⟨gb169, 2, none⟩ = some (.string a0_2) := (blk_cell BK169.out 2).trans rfl; have hfz8_0 := blk_frozen BK169.out 0; have hfz8_1 := blk_frozen BK169.out 1; have hfz8_2 := blk_frozen BK169.out 2; have hcz9_0 : w6.cell? ⟨gb170, 0, none⟩ = some (.int .i64 a1_0) := (blk_cell BK170.out 0).trans rfl; have hcz9_1 : w6.cell? ⟨gb170, 1, none⟩ = some (.int .i64 a1_1) := (blk_cell BK170.out 1).trans rfl; have hcz9_2 : w6.cell? ⟨gb170, 2, none⟩ = some (.string a1_2) := (blk_cell BK170.out 2).trans rfl; have hfz9_0 := blk_frozen BK170.out 0; have hfz9_1 := blk_frozen BK170.out 1; have hfz9_2 := blk_frozen BK170.out 2) | ((with_reducible refine gate_callee (f := 45) rfl ?_); refine goesL_ (some 7) rfl rfl Tryz.func45 (by kernel_rfl) rfl #[.agg #[.int .i64 a0_0, .int .i64 a0_1, .string a0_2], .agg #[.int .i64 a1_0, .int .i64 a1_1, .string a1_2]] rfl (by (try simp only [List.map_toArray, List.map_cons, List.map_nil]); first | done | rfl | (simp only [List.length_drop, List.length_take]; rfl)) ?_; (with_reducible refine (mortmainref03_Less.calls a0_0 a0_1 a0_2 a1_0 a1_1 a1_2 true _ A3.out).mono ?_); rintro e w10 ⟨rfl, hb⟩; refine ⟨_, rfl, ?_⟩; have n0_ := Aside0.mk (blk_below (g := gb169) (o := .cells #[.int .i64 a0_0, .int .i64 a0_1, .string a0_2] 23 (0, 0)) (by (with_reducible repeat (first | refine blk_drewN ?_ _ | refine blk_drew ?_ | refine blk_alloc ?_ _)); exact BK169.out) hb); have n1_ := Aside0.mk (blk_below (g := gb170) (o := .cells #[.int .i64 a1_0, .int .i64 a1_1, .string a1_2] 23 (0, 0)) (by (with_reducible repeat (first | refine blk_drewN ?_ _ | refine blk_drew ?_ | refine blk_alloc ?_ _)); exact BK170.out) hb); have n2_ := Aside0.mk (below_step (by repeat (first | (with_reducible first | exact HB.out | apply below_alloc | apply pw_below_drewN | apply below_drew1 | refine below_set ?_ GE169.out | refine below_set ?_ GE170.out) | exact HB.out)) hb); clear BK169; clear BK170; clear HB; have BK169 := n0_; have BK170 := n1_; have HB := n2_; clear n0_ n1_ n2_; (try clear hb); (try clear hb2); (try clear hk); (try clear hi)))
    go_ret
    exact ⟨by first | rfl | (simp [errW_none, errW_some] <;> rfl) | (simp [*, errW_none, errW_some] <;> rfl), by repeat (first | (with_reducible first | exact HB.out | apply below_alloc | apply pw_below_drewN | apply below_drew1 | refine below_set ?_ GE169.out | refine below_set ?_ GE170.out) | exact HB.out)⟩
  · replace c4 := Bool.eq_false_iff.mpr c4
    subst c4
    have H1 : ((mortmainref03_Less.f a1_0 a1_1 a1_2 a0_0 a0_1 a0_2).bind fun t172 => (if t172 = true then (some 1) else (some 0))) = some r := by rw [if_neg (show ¬ (false = true) by decide)] at H; exact H
    clear H
    have H := H1
    clear H1
    replace H := Option.bind_eq_some_iff.mp H
    obtain ⟨t172, A110, H⟩ := H
    replace H : (if t172 = true then (some 1) else (some 0)) = some r := H
    have A11 := Aside0.mk A110
    clear A110
    by_cases c12 : t172 = true
    · subst c12
      have H1 : (some 1) = some r := by rw [if_pos rfl] at H; exact H
      clear H
      have H := H1
      clear H1
      obtain rfl := Option.some.inj H
      go_enter Tryz.func14, Tryz.ntmps14
      go_wp2_with (first | ((with_reducible refine gate_dst (N := 2) rfl ?_); refine box_event ?hg (N := 2) ?hd (cs := #[.int .i64 a0_0, .int .i64 a0_1, .string a0_2]) (t := 23) ?hr ?_; (case hd => rfl); (case hg => rfl); (case hr => first | (go_simp; done) | (go_simp; rfl)); intro gb169 hg w13 hbox hb; have n0_ := Aside0.mk (below_step (by repeat (first | (with_reducible first | exact HB.out | apply below_alloc | apply pw_below_drewN | apply below_drew1) | exact HB.out)) hb); have n1_ := Aside0.mk (hbox); have n2_ := Aside0.mk ((by rw [hg]; exact (below_size (by repeat (first | (with_reducible first | exact HB.out | apply below_alloc | apply pw_below_drewN | apply below_drew1) | exact HB.out))) : w.heap.size ≤ gb169)); have n3_ := Aside0.mk ((by rw [hg]; exact (below_size (by repeat (first | (with_reducible first | exact HB.out | apply below_alloc | apply pw_below_drewN | apply below_drew1) | exact HB.out))) : w.heap.size ≤ gb169)); clear HB; have HB := n0_; have BK169 := n1_; have GW169 := n2_; have GE169 := n3_; clear n0_ n1_ n2_ n3_; clear hb hbox hg) | ((with_reducible refine gate_dst (N := 3) rfl ?_); refine box_event ?hg (N := 3) ?hd (cs := #[.int .i64 a1_0, .int .i64 a1_1, .string a1_2]) (t := 23) ?hr ?_; (case hd => rfl); (case hg => rfl); (case hr => first | (go_simp; done) | (go_simp; rfl)); intro gb170 hg w14 hbox hb; have n0_ := Aside0.mk (blk_below (g := gb169) (o := .cells #[.int .i64 a0_0, .int .i64 a0_1, .string a0_2] 23 (0, 0)) (by (with_reducible repeat (first | refine blk_drewN ?_ _ | refine blk_drew ?_ | refine blk_alloc ?_ _)); exact BK169.out) hb); have n1_ := Aside0.mk (below_step (by repeat (first | (with_reducible first | exact HB.out | apply below_alloc | apply pw_below_drewN | apply below_drew1 | refine below_set ?_ GE169.out) | exact HB.out)) hb); have n2_ := Aside0.mk (hbox); have n3_ := Aside0.mk ((by rw [hg]; exact (below_size (by repeat (first | (with_reducible first | exact HB.out | apply below_alloc | apply pw_below_drewN | apply below_drew1 | refine below_set ?_ GE169.out) | exact HB.out))) : w.heap.size ≤ gb170)); have n4_ := Aside0.mk ((by rw [hg]; exact (below_size (by repeat (first | (with_reducible first | exact HB.out | apply below_alloc | apply pw_below_drewN | apply below_drew1 | refine below_set ?_ GE169.out) | exact HB.out))) : w.heap.size ≤ gb170)); have n5_ := Aside0.mk ((by rw [hg]; exact Nat.ne_of_lt (blk_lt (g := gb169) (o := .cells #[.int .i64 a0_0, .int .i64 a0_1, .string a0_2] 23 (0, 0)) (by (with_reducible repeat (first | refine blk_drewN ?_ _ | refine blk_drew ?_ | refine blk_alloc ?_ _)); exact BK169.out)) : gb169 ≠ gb170)); have n6_ := Aside0.mk ((by rw [hg]; exact Nat.ne_of_gt (blk_lt (g := gb169) (o := .cells #[.int .i64 a0_0, .int .i64 a0_1, .string a0_2] 23 (0, 0)) (by (with_reducible repeat (first | refine blk_drewN ?_ _ | refine blk_drew ?_ | refine blk_alloc ?_ _)); exact BK169.out)) : gb170 ≠ gb169)); clear BK169; clear HB; have BK169 := n0_; have HB := n1_; have BK170 := n2_; have GW170 := n3_; have GE170 := n4_; have NB169_170 := n5_; have NB170_169 := n6_; clear n0_ n1_ n2_ n3_ n4_ n5_ n6_; clear hb hbox hg; have hnb15 := NB169_170.out; have hnc15 := NB170_169.out; have hcz16_0 : w14.cell? ⟨gb169, 0, none⟩ = some (.int .i64 a0_0) := (blk_cell BK169.out 0).trans rfl; have hcz16_1 : w14.cell? ⟨gb169, 1, none⟩ = some (.int .i64 a0_1) := (blk_cell BK169.out 1).trans rfl; have hcz16_2 : w14.cell? ⟨gb169, 2, none⟩ = some (.string a0_2) := (blk_cell BK169.out 2).trans rfl; have hfz16_0 := blk_frozen BK169.out 0; have hfz16_1 := blk_frozen BK169.out 1; have hfz16_2 := blk_frozen BK169.out 2; have hcz17_0 : w14.cell? ⟨gb170, 0, none⟩ = some (.int .i64 a1_0) := (blk_cell BK170.out 0).trans rfl; have hcz17_1 : w14.cell? ⟨gb170, 1, none⟩ = some (.int .i64 a1_1) := (blk_cell BK170.out 1).trans rfl; have hcz17_2 : w14.cell? ⟨gb170, 2, none⟩ = some (.string a1_2) := (blk_cell BK170.out 2).trans rfl; have hfz17_0 := blk_frozen BK170.out 0; have hfz17_1 := blk_frozen BK170.out 1; have hfz17_2 := blk_frozen BK170.out 2) | ((with_reducible refine gate_callee (f := 45) rfl ?_); refine goesL_ (some 7) rfl rfl Tryz.func45 (by kernel_rfl) rfl #[.agg #[.int .i64 a0_0, .int .i64 a0_1, .string a0_2], .agg #[.int .i64 a1_0, .int .i64 a1_1, .string a1_2]] rfl (by (try simp only [List.map_toArray, List.map_cons, List.map_nil]); first | done | rfl | (simp only [List.length_drop, List.length_take]; rfl)) ?_; (with_reducible refine (mortmainref03_Less.calls a0_0 a0_1 a0_2 a1_0 a1_1 a1_2 false _ A3.out).mono ?_); rintro e w18 ⟨rfl, hb⟩; refine ⟨_, rfl, ?_⟩; have n0_ := Aside0.mk (blk_below (g := gb169) (o := .cells #[.int .i64 a0_0, .int .i64 a0_1, .string a0_2] 23 (0, 0)) (by (with_reducible repeat (first | refine blk_drewN ?_ _ | refine blk_drew ?_ | refine blk_alloc ?_ _)); exact BK169.out) hb); have n1_ := Aside0.mk (blk_below (g := gb170) (o := .cells #[.int .i64 a1_0, .int .i64 a1_1, .string a1_2] 23 (0, 0)) (by (with_reducible repeat (first | refine blk_drewN ?_ _ | refine blk_drew ?_ | refine blk_alloc ?_ _)); exact BK170.out) hb); have n2_ := Aside0.mk (below_step (by repeat (first | (with_reducible first | exact HB.out | apply below_alloc | apply pw_below_drewN | apply below_drew1 | refine below_set ?_ GE169.out | refine below_set ?_ GE170.out) | exact HB.out)) hb); clear BK169; clear BK170; clear HB; have BK169 := n0_; have BK170 := n1_; have HB := n2_; clear n0_ n1_ n2_; (try clear hb); (try clear hb2); (try clear hk); (try clear hi); have hcz19_0 : w18.cell? ⟨gb170, 0, none⟩ = some (.int .i64 a1_0) := (blk_cell BK170.out 0).trans rfl; have hcz19_1 : w18.cell? ⟨gb170, 1, none⟩ = some (.int .i64 a1_1) := (blk_cell BK170.out 1).trans rfl; have hcz19_2 : w18.cell? ⟨gb170, 2, none⟩ = some (.string a1_2) := (blk_cell BK170.out 2).trans rfl; have hfz19_0 := blk_frozen BK170.out 0; have hfz19_1 := blk_frozen BK170.out 1; have hfz19_2 := blk_frozen BK170.out 2; have hcz20_0 : w18.cell? ⟨gb169, 0, none⟩ = some (.int .i64 a0_0) := (blk_cell BK169.out 0).trans rfl; have hcz20_1 : w18.cell? ⟨gb169, 1, none⟩ = some (.int .i64 a0_1) := (blk_cell BK169.out 1).trans rfl; have hcz20_2 : w18.cell? ⟨gb169, 2, none⟩ = some (.string a0_2) := (blk_cell BK169.out 2).trans rfl; have hfz20_0 := blk_frozen BK169.out 0; have hfz20_1 := blk_frozen BK169.out 1; have hfz20_2 := blk_frozen BK169.out 2) | ((with_reducible refine gate_callee (f := 45) rfl ?_); refine goesL_ (some 10) rfl rfl Tryz.func45 (by kernel_rfl) rfl #[.agg #[.int .i64 a1_0, .int .i64 a1_1, .string a1_2], .agg #[.int .i64 a0_0, .int .i64 a0_1, .string a0_2]] rfl (by (try simp only [List.map_toArray, List.map_cons, List.map_nil]); first | done | rfl | (simp only [List.length_drop, List.length_take]; rfl)) ?_; (with_reducible refine (mortmainref03_Less.calls a1_0 a1_1 a1_2 a0_0 a0_1 a0_2 true _ A11.out).mono ?_); rintro e w21 ⟨rfl, hb⟩; refine ⟨_, rfl, ?_⟩; have n0_ := Aside0.mk (blk_below (g := gb169) (o := .cells #[.int .i64 a0_0, .int .i64 a0_1, .string a0_2] 23 (0, 0)) (by (with_reducible repeat (first | refine blk_drewN ?_ _ | refine blk_drew ?_ | refine blk_alloc ?_ _)); exact BK169.out) hb); have n1_ := Aside0.mk (blk_below (g := gb170) (o := .cells #[.int .i64 a1_0, .int .i64 a1_1, .string a1_2] 23 (0, 0)) (by (with_reducible repeat (first | refine blk_drewN ?_ _ | refine blk_drew ?_ | refine blk_alloc ?_ _)); exact BK170.out) hb); have n2_ := Aside0.mk (below_step (by repeat (first | (with_reducible first | exact HB.out | apply below_alloc | apply pw_below_drewN | apply below_drew1 | refine below_set ?_ GE169.out | refine below_set ?_ GE170.out) | exact HB.out)) hb); clear BK169; clear BK170; clear HB; have BK169 := n0_; have BK170 := n1_; have HB := n2_; clear n0_ n1_ n2_; (try clear hb); (try clear hb2); (try clear hk); (try clear hi)))
      go_ret
      exact ⟨by first | rfl | (simp [errW_none, errW_some] <;> rfl) | (simp [*, errW_none, errW_some] <;> rfl), by repeat (first | (with_reducible first | exact HB.out | apply below_alloc | apply pw_below_drewN | apply below_drew1 | refine below_set ?_ GE169.out | refine below_set ?_ GE170.out) | exact HB.out)⟩
    · replace c12 := Bool.eq_false_iff.mpr c12
      subst c12
      have H1 : (some 0) = some r := by rw [if_neg (show ¬ (false = true) by decide)] at H; exact H
      clear H
      have H := H1
      clear H1
      obtain rfl := Option.some.inj H
      go_enter Tryz.func14, Tryz.ntmps14
      go_wp2_with (first | ((with_reducible refine gate_dst (N := 2) rfl ?_); refine box_event ?hg (N := 2) ?hd (cs := #[.int .i64 a0_0, .int .i64 a0_1, .string a0_2]) (t := 23) ?hr ?_; (case hd => rfl); (case hg => rfl); (case hr => first | (go_simp; done) | (go_simp; rfl)); intro gb169 hg w22 hbox hb; have n0_ := Aside0.mk (below_step (by repeat (first | (with_reducible first | exact HB.out | apply below_alloc | apply pw_below_drewN | apply below_drew1) | exact HB.out)) hb); have n1_ := Aside0.mk (hbox); have n2_ := Aside0.mk ((by rw [hg]; exact (below_size (by repeat (first | (with_reducible first | exact HB.out | apply below_alloc | apply pw_below_drewN | apply below_drew1) | exact HB.out))) : w.heap.size ≤ gb169)); have n3_ := Aside0.mk ((by rw [hg]; exact (below_size (by repeat (first | (with_reducible first | exact HB.out | apply below_alloc | apply pw_below_drewN | apply below_drew1) | exact HB.out))) : w.heap.size ≤ gb169)); clear HB; have HB := n0_; have BK169 := n1_; have GW169 := n2_; have GE169 := n3_; clear n0_ n1_ n2_ n3_; clear hb hbox hg) | ((with_reducible refine gate_dst (N := 3) rfl ?_); refine box_event ?hg (N := 3) ?hd (cs := #[.int .i64 a1_0, .int .i64 a1_1, .string a1_2]) (t := 23) ?hr ?_; (case hd => rfl); (case hg => rfl); (case hr => first | (go_simp; done) | (go_simp; rfl)); intro gb170 hg w23 hbox hb; have n0_ := Aside0.mk (blk_below (g := gb169) (o := .cells #[.int .i64 a0_0, .int .i64 a0_1, .string a0_2] 23 (0, 0)) (by (with_reducible repeat (first | refine blk_drewN ?_ _ | refine blk_drew ?_ | refine blk_alloc ?_ _)); exact BK169.out) hb); have n1_ := Aside0.mk (below_step (by repeat (first | (with_reducible first | exact HB.out | apply below_alloc | apply pw_below_drewN | apply below_drew1 | refine below_set ?_ GE169.out) | exact HB.out)) hb); have n2_ := Aside0.mk (hbox); have n3_ := Aside0.mk ((by rw [hg]; exact (below_size (by repeat (first | (with_reducible first | exact HB.out | apply below_alloc | apply pw_below_drewN | apply below_drew1 | refine below_set ?_ GE169.out) | exact HB.out))) : w.heap.size ≤ gb170)); have n4_ := Aside0.mk ((by rw [hg]; exact (below_size (by repeat (first | (with_reducible first | exact HB.out | apply below_alloc | apply pw_below_drewN | apply below_drew1 | refine below_set ?_ GE169.out) | exact HB.out))) : w.heap.size ≤ gb170)); have n5_ := Aside0.mk ((by rw [hg]; exact Nat.ne_of_lt (blk_lt (g := gb169) (o := .cells #[.int .i64 a0_0, .int .i64 a0_1, .string a0_2] 23 (0, 0)) (by (with_reducible repeat (first | refine blk_drewN ?_ _ | refine blk_drew ?_ | refine blk_alloc ?_ _)); exact BK169.out)) : gb169 ≠ gb170)); have n6_ := Aside0.mk ((by rw [hg]; exact Nat.ne_of_gt (blk_lt (g := gb169) (o := .cells #[.int .i64 a0_0, .int .i64 a0_1, .string a0_2] 23 (0, 0)) (by (with_reducible repeat (first | refine blk_drewN ?_ _ | refine blk_drew ?_ | refine blk_alloc ?_ _)); exact BK169.out)) : gb170 ≠ gb169)); clear BK169; clear HB; have BK169 := n0_; have HB := n1_; have BK170 := n2_; have GW170 := n3_; have GE170 := n4_; have NB169_170 := n5_; have NB170_169 := n6_; clear n0_ n1_ n2_ n3_ n4_ n5_ n6_; clear hb hbox hg; have hnb24 := NB169_170.out; have hnc24 := NB170_169.out; have hcz25_0 : w23.cell? ⟨gb169, 0, none⟩ = some (.int .i64 a0_0) := (blk_cell BK169.out 0).trans rfl; have hcz25_1 : w23.cell? ⟨gb169, 1, none⟩ = some (.int .i64 a0_1) := (blk_cell BK169.out 1).trans rfl; have hcz25_2 : w23.cell? ⟨gb169, 2, none⟩ = some (.string a0_2) := (blk_cell BK169.out 2).trans rfl; have hfz25_0 := blk_frozen BK169.out 0; have hfz25_1 := blk_frozen BK169.out 1; have hfz25_2 := blk_frozen BK169.out 2; have hcz26_0 : w23.cell? ⟨gb170, 0, none⟩ = some (.int .i64 a1_0) := (blk_cell BK170.out 0).trans rfl; have hcz26_1 : w23.cell? ⟨gb170, 1, none⟩ = some (.int .i64 a1_1) := (blk_cell BK170.out 1).trans rfl; have hcz26_2 : w23.cell? ⟨gb170, 2, none⟩ = some (.string a1_2) := (blk_cell BK170.out 2).trans rfl; have hfz26_0 := blk_frozen BK170.out 0; have hfz26_1 := blk_frozen BK170.out 1; have hfz26_2 := blk_frozen BK170.out 2) | ((with_reducible refine gate_callee (f := 45) rfl ?_); refine goesL_ (some 7) rfl rfl Tryz.func45 (by kernel_rfl) rfl #[.agg #[.int .i64 a0_0, .int .i64 a0_1, .string a0_2], .agg #[.int .i64 a1_0, .int .i64 a1_1, .string a1_2]] rfl (by (try simp only [List.map_toArray, List.map_cons, List.map_nil]); first | done | rfl | (simp only [List.length_drop, List.length_take]; rfl)) ?_; (with_reducible refine (mortmainref03_Less.calls a0_0 a0_1 a0_2 a1_0 a1_1 a1_2 false _ A3.out).mono ?_); rintro e w27 ⟨rfl, hb⟩; refine ⟨_, rfl, ?_⟩; have n0_ := Aside0.mk (blk_below (g := gb169) (o := .cells #[.int .i64 a0_0, .int .i64 a0_1, .string a0_2] 23 (0, 0)) (by (with_reducible repeat (first | refine blk_drewN ?_ _ | refine blk_drew ?_ | refine blk_alloc ?_ _)); exact BK169.out) hb); have n1_ := Aside0.mk (blk_below (g := gb170) (o := .cells #[.int .i64 a1_0, .int .i64 a1_1, .string a1_2] 23 (0, 0)) (by (with_reducible repeat (first | refine blk_drewN ?_ _ | refine blk_drew ?_ | refine blk_alloc ?_ _)); exact BK170.out) hb); have n2_ := Aside0.mk (below_step (by repeat (first | (with_reducible first | exact HB.out | apply below_alloc | apply pw_below_drewN | apply below_drew1 | refine below_set ?_ GE169.out | refine below_set ?_ GE170.out) | exact HB.out)) hb); clear BK169; clear BK170; clear HB; have BK169 := n0_; have BK170 := n1_; have HB := n2_; clear n0_ n1_ n2_; (try clear hb); (try clear hb2); (try clear hk); (try clear hi); have hcz28_0 : w27.cell? ⟨gb170, 0, none⟩ = some (.int .i64 a1_0) := (blk_cell BK170.out 0).trans rfl; have hcz28_1 : w27.cell? ⟨gb170, 1, none⟩ = some (.int .i64 a1_1) := (blk_cell BK170.out 1).trans rfl; have hcz28_2 : w27.cell? ⟨gb170, 2, none⟩ = some (.string a1_2) := (blk_cell BK170.out 2).trans rfl; have hfz28_0 := blk_frozen BK170.out 0; have hfz28_1 := blk_frozen BK170.out 1; have hfz28_2 := blk_frozen BK170.out 2; have hcz29_0 : w27.cell? ⟨gb169, 0, none⟩ = some (.int .i64 a0_0) := (blk_cell BK169.out 0).trans rfl; have hcz29_1 : w27.cell? ⟨gb169, 1, none⟩ = some (.int .i64 a0_1) := (blk_cell BK169.out 1).trans rfl; have hcz29_2 : w27.cell? ⟨gb169, 2, none⟩ = some (.string a0_2) := (blk_cell BK169.out 2).trans rfl; have hfz29_0 := blk_frozen BK169.out 0; have hfz29_1 := blk_frozen BK169.out 1; have hfz29_2 := blk_frozen BK169.out 2) | ((with_reducible refine gate_callee (f := 45) rfl ?_); refine goesL_ (some 10) rfl rfl Tryz.func45 (by kernel_rfl) rfl #[.agg #[.int .i64 a1_0, .int .i64 a1_1, .string a1_2], .agg #[.int .i64 a0_0, .int .i64 a0_1, .string a0_2]] rfl (by (try simp only [List.map_toArray, List.map_cons, List.map_nil]); first | done | rfl | (simp only [List.length_drop, List.length_take]; rfl)) ?_; (with_reducible refine (mortmainref03_Less.calls a1_0 a1_1 a1_2 a0_0 a0_1 a0_2 false _ A11.out).mono ?_); rintro e w30 ⟨rfl, hb⟩; refine ⟨_, rfl, ?_⟩; have n0_ := Aside0.mk (blk_below (g := gb169) (o := .cells #[.int .i64 a0_0, .int .i64 a0_1, .string a0_2] 23 (0, 0)) (by (with_reducible repeat (first | refine blk_drewN ?_ _ | refine blk_drew ?_ | refine blk_alloc ?_ _)); exact BK169.out) hb); have n1_ := Aside0.mk (blk_below (g := gb170) (o := .cells #[.int .i64 a1_0, .int .i64 a1_1, .string a1_2] 23 (0, 0)) (by (with_reducible repeat (first | refine blk_drewN ?_ _ | refine blk_drew ?_ | refine blk_alloc ?_ _)); exact BK170.out) hb); have n2_ := Aside0.mk (below_step (by repeat (first | (with_reducible first | exact HB.out | apply below_alloc | apply pw_below_drewN | apply below_drew1 | refine below_set ?_ GE169.out | refine below_set ?_ GE170.out) | exact HB.out)) hb); clear BK169; clear BK170; clear HB; have BK169 := n0_; have BK170 := n1_; have HB := n2_; clear n0_ n1_ n2_; (try clear hb); (try clear hb2); (try clear hk); (try clear hi)))
      go_ret
      exact ⟨by first | rfl | (simp [errW_none, errW_some] <;> rfl) | (simp [*, errW_none, errW_some] <;> rfl), by repeat (first | (with_reducible first | exact HB.out | apply below_alloc | apply pw_below_drewN | apply below_drew1 | refine below_set ?_ GE169.out | refine below_set ?_ GE170.out) | exact HB.out)⟩

end Go.Proofs.YtmaciepkkianhabGreatDoor.QVal

namespace Go.Proofs.YtmaciepkkianhabGreatDoor.QVal
open Go.Proofs.YtmaciepkkianhabGreatDoor.H
attribute [local go_sem] ite_signed_u64 ite_signed_u32
open Go.RowKit Go.Proofs.YtmaciepkkianhabGreatDoorW.PrintWords Go.Proofs.YtmaciepkkianhabGreatDoorW.PrintLast Go.Proofs.YtmaciepkkianhabGreatDoorW.PrintMore
attribute [local go_sem] max2_int min2_int max_two min_two max_three min_three max_four min_four   -- for this text's walks alone
set_option linter.unusedVariables false
set_option linter.unusedSimpArgs false

attribute [local go_sem high] eqA23
/-! ### mortmainlaw03_ValueKeys: function 3 -/
mutual
def mortmainlaw03_ValueKeys.j0 : Nat → ByteArray → ByteArray → Bool → Int → Int → ByteArray → Int → Int → ByteArray → Option (Bool)
  | 0, _, _, _, _, _, _, _, _, _ => none
  | k + 1, x5, x6, x27, x174000, x174001, x174002, x175000, x175001, x175002 => if x27 = true then (some false) else ((mortmainref03_Good.f x174000 x174001 x174002).bind fun t184 => (if t184 = true then ((mortmainref03_Good.f x175000 x175001 x175002).bind fun t185 => (if t185 = true then (mortmainlaw03_ValueKeys.j1 k x5 x6 (x174000 == x175000 && (x174001 == x175001 && (x174002.toList == x175002.toList))) x174000 x174001 x174002 x175000 x175001 x175002) else (mortmainlaw03_ValueKeys.j1 k x5 x6 true x174000 x174001 x174002 x175000 x175001 x175002))) else (mortmainlaw03_ValueKeys.j1 k x5 x6 true x174000 x174001 x174002 x175000 x175001 x175002)))
def mortmainlaw03_ValueKeys.j1 : Nat → ByteArray → ByteArray → Bool → Int → Int → ByteArray → Int → Int → ByteArray → Option (Bool)
  | 0, _, _, _, _, _, _, _, _, _ => none
  | k + 1, x5, x6, x40, x174000, x174001, x174002, x175000, x175001, x175002 => if x40 = true then (some true) else (if (x5.size : Int) ≤ (x6.size : Int) then (if 0 ≤ (x5.size : Int) then (if ((x6.extract 0 ((x5.size : Int) : Int).toNat).toList = x5.toList) then (some false) else ((mortmainref03_Compare.f x174000 x174001 x174002 x175000 x175001 x175002).bind fun t186 => (some ((Op.bytesLess x5.toList x6.toList) == (decide (t186 < 0)))))) else (none)) else ((mortmainref03_Compare.f x174000 x174001 x174002 x175000 x175001 x175002).bind fun t187 => (some ((Op.bytesLess x5.toList x6.toList) == (decide (t187 < 0))))))
end
def mortmainlaw03_ValueKeys.f (k : Nat) (a0_0 : Int) (a0_1 : Int) (a0_2 : ByteArray) (a1_0 : Int) (a1_1 : Int) (a1_2 : ByteArray) : Option (Bool) := (mortmainlaw03_alive.f k).bind fun t175 => (if t175 = true then ((mortmainlaw03_great.f k (([(⟨a0_0, a0_1, a0_2⟩ : S23), (⟨a1_0, a1_1, a1_2⟩ : S23)] : List (S23)))).bind fun t179 => (if t179 = true then (some true) else ((value_Key.f k a0_0 a0_1 a0_2).bind fun t180 => ((value_Key.f k a1_0 a1_1 a1_2).bind fun t181 => ((mortmainref03_Key.f k a0_0 a0_1 a0_2).bind fun t182 => (if t180.toList = t182.toList then ((mortmainref03_Key.f k a1_0 a1_1 a1_2).bind fun t183 => (mortmainlaw03_ValueKeys.j0 k t180 t181 (t181.toList != t183.toList) a0_0 a0_1 a0_2 a1_0 a1_1 a1_2)) else (mortmainlaw03_ValueKeys.j0 k t180 t181 true a0_0 a0_1 a0_2 a1_0 a1_1 a1_2))))))) else (some false))
set_option maxHeartbeats 8000000 in
set_option maxRecDepth 100000 in
theorem mortmainlaw03_ValueKeys.calls (k : Nat) (a0_0 : Int) (a0_1 : Int) (a0_2 : ByteArray) (a1_0 : Int) (a1_1 : Int) (a1_2 : ByteArray) (r : Bool) (w : World) (hT : Tabs w) (hr_ : Aside0 (r = true)) (h : mortmainlaw03_ValueKeys.f k a0_0 a0_1 a0_2 a1_0 a1_1 a1_2 = some r) :
    Calls Tryz.prog 3 #[.agg #[.int .i64 a0_0, .int .i64 a0_1, .string a0_2], .agg #[.int .i64 a1_0, .int .i64 a1_1, .string a1_2]] w fun e w' => e = .returned (.bool r) ∧ Below w.heap.size w w' := by
  have hu23 := Tryz.underlying23
  have HT := Aside0.mk hT
  clear hT
  have HB := Aside0.mk (Below.refl w.heap.size w)
  have H : ((mortmainlaw03_alive.f k).bind fun t175 => (if t175 = true then ((mortmainlaw03_great.f k (([(⟨a0_0, a0_1, a0_2⟩ : S23), (⟨a1_0, a1_1, a1_2⟩ : S23)] : List (S23)))).bind fun t179 => (if t179 = true then (some true) else ((value_Key.f k a0_0 a0_1 a0_2).bind fun t180 => ((value_Key.f k a1_0 a1_1 a1_2).bind fun t181 => ((mortmainref03_Key.f k a0_0 a0_1 a0_2).bind fun t182 => (if t180.toList = t182.toList then ((mortmainref03_Key.f k a1_0 a1_1 a1_2).bind fun t183 => (mortmainlaw03_ValueKeys.j0 k t180 t181 (t181.toList != t183.toList) a0_0 a0_1 a0_2 a1_0 a1_1 a1_2)) else (mortmainlaw03_ValueKeys.j0 k t180 t181 true a0_0 a0_1 a0_2 a1_0 a1_1 a1_2))))))) else (some false))) = some r := h
  clear h
  replace H := Option.bind_eq_some_iff.mp H
  obtain ⟨t175, A30, H⟩ := H
  replace H : (if t175 = true then ((mortmainlaw03_great.f k (([(⟨a0_0, a0_1, a0_2⟩ : S23), (⟨a1_0, a1_1, a1_2⟩ : S23)] : List (S23)))).bind fun t179 => (if t179 = true then (some true) else ((value_Key.f k a0_0 a0_1 a0_2).bind fun t180 => ((value_Key.f k a1_0 a1_1 a1_2).bind fun t181 => ((mortmainref03_Key.f k a0_0 a0_1 a0_2).bind fun t182 => (if t180.toList = t182.toList then ((mortmainref03_Key.f k a1_0 a1_1 a1_2).bind fun t183 => (mortmainlaw03_ValueKeys.j0 k t180 t181 (t181.toList != t183.toList) a0_0 a0_1 a0_2 a1_0 a1_1 a1_2)) else (mortmainlaw03_ValueKeys.j0 k t180 t181 true a0_0 a0_1 a0_2 a1_0 a1_1 a1_2))))))) else (some false)) = some r := H
  have A3 := Aside0.mk A30
  clear A30
  by_cases c4 : t175 = true
  · subst c4
    have H1 : ((mortmainlaw03_great.f k (([(⟨a0_0, a0_1, a0_2⟩ : S23), (⟨a1_0, a1_1, a1_2⟩ : S23)] : List (S23)))).bind fun t179 => (if t179 = true then (some true) else ((value_Key.f k a0_0 a0_1 a0_2).bind fun t180 => ((value_Key.f k a1_0 a1_1 a1_2).bind fun t181 => ((mortmainref03_Key.f k a0_0 a0_1 a0_2).bind fun t182 => (if t180.toList = t182.toList then ((mortmainref03_Key.f k a1_0 a1_1 a1_2).bind fun t183 => (mortmainlaw03_ValueKeys.j0 k t180 t181 (t181.toList != t183.toList) a0_0 a0_1 a0_2 a1_0 a1_1 a1_2)) else (mortmainlaw03_ValueKeys.j0 k t180 t181 true a0_0 a0_1 a0_2 a1_0 a1_1 a1_2))))))) = some r := by rw [if_pos rfl] at H; exact H
    clear H
    have H := H1
    clear H1
    obtain ⟨y176, hy176⟩ : ∃ y_ : List (S23), y_ = (([(⟨a0_0, a0_1, a0_2⟩ : S23), (⟨a1_0, a1_1, a1_2⟩ : S23)] : List (S23))) := ⟨_, rfl⟩
    replace H : ((mortmainlaw03_great.f k y176).bind fun t179 => (if t179 = true then (some true) else ((value_Key.f k a0_0 a0_1 a0_2).bind fun t180 => ((value_Key.f k a1_0 a1_1 a1_2).bind fun t181 => ((mortmainref03_Key.f k a0_0 a0_1 a0_2).bind fun t182 => (if t180.toList = t182.toList then ((mortmainref03_Key.f k a1_0 a1_1 a1_2).bind fun t183 => (mortmainlaw03_ValueKeys.j0 k t180 t181 (t181.toList != t183.toList) a0_0 a0_1 a0_2 a1_0 a1_1 a1_2)) else (mortmainlaw03_ValueKeys.j0 k t180 t181 true a0_0 a0_1 a0_2 a1_0 a1_1 a1_2))))))) = some r := by first | (rw [hy176]; with_reducible exact H) | (have H2_ := (Option.bind_some _ _).symm.trans H; rw [hy176]; with_reducible exact H2_) | (have H2_ := (Option.bind_some _ _).symm.trans H; with_reducible exact H2_) | with_reducible exact H | (rw [hy176]; exact H) | exact H
    have Ny176 := Aside0.mk hy176
    clear hy176
    replace H := Option.bind_eq_some_iff.mp H
    obtain ⟨t179, A50, H⟩ := H
    replace H : (if t179 = true then (some true) else ((value_Key.f k a0_0 a0_1 a0_2).bind fun t180 => ((value_Key.f k a1_0 a1_1 a1_2).bind fun t181 => ((mortmainref03_Key.f k a0_0 a0_1 a0_2).bind fun t182 => (if t180.toList = t182.toList then ((mortmainref03_Key.f k a1_0 a1_1 a1_2).bind fun t183 => (mortmainlaw03_ValueKeys.j0 k t180 t181 (t181.toList != t183.toList) a0_0 a0_1 a0_2 a1_0 a1_1 a1_2)) else (mortmainlaw03_ValueKeys.j0 k t180 t181 true a0_0 a0_1 a0_2 a1_0 a1_1 a1_2)))))) = some r := H
    have A5 := Aside0.mk A50
    clear A50
    by_cases c6 : t179 = true
    · subst c6
      have H1 : (some true) = some r := by rw [if_pos rfl] at H; exact H
      clear H
      have H := H1
      clear H1
      obtain rfl := Option.some.inj H
      go_enter Tryz.func3, Tryz.ntmps3
      go_wp2_with (first | ((with_reducible refine gate_dst (N := 2) rfl ?_); (try (refine gate_guard (by rfl) ?_; dsimp only)); refine box_event ?hg (N := 2) ?hd (cs := #[.int .i64 a0_0, .int .i64 a0_1, .string a0_2]) (t := 23) ?hr ?_; (case hd => rfl); (case hg => rfl); (case hr => first | (go_simp; done) | (go_simp; rfl)); intro gb173 hg w7 hbox hb; have n0_ := Aside0.mk (below_step (by repeat (first | (with_reducible first | exact HB.out | apply below_alloc | apply pw_below_drewN | apply below_drew1) | exact HB.out)) hb); have n1_ := Aside0.mk (hbox); have n2_ := Aside0.mk ((by rw [hg]; exact (below_size (by repeat (first | (with_reducible first | exact HB.out | apply below_alloc | apply pw_below_drewN | apply below_drew1) | exact HB.out))) : w.heap.size ≤ gb173)); have n3_ := Aside0.mk ((by rw [hg]; exact (below_size (by repeat (first | (with_reducible first | exact HB.out | apply below_alloc | apply pw_below_drewN | apply below_drew1) | exact HB.out))) : w.heap.size ≤ gb173)); clear HB; have HB := n0_; have BK173 := n1_; have GW173 := n2_; have GE173 := n3_; clear n0_ n1_ n2_ n3_; clear hb hbox hg) | ((with_reducible refine gate_dst (N := 3) rfl ?_); (try (refine gate_guard (by rfl) ?_; dsimp only)); refine box_event ?hg (N := 3) ?hd (cs := #[.int .i64 a1_0, .int .i64 a1_1, .string a1_2]) (t := 23) ?hr ?_; (case hd => rfl); (case hg => rfl); (case hr => first | (go_simp; done) | (go_simp; rfl)); intro gb174 hg w8 hbox hb; have n0_ := Aside0.mk (blk_below (g := gb173) (o := .cells #[.int .i64 a0_0, .int .i64 a0_1, .string a0_2] 23 (0, 0)) (by (with_reducible repeat (first | refine blk_drewN ?_ _ | refine blk_drew ?_ | refine blk_alloc ?_ _)); exact BK173.out) hb); have n1_ := Aside0.mk (below_step (by repeat (first | (with_reducible first | exact HB.out | apply below_alloc | apply pw_below_drewN | apply below_drew1 | refine below_set ?_ GE173.out) | exact HB.out)) hb); have n2_ := Aside0.mk (hbox); have n3_ := Aside0.mk ((by rw [hg]; exact (below_size (by repeat (first | (with_reducible first | exact HB.out | apply below_alloc | apply pw_below_drewN | apply below_drew1 | refine below_set ?_ GE173.out) | exact HB.out))) : w.heap.size ≤ gb174)); have n4_ := Aside0.mk ((by rw [hg]; exact (below_size (by repeat (first | (with_reducible first | exact HB.out | apply below_alloc | apply pw_below_drewN | apply below_drew1 | refine below_set ?_ GE173.out) | exact HB.out))) : w.heap.size ≤ gb174)); have n5_ := Aside0.mk ((by rw [hg]; exact Nat.ne_of_lt (blk_lt (g := gb173) (o := .cells #[.int .i64 a0_0, .int .i64 a0_1, .string a0_2] 23 (0, 0)) (by (with_reducible repeat (first | refine blk_drewN ?_ _ | refine blk_drew ?_ | refine blk_alloc ?_ _)); exact BK173.out)) : gb173 ≠ gb174)); have n6_ := Aside0.mk ((by rw [hg]; exact Nat.ne_of_gt (blk_lt (g := gb173) (o := .cells #[.int .i64 a0_0, .int .i64 a0_1, .string a0_2] 23 (0, 0)) (by (with_reducible repeat (first | refine blk_drewN ?_ _ | refine blk_drew ?_ | refine blk_alloc ?_ _)); exact BK173.out)) : gb174 ≠ gb173)); clear BK173; clear HB; have BK173 := n0_; have HB := n1_; have BK174 := n2_; have GW174 := n3_; have GE174 := n4_; have NB173_174 := n5_; have NB174_173 := n6_; clear n0_ n1_ n2_ n3_ n4_ n5_ n6_; clear hb hbox hg) | ((with_reducible refine gate_callee (f := 9) rfl ?_); refine goesL_ (some 8) rfl rfl Tryz.func9 (by kernel_rfl) rfl #[] rfl (by (try simp only [List.map_toArray, List.map_cons, List.map_nil]); first | done | rfl | (simp only [List.length_drop, List.length_take]; rfl)) ?_; (with_reducible refine (mortmainlaw03_alive.calls k  true _ ?side1 A3.out).mono ?_); (case side1 => first | (with_reducible exact HT.out) | (with_reducible exact Tabs.drewN HT.out _) | exact Tabs.below HT.out (by repeat (first | (with_reducible first | exact HB.out | apply below_alloc | apply pw_below_drewN | apply below_drew1 | refine below_set ?_ GE173.out | refine below_set ?_ GE174.out) | exact HB.out))); rintro e w9 ⟨rfl, hb⟩; refine ⟨_, rfl, ?_⟩; have n0_ := Aside0.mk (blk_below (g := gb173) (o := .cells #[.int .i64 a0_0, .int .i64 a0_1, .string a0_2] 23 (0, 0)) (by (with_reducible repeat (first | refine blk_drewN ?_ _ | refine blk_drew ?_ | refine blk_alloc ?_ _)); exact BK173.out) hb); have n1_ := Aside0.mk (blk_below (g := gb174) (o := .cells #[.int .i64 a1_0, .int .i64 a1_1, .string a1_2] 23 (0, 0)) (by (with_reducible repeat (first | refine blk_drewN ?_ _ | refine blk_drew ?_ | refine blk_alloc ?_ _)); exact BK174.out) hb); have n2_ := Aside0.mk (below_step (by repeat (first | (with_reducible first | exact HB.out | apply below_alloc | apply pw_below_drewN | apply below_drew1 | refine below_set ?_ GE173.out | refine below_set ?_ GE174.out) | exact HB.out)) hb); clear BK173; clear BK174; clear HB; have BK173 := n0_; have BK174 := n1_; have HB := n2_; clear n0_ n1_ n2_; (try clear hb); (try clear hb2); (try clear hk); (try clear hi); have hnb10 := NB173_174.out; have hnc10 := NB174_173.out; have hcz11_0 : w9.cell? ⟨gb173, 0, none⟩ = some (.int .i64 a0_0) := (blk_cell BK173.out 0).trans rfl; have hcz11_1 : w9.cell? ⟨gb173, 1, none⟩ = some (.int .i64 a0_1) := (blk_cell BK173.out 1).trans rfl; have hcz11_2 : w9.cell? ⟨gb173, 2, none⟩ = some (.string a0_2) := (blk_cell BK173.out 2).trans rfl; have hfz11_0 := blk_frozen BK173.out 0; have hfz11_1 := blk_frozen BK173.out 1; have hfz11_2 := blk_frozen BK173.out 2; have hcz12_0 : w9.cell? ⟨gb174, 0, none⟩ = some (.int .i64 a1_0) := (blk_cell BK174.out 0).trans rfl; have hcz12_1 : w9.cell? ⟨gb174, 1, none⟩ = some (.int .i64 a1_1) := (blk_cell BK174.out 1).trans rfl; have hcz12_2 : w9.cell? ⟨gb174, 2, none⟩ = some (.string a1_2) := (blk_cell BK174.out 2).trans rfl; have hfz12_0 := blk_frozen BK174.out 0; have hfz12_1 := blk_frozen BK174.out 1; have hfz12_2 := blk_frozen BK174.out 2) | ((with_reducible refine gate_dst (N := 12) rfl ?_); (try (refine gate_guard (by rfl) ?_; dsimp only)); refine Kd.R_lit k23 _ 23 ?hg (N := 12) ?hd (xs := ([(⟨a0_0, a0_1, a0_2⟩ : S23), (⟨a1_0, a1_1, a1_2⟩ : S23)] : List (S23))) (inner := [.int .i64 a0_0, .int .i64 a0_1, .string a0_2, .int .i64 a1_0, .int .i64 a1_1, .string a1_2]) (ok := fun _ => True) (okp := fun _ => True) ?hr ?hp (fun _ hk => hk) trivial (Below.refl _ _) (Nat.le_refl _) (by simp) ?_; (case hd => rfl); (case hg => rfl); (case hr => first | (go_simp; done) | (go_simp; rfl)); (case hp => exact (Reps.c3 (show Kd.M k23 _ _ _ (⟨a0_0, a0_1, a0_2⟩ : S23) [.int .i64 a0_0, .int .i64 a0_1, .string a0_2] from (k23_mkM _ _ _ (⟨a0_0, a0_1, a0_2⟩ : S23) )) (Reps.c3 (show Kd.M k23 _ _ _ (⟨a1_0, a1_1, a1_2⟩ : S23) [.int .i64 a1_0, .int .i64 a1_1, .string a1_2] from (k23_mkM _ _ _ (⟨a1_0, a1_1, a1_2⟩ : S23) )) (Reps.none _ _)))); intro v177 w13 ho14 hb hg_ hnew_; clear hg_ hnew_; (first | rw [← Ny176.out] at ho14 | (simp only [Int.reduceToNat] at ho14; rw [← Ny176.out] at ho14)); have n0_ := Aside0.mk (Kd.R_lower (Kd.R_newB (Kd.R_newB ho14 (g := gb173) (o := .cells #[.int .i64 a0_0, .int .i64 a0_1, .string a0_2] 23 (0, 0)) (by (with_reducible repeat (first | refine blk_drewN ?_ _ | refine blk_drew ?_ | refine blk_alloc ?_ _)); exact BK173.out)) (g := gb174) (o := .cells #[.int .i64 a1_0, .int .i64 a1_1, .string a1_2] 23 (0, 0)) (by (with_reducible repeat (first | refine blk_drewN ?_ _ | refine blk_drew ?_ | refine blk_alloc ?_ _)); exact BK174.out)) (below_size (by repeat (first | (with_reducible first | exact HB.out | apply below_alloc | apply pw_below_drewN | apply below_drew1 | refine below_set ?_ GE173.out | refine below_set ?_ GE174.out) | exact HB.out)))); have n1_ := Aside0.mk (blk_below (g := gb173) (o := .cells #[.int .i64 a0_0, .int .i64 a0_1, .string a0_2] 23 (0, 0)) (by (with_reducible repeat (first | refine blk_drewN ?_ _ | refine blk_drew ?_ | refine blk_alloc ?_ _)); exact BK173.out) hb); have n2_ := Aside0.mk (blk_below (g := gb174) (o := .cells #[.int .i64 a1_0, .int .i64 a1_1, .string a1_2] 23 (0, 0)) (by (with_reducible repeat (first | refine blk_drewN ?_ _ | refine blk_drew ?_ | refine blk_alloc ?_ _)); exact BK174.out) hb); have n3_ := Aside0.mk (below_step (by repeat (first | (with_reducible first | exact HB.out | apply below_alloc | apply pw_below_drewN | apply below_drew1 | refine below_set ?_ GE173.out | refine below_set ?_ GE174.out) | exact HB.out)) hb); clear BK173; clear BK174; clear HB; have HO178 := n0_; have BK173 := n1_; have BK174 := n2_; have HB := n3_; clear n0_ n1_ n2_ n3_; clear hb ho14; obtain ⟨Ao15, co15, eo15⟩ := Kd.R_slice HO178.out; subst eo15) | ((with_reducible refine gate_callee (f := 10) rfl ?_); refine goesL_ (some 13) rfl rfl Tryz.func10 (by kernel_rfl) rfl #[.slice Ao15 y176.length co15] rfl (by (try simp only [List.map_toArray, List.map_cons, List.map_nil]); first | done | rfl | (simp only [List.length_drop, List.length_take]; rfl)) ?_; (with_reducible refine (mortmainlaw03_great.calls k _ _ y176 true _ ?side1 ?side2 A5.out).mono ?_); (case side1 => repeat (first | exact (Kd.R_reads' HO178.out).2.2 | (with_reducible refine Kd.C_alloc ?_ _) | (with_reducible refine Kd.C_drewN ?_ _) | (with_reducible refine Kd.C_drew ?_))); (case side2 => exact (Kd.R_reads' HO178.out).2.1); rintro e w16 ⟨rfl, hb⟩; refine ⟨_, rfl, ?_⟩; have n0_ := Aside0.mk (Kd.R_below (by (with_reducible repeat (first | apply Kd.R_alloc | apply Kd.R_drewN | apply Kd.R_drew)); exact HO178.out) hb); have n1_ := Aside0.mk (blk_below (g := gb173) (o := .cells #[.int .i64 a0_0, .int .i64 a0_1, .string a0_2] 23 (0, 0)) (by (with_reducible repeat (first | refine blk_drewN ?_ _ | refine blk_drew ?_ | refine blk_alloc ?_ _)); exact BK173.out) hb); have n2_ := Aside0.mk (blk_below (g := gb174) (o := .cells #[.int .i64 a1_0, .int .i64 a1_1, .string a1_2] 23 (0, 0)) (by (with_reducible repeat (first | refine blk_drewN ?_ _ | refine blk_drew ?_ | refine blk_alloc ?_ _)); exact BK174.out) hb); have n3_ := Aside0.mk (below_step (by repeat (first | (with_reducible first | exact HB.out | apply below_alloc | apply pw_below_drewN | apply below_drew1 | refine below_set ?_ GE173.out | refine below_set ?_ GE174.out) | exact HB.out)) hb); clear HO178; clear BK173; clear BK174; clear HB; have HO178 := n0_; have BK173 := n1_; have BK174 := n2_; have HB := n3_; clear n0_ n1_ n2_ n3_; (try clear hb); (try clear hb2); (try clear hk); (try clear hi)))
      go_ret
      exact ⟨by first | rfl | (simp [errW_none, errW_some] <;> rfl) | (simp [*, errW_none, errW_some] <;> rfl), by repeat (first | (with_reducible first | exact HB.out | apply below_alloc | apply pw_below_drewN | apply below_drew1 | refine below_set ?_ GE173.out | refine below_set ?_ GE174.out) | exact HB.out)⟩
    · replace c6 := Bool.eq_false_iff.mpr c6
      subst c6
      have H1 : ((value_Key.f k a0_0 a0_1 a0_2).bind fun t180 => ((value_Key.f k a1_0 a1_1 a1_2).bind fun t181 => ((mortmainref03_Key.f k a0_0 a0_1 a0_2).bind fun t182 => (if t180.toList = t182.toList then ((mortmainref03_Key.f k a1_0 a1_1 a1_2).bind fun t183 => (mortmainlaw03_ValueKeys.j0 k t180 t181 (t181.toList != t183.toList) a0_0 a0_1 a0_2 a1_0 a1_1 a1_2)) else (mortmainlaw03_ValueKeys.j0 k t180 t181 true a0_0 a0_1 a0_2 a1_0 a1_1 a1_2))))) = some r := by rw [if_neg (show ¬ (false = true) by decide)] at H; exact H
      clear H
      have H := H1
      clear H1
      replace H := Option.bind_eq_some_iff.mp H
      obtain ⟨t180, A170, H⟩ := H
      replace H : ((value_Key.f k a1_0 a1_1 a1_2).bind fun t181 => ((mortmainref03_Key.f k a0_0 a0_1 a0_2).bind fun t182 => (if t180.toList = t182.toList then ((mortmainref03_Key.f k a1_0 a1_1 a1_2).bind fun t183 => (mortmainlaw03_ValueKeys.j0 k t180 t181 (t181.toList != t183.toList) a0_0 a0_1 a0_2 a1_0 a1_1 a1_2)) else (mortmainlaw03_ValueKeys.j0 k t180 t181 true a0_0 a0_1 a0_2 a1_0 a1_1 a1_2)))) = some r := H
      have A17 := Aside0.mk A170
      clear A170
      replace H := Option.bind_eq_some_iff.mp H
      obtain ⟨t181, A180, H⟩ := H
      replace H : ((mortmainref03_Key.f k a0_0 a0_1 a0_2).bind fun t182 => (if t180.toList = t182.toList then ((mortmainref03_Key.f k a1_0 a1_1 a1_2).bind fun t183 => (mortmainlaw03_ValueKeys.j0 k t180 t181 (t181.toList != t183.toList) a0_0 a0_1 a0_2 a1_0 a1_1 a1_2)) else (mortmainlaw03_ValueKeys.j0 k t180 t181 true a0_0 a0_1 a0_2 a1_0 a1_1 a1_2))) = some r := H
      have A18 := Aside0.mk A180
      clear A180
      have HC19 := Aside0.mk H
      clear H
      go_enter Tryz.func3, Tryz.ntmps3
      try go_wp2_with (first | ((with_reducible refine gate_dst (N := 2) rfl ?_); (try (refine gate_guard (by rfl) ?_; dsimp only)); refine box_event ?hg (N := 2) ?hd (cs := #[.int .i64 a0_0, .int .i64 a0_1, .string a0_2]) (t := 23) ?hr ?_; (case hd => rfl); (case hg => rfl); (case hr => first | (go_simp; done) | (go_simp; rfl)); intro gb173 hg w20 hbox hb; have n0_ := Aside0.mk (below_step (by repeat (first | (with_reducible first | exact HB.out | apply below_alloc | apply pw_below_drewN | apply below_drew1) | exact HB.out)) hb); have n1_ := Aside0.mk (hbox); have n2_ := Aside0.mk ((by rw [hg]; exact (below_size (by repeat (first | (with_reducible first | exact HB.out | apply below_alloc | apply pw_below_drewN | apply below_drew1) | exact HB.out))) : w.heap.size ≤ gb173)); have n3_ := Aside0.mk ((by rw [hg]; exact (below_size (by repeat (first | (with_reducible first | exact HB.out | apply below_alloc | apply pw_below_drewN | apply below_drew1) | exact HB.out))) : w.heap.size ≤ gb173)); clear HB; have HB := n0_; have BK173 := n1_; have GW173 := n2_; have GE173 := n3_; clear n0_ n1_ n2_ n3_; clear hb hbox hg) | ((with_reducible refine gate_dst (N := 3) rfl ?_); (try (refine gate_guard (by rfl) ?_; dsimp only)); refine box_event ?hg (N := 3) ?hd (cs := #[.int .i64 a1_0, .int .i64 a1_1, .string a1_2]) (t := 23) ?hr ?_; (case hd => rfl); (case hg => rfl); (case hr => first | (go_simp; done) | (go_simp; rfl)); intro gb174 hg w21 hbox hb; have n0_ := Aside0.mk (blk_below (g := gb173) (o := .cells #[.int .i64 a0_0, .int .i64 a0_1, .string a0_2] 23 (0, 0)) (by (with_reducible repeat (first | refine blk_drewN ?_ _ | refine blk_drew ?_ | refine blk_alloc ?_ _)); exact BK173.out) hb); have n1_ := Aside0.mk (below_step (by repeat (first | (with_reducible first | exact HB.out | apply below_alloc | apply pw_below_drewN | apply below_drew1 | refine below_set ?_ GE173.out) | exact HB.out)) hb); have n2_ := Aside0.mk (hbox); have n3_ := Aside0.mk ((by rw [hg]; exact (below_size (by repeat (first | (with_reducible first | exact HB.out | apply below_alloc | apply pw_below_drewN | apply below_drew1 | refine below_set ?_ GE173.out) | exact HB.out))) : w.heap.size ≤ gb174)); have n4_ := Aside0.mk ((by rw [hg]; exact (below_size (by repeat (first | (with_reducible first | exact HB.out | apply below_alloc | apply pw_below_drewN | apply below_drew1 | refine below_set ?_ GE173.out) | exact HB.out))) : w.heap.size ≤ gb174)); have n5_ := Aside0.mk ((by rw [hg]; exact Nat.ne_of_lt (blk_lt (g := gb173) (o := .cells #[.int .i64 a0_0, .int .i64 a0_1, .string a0_2] 23 (0, 0)) (by (with_reducible repeat (first | refine blk_drewN ?_ _ | refine blk_drew ?_ | refine blk_alloc ?_ _)); exact BK173.out)) : gb173 ≠ gb174)); have n6_ := Aside0.mk ((by rw [hg]; exact Nat.ne_of_gt (blk_lt (g := gb173) (o := .cells #[.int .i64 a0_0, .int .i64 a0_1, .string a0_2] 23 (0, 0)) (by (with_reducible repeat (first | refine blk_drewN ?_ _ | refine blk_drew ?_ | refine blk_alloc ?_ _)); exact BK173.out)) : gb174 ≠ gb173)); clear BK173; clear HB; have BK173 := n0_; have HB := n1_; have BK174 := n2_; have GW174 := n3_; have GE174 := n4_; have NB173_174 := n5_; have NB174_173 := n6_; clear n0_ n1_ n2_ n3_ n4_ n5_ n6_; clear hb hbox hg) | ((with_reducible refine gate_callee (f := 9) rfl ?_); refine goesL_ (some 8) rfl rfl Tryz.func9 (by kernel_rfl) rfl #[] rfl (by (try simp only [List.map_toArray, List.map_cons, List.map_nil]); first | done | rfl | (simp only [List.length_drop, List.length_take]; rfl)) ?_; (with_reducible refine (mortmainlaw03_alive.calls k  true _ ?side1 A3.out).mono ?_); (case side1 => first | (with_reducible exact HT.out) | (with_reducible exact Tabs.drewN HT.out _) | exact Tabs.below HT.out (by repeat (first | (with_reducible first | exact HB.out | apply below_alloc | apply pw_below_drewN | apply below_drew1 | refine below_set ?_ GE173.out | refine below_set ?_ GE174.out) | exact HB.out))); rintro e w22 ⟨rfl, hb⟩; refine ⟨_, rfl, ?_⟩; have n0_ := Aside0.mk (blk_below (g := gb173) (o := .cells #[.int .i64 a0_0, .int .i64 a0_1, .string a0_2] 23 (0, 0)) (by (with_reducible repeat (first | refine blk_drewN ?_ _ | refine blk_drew ?_ | refine blk_alloc ?_ _)); exact BK173.out) hb); have n1_ := Aside0.mk (blk_below (g := gb174) (o := .cells #[.int .i64 a1_0, .int .i64 a1_1, .string a1_2] 23 (0, 0)) (by (with_reducible repeat (first | refine blk_drewN ?_ _ | refine blk_drew ?_ | refine blk_alloc ?_ _)); exact BK174.out) hb); have n2_ := Aside0.mk (below_step (by repeat (first | (with_reducible first | exact HB.out | apply below_alloc | apply pw_below_drewN | apply below_drew1 | refine below_set ?_ GE173.out | refine below_set ?_ GE174.out) | exact HB.out)) hb); clear BK173; clear BK174; clear HB; have BK173 := n0_; have BK174 := n1_; have HB := n2_; clear n0_ n1_ n2_; (try clear hb); (try clear hb2); (try clear hk); (try clear hi); have hnb23 := NB173_174.out; have hnc23 := NB174_173.out; have hcz24_0 : w22.cell? ⟨gb173, 0, none⟩ = some (.int .i64 a0_0) := (blk_cell BK173.out 0).trans rfl; have hcz24_1 : w22.cell? ⟨gb173, 1, none⟩ = some (.int .i64 a0_1) := (blk_cell BK173.out 1).trans rfl; have hcz24_2 : w22.cell? ⟨gb173, 2, none⟩ = some (.string a0_2) := (blk_cell BK173.out 2).trans rfl; have hfz24_0 := blk_frozen BK173.out 0; have hfz24_1 := blk_frozen BK173.out 1; have hfz24_2 := blk_frozen BK173.out 2; have hcz25_0 : w22.cell? ⟨gb174, 0, none⟩ = some (.int .i64 a1_0) := (blk_cell BK174.out 0).trans rfl; have hcz25_1 : w22.cell? ⟨gb174, 1, none⟩ = some (.int .i64 a1_1) := (blk_cell BK174.out 1).trans rfl; have hcz25_2 : w22.cell? ⟨gb174, 2, none⟩ = some (.string a1_2) := (blk_cell BK174.out 2).trans rfl; have hfz25_0 := blk_frozen BK174.out 0; have hfz25_1 := blk_frozen BK174.out 1; have hfz25_2 := blk_frozen BK174.out 2) | ((with_reducible refine gate_dst (N := 12) rfl ?_); (try (refine gate_guard (by rfl) ?_; dsimp only)); refine Kd.R_lit k23 _ 23 ?hg (N := 12) ?hd (xs := ([(⟨a0_0, a0_1, a0_2⟩ : S23), (⟨a1_0, a1_1, a1_2⟩ : S23)] : List (S23))) (inner := [.int .i64 a0_0, .int .i64 a0_1, .string a0_2, .int .i64 a1_0, .int .i64 a1_1, .string a1_2]) (ok := fun _ => True) (okp := fun _ => True) ?hr ?hp (fun _ hk => hk) trivial (Below.refl _ _) (Nat.le_refl _) (by simp) ?_; (case hd => rfl); (case hg => rfl); (case hr => first | (go_simp; done) | (go_simp; rfl)); (case hp => exact (Reps.c3 (show Kd.M k23 _ _ _ (⟨a0_0, a0_1, a0_2⟩ : S23) [.int .i64 a0_0, .int .i64 a0_1, .string a0_2] from (k23_mkM _ _ _ (⟨a0_0, a0_1, a0_2⟩ : S23) )) (Reps.c3 (show Kd.M k23 _ _ _ (⟨a1_0, a1_1, a1_2⟩ : S23) [.int .i64 a1_0, .int .i64 a1_1, .string a1_2] from (k23_mkM _ _ _ (⟨a1_0, a1_1, a1_2⟩ : S23) )) (Reps.none _ _)))); intro v177 w26 ho27 hb hg_ hnew_; clear hg_ hnew_; (first | rw [← Ny176.out] at ho27 | (simp only [Int.reduceToNat] at ho27; rw [← Ny176.out] at ho27)); have n0_ := Aside0.mk (Kd.R_lower (Kd.R_newB (Kd.R_newB ho27 (g := gb173) (o := .cells #[.int .i64 a0_0, .int .i64 a0_1, .string a0_2] 23 (0, 0)) (by (with_reducible repeat (first | refine blk_drewN ?_ _ | refine blk_drew ?_ | refine blk_alloc ?_ _)); exact BK173.out)) (g := gb174) (o := .cells #[.int .i64 a1_0, .int .i64 a1_1, .string a1_2] 23 (0, 0)) (by (with_reducible repeat (first | refine blk_drewN ?_ _ | refine blk_drew ?_ | refine blk_alloc ?_ _)); exact BK174.out)) (below_size (by repeat (first | (with_reducible first | exact HB.out | apply below_alloc | apply pw_below_drewN | apply below_drew1 | refine below_set ?_ GE173.out | refine below_set ?_ GE174.out) | exact HB.out)))); have n1_ := Aside0.mk (blk_below (g := gb173) (o := .cells #[.int .i64 a0_0, .int .i64 a0_1, .string a0_2] 23 (0, 0)) (by (with_reducible repeat (first | refine blk_drewN ?_ _ | refine blk_drew ?_ | refine blk_alloc ?_ _)); exact BK173.out) hb); have n2_ := Aside0.mk (blk_below (g := gb174) (o := .cells #[.int .i64 a1_0, .int .i64 a1_1, .string a1_2] 23 (0, 0)) (by (with_reducible repeat (first | refine blk_drewN ?_ _ | refine blk_drew ?_ | refine blk_alloc ?_ _)); exact BK174.out) hb); have n3_ := Aside0.mk (below_step (by repeat (first | (with_reducible first | exact HB.out | apply below_alloc | apply pw_below_drewN | apply below_drew1 | refine below_set ?_ GE173.out | refine below_set ?_ GE174.out) | exact HB.out)) hb); clear BK173; clear BK174; clear HB; have HO178 := n0_; have BK173 := n1_; have BK174 := n2_; have HB := n3_; clear n0_ n1_ n2_ n3_; clear hb ho27; obtain ⟨Ao28, co28, eo28⟩ := Kd.R_slice HO178.out; subst eo28) | ((with_reducible refine gate_callee (f := 10) rfl ?_); refine goesL_ (some 13) rfl rfl Tryz.func10 (by kernel_rfl) rfl #[.slice Ao28 y176.length co28] rfl (by (try simp only [List.map_toArray, List.map_cons, List.map_nil]); first | done | rfl | (simp only [List.length_drop, List.length_take]; rfl)) ?_; (with_reducible refine (mortmainlaw03_great.calls k _ _ y176 false _ ?side1 ?side2 A5.out).mono ?_); (case side1 => repeat (first | exact (Kd.R_reads' HO178.out).2.2 | (with_reducible refine Kd.C_alloc ?_ _) | (with_reducible refine Kd.C_drewN ?_ _) | (with_reducible refine Kd.C_drew ?_))); (case side2 => exact (Kd.R_reads' HO178.out).2.1); rintro e w29 ⟨rfl, hb⟩; refine ⟨_, rfl, ?_⟩; have n0_ := Aside0.mk (Kd.R_below (by (with_reducible repeat (first | apply Kd.R_alloc | apply Kd.R_drewN | apply Kd.R_drew)); exact HO178.out) hb); have n1_ := Aside0.mk (blk_below (g := gb173) (o := .cells #[.int .i64 a0_0, .int .i64 a0_1, .string a0_2] 23 (0, 0)) (by (with_reducible repeat (first | refine blk_drewN ?_ _ | refine blk_drew ?_ | refine blk_alloc ?_ _)); exact BK173.out) hb); have n2_ := Aside0.mk (blk_below (g := gb174) (o := .cells #[.int .i64 a1_0, .int .i64 a1_1, .string a1_2] 23 (0, 0)) (by (with_reducible repeat (first | refine blk_drewN ?_ _ | refine blk_drew ?_ | refine blk_alloc ?_ _)); exact BK174.out) hb); have n3_ := Aside0.mk (below_step (by repeat (first | (with_reducible first | exact HB.out | apply below_alloc | apply pw_below_drewN | apply below_drew1 | refine below_set ?_ GE173.out | refine below_set ?_ GE174.out) | exact HB.out)) hb); clear HO178; clear BK173; clear BK174; clear HB; have HO178 := n0_; have BK173 := n1_; have BK174 := n2_; have HB := n3_; clear n0_ n1_ n2_ n3_; (try clear hb); (try clear hb2); (try clear hk); (try clear hi)))
      have n0_ := Aside0.mk (Kd.R_drew HO178.out)
      have n1_ := Aside0.mk (blk_drew BK173.out)
      have n2_ := Aside0.mk (blk_drew BK174.out)
      have n3_ := Aside0.mk (below_drew1 HB.out)
      clear HO178
      clear BK173
      clear BK174
      clear HB
      have HO178 := n0_
      have BK173 := n1_
      have BK174 := n2_
      have HB := n3_
      clear n0_ n1_ n2_ n3_
      refine start_ (n := 6) (S := fun w' => w'.cell? ⟨gb173, 0, none⟩ = some (.int .i64 a0_0) ∧ w'.cell? ⟨gb173, 1, none⟩ = some (.int .i64 a0_1) ∧ w'.cell? ⟨gb173, 2, none⟩ = some (.string a0_2) ∧ w'.cell? ⟨gb174, 0, none⟩ = some (.int .i64 a1_0) ∧ w'.cell? ⟨gb174, 1, none⟩ = some (.int .i64 a1_1) ∧ w'.cell? ⟨gb174, 2, none⟩ = some (.string a1_2)) (ds := []) #[false, false, false, false, false, false] (by kernel_rfl) rfl rfl ⟨(blk_cell BK173.out 0).trans rfl, (blk_cell BK173.out 1).trans rfl, (blk_cell BK173.out 2).trans rfl, (blk_cell BK174.out 0).trans rfl, (blk_cell BK174.out 1).trans rfl, (blk_cell BK174.out 2).trans rfl⟩ (fun hHeld => ?_)
      generalize w29.drew = w30 at HO178 BK173 BK174 HB hHeld ⊢
      refine take_ (i := 0) (N := some 14) (v := ?_) (a' := ?_) #[true, false, false, false, false, false] rfl rfl (by kernel_rfl) (fun _ _ _ h => h) (Or.inl ⟨by rfl, ?_⟩) hHeld ?_ ?_
      rotate_left
      · rintro w' ⟨s0, s1, s2, s3, s4, s5⟩
        go_simp
        with_reducible rfl
      rotate_left
      · simp only [Act.put, List.setIfInBounds_toArray, List.set_cons_zero, List.set_cons_succ, i64_w, i32_w]
        rfl
      refine take_ (i := 2) (N := some 16) (v := ?_) (a' := ?_) #[true, false, true, false, false, false] rfl rfl (by kernel_rfl) (fun _ _ _ h => h) (Or.inl ⟨by rfl, ?_⟩) hHeld ?_ ?_
      rotate_left
      · rintro w' ⟨s0, s1, s2, s3, s4, s5⟩
        go_simp
        with_reducible rfl
      rotate_left
      · simp only [Act.put, List.setIfInBounds_toArray, List.set_cons_zero, List.set_cons_succ, i64_w, i32_w]
        rfl
      refine one_ (i := 1) (N := some 15) #[true, true, true, false, false, false] rfl rfl (by kernel_rfl) (by decide) (fun K hK => ?_)
      refine goes_ Tryz.func11 (by kernel_rfl) rfl #[.agg #[.int .i64 a0_0, .int .i64 a0_1, .string a0_2]] (by rfl) rfl rfl (by (try simp only [List.map_toArray, List.map_cons, List.map_nil]); first | done | rfl | (simp only [List.length_drop, List.length_take]; rfl)) ?_
      with_reducible refine (value_Key.calls k a0_0 a0_1 a0_2 t180 _ ?side1 A17.out).mono ?_
      (case side1 => first | (with_reducible exact HT.out) | (with_reducible exact Tabs.drewN HT.out _) | exact Tabs.below HT.out (by repeat (first | (with_reducible first | exact HB.out | apply below_alloc | apply pw_below_drewN | apply below_drew1 | refine below_set ?_ GE173.out | refine below_set ?_ GE174.out) | exact HB.out)))
      rintro e w31 ⟨rfl, hb⟩
      refine ⟨_, rfl, ?_⟩
      have n0_ := Aside0.mk (Kd.R_below (by (with_reducible repeat (first | apply Kd.R_alloc | apply Kd.R_drewN | apply Kd.R_drew)); exact HO178.out) hb)
      have n1_ := Aside0.mk (blk_below (g := gb173) (o := .cells #[.int .i64 a0_0, .int .i64 a0_1, .string a0_2] 23 (0, 0)) (by (with_reducible repeat (first | refine blk_drewN ?_ _ | refine blk_drew ?_ | refine blk_alloc ?_ _)); exact BK173.out) hb)
      have n2_ := Aside0.mk (blk_below (g := gb174) (o := .cells #[.int .i64 a1_0, .int .i64 a1_1, .string a1_2] 23 (0, 0)) (by (with_reducible repeat (first | refine blk_drewN ?_ _ | refine blk_drew ?_ | refine blk_alloc ?_ _)); exact BK174.out) hb)
      have n3_ := Aside0.mk (below_step (by repeat (first | (with_reducible first | exact HB.out | apply below_alloc | apply pw_below_drewN | apply below_drew1 | refine below_set ?_ GE173.out | refine below_set ?_ GE174.out) | exact HB.out)) hb)
      clear HO178
      clear BK173
      clear BK174
      clear HB
      have HO178 := n0_
      have BK173 := n1_
      have BK174 := n2_
      have HB := n3_
      clear n0_ n1_ n2_ n3_
      (try clear hb)
      (try clear hb2)
      (try clear hk)
      (try clear hi)
      refine hK.out _ _ ⟨(blk_cell BK173.out 0).trans rfl, (blk_cell BK173.out 1).trans rfl, (blk_cell BK173.out 2).trans rfl, (blk_cell BK174.out 0).trans rfl, (blk_cell BK174.out 1).trans rfl, (blk_cell BK174.out 2).trans rfl⟩ (fun hHeld => ?_)
      clear hK K
      refine norm_ (a' := ?_) ?_ ?_
      rotate_left
      · show Act.put _ (some 15) _ = _
        simp only [Act.put, List.setIfInBounds_toArray, List.set_cons_zero, List.set_cons_succ, i64_w, i32_w]
        rfl
      refine one_ (i := 3) (N := some 17) #[true, true, true, true, false, false] rfl rfl (by kernel_rfl) (by decide) (fun K hK => ?_)
      refine goes_ Tryz.func11 (by kernel_rfl) rfl #[.agg #[.int .i64 a1_0, .int .i64 a1_1, .string a1_2]] (by rfl) rfl rfl (by (try simp only [List.map_toArray, List.map_cons, List.map_nil]); first | done | rfl | (simp only [List.length_drop, List.length_take]; rfl)) ?_
      with_reducible refine (value_Key.calls k a1_0 a1_1 a1_2 t181 _ ?side1 A18.out).mono ?_
      (case side1 => first | (with_reducible exact HT.out) | (with_reducible exact Tabs.drewN HT.out _) | exact Tabs.below HT.out (by repeat (first | (with_reducible first | exact HB.out | apply below_alloc | apply pw_below_drewN | apply below_drew1 | refine below_set ?_ GE173.out | refine below_set ?_ GE174.out) | exact HB.out)))
      rintro e w32 ⟨rfl, hb⟩
      refine ⟨_, rfl, ?_⟩
      have n0_ := Aside0.mk (Kd.R_below (by (with_reducible repeat (first | apply Kd.R_alloc | apply Kd.R_drewN | apply Kd.R_drew)); exact HO178.out) hb)
      have n1_ := Aside0.mk (blk_below (g := gb173) (o := .cells #[.int .i64 a0_0, .int .i64 a0_1, .string a0_2] 23 (0, 0)) (by (with_reducible repeat (first | refine blk_drewN ?_ _ | refine blk_drew ?_ | refine blk_alloc ?_ _)); exact BK173.out) hb)
      have n2_ := Aside0.mk (blk_below (g := gb174) (o := .cells #[.int .i64 a1_0, .int .i64 a1_1, .string a1_2] 23 (0, 0)) (by (with_reducible repeat (first | refine blk_drewN ?_ _ | refine blk_drew ?_ | refine blk_alloc ?_ _)); exact BK174.out) hb)
      have n3_ := Aside0.mk (below_step (by repeat (first | (with_reducible first | exact HB.out | apply below_alloc | apply pw_below_drewN | apply below_drew1 | refine below_set ?_ GE173.out | refine below_set ?_ GE174.out) | exact HB.out)) hb)
      clear HO178
      clear BK173
      clear BK174
      clear HB
      have HO178 := n0_
      have BK173 := n1_
      have BK174 := n2_
      have HB := n3_
      clear n0_ n1_ n2_ n3_
      (try clear hb)
      (try clear hb2)
      (try clear hk)
      (try clear hi)
      refine hK.out _ _ ⟨(blk_cell BK173.out 0).trans rfl, (blk_cell BK173.out 1).trans rfl, (blk_cell BK173.out 2).trans rfl, (blk_cell BK174.out 0).trans rfl, (blk_cell BK174.out 1).trans rfl, (blk_cell BK174.out 2).trans rfl⟩ (fun hHeld => ?_)
      clear hK K
      refine norm_ (a' := ?_) ?_ ?_
      rotate_left
      · show Act.put _ (some 17) _ = _
        simp only [Act.put, List.setIfInBounds_toArray, List.set_cons_zero, List.set_cons_succ, i64_w, i32_w]
        rfl
      refine pure_ (i := 4) (N := some 5) (v := ?_) (a' := ?_) #[true, true, true, true, true, false] rfl rfl (by kernel_rfl) (fun _ _ _ h => h) (Or.inl ⟨by rfl, ?_⟩) ?_ ?_
      rotate_left
      · intro w'
        go_simp
        with_reducible rfl
      rotate_left
      · simp only [Act.put, List.setIfInBounds_toArray, List.set_cons_zero, List.set_cons_succ, i64_w, i32_w]
        rfl
      refine pure_ (i := 5) (N := some 6) (v := ?_) (a' := ?_) #[true, true, true, true, true, true] rfl rfl (by kernel_rfl) (fun _ _ _ h => h) (Or.inl ⟨by rfl, ?_⟩) ?_ ?_
      rotate_left
      · intro w'
        go_simp
        with_reducible rfl
      rotate_left
      · simp only [Act.put, List.setIfInBounds_toArray, List.set_cons_zero, List.set_cons_succ, i64_w, i32_w]
        rfl
      refine done_ (by kernel_rfl) ?_
      go_upto_region 6 with (fail)
      go_cut [27] (fun v27 wc => ∃ (kq : Nat) (x27_18 : Bool), v27 = .bool x27_18 ∧ Aside0 (mortmainlaw03_ValueKeys.j0 kq t180 t181 x27_18 a0_0 a0_1 a0_2 a1_0 a1_1 a1_2 = some r) ∧ Aside0 (kq ≤ k) ∧ Aside0 (wc.heap[gb173]? = some (.cells #[.int .i64 a0_0, .int .i64 a0_1, .string a0_2] 23 (0, 0))) ∧ Aside0 (wc.heap[gb174]? = some (.cells #[.int .i64 a1_0, .int .i64 a1_1, .string a1_2] 23 (0, 0))) ∧ Aside0 (Below w.heap.size w wc))
      case first =>
        have H := HC19.out
        clear HC19
        replace H := Option.bind_eq_some_iff.mp H
        obtain ⟨t182, A330, H⟩ := H
        replace H : (if t180.toList = t182.toList then ((mortmainref03_Key.f k a1_0 a1_1 a1_2).bind fun t183 => (mortmainlaw03_ValueKeys.j0 k t180 t181 (t181.toList != t183.toList) a0_0 a0_1 a0_2 a1_0 a1_1 a1_2)) else (mortmainlaw03_ValueKeys.j0 k t180 t181 true a0_0 a0_1 a0_2 a1_0 a1_1 a1_2)) = some r := H
        have A33 := Aside0.mk A330
        clear A330
        by_cases c34 : t180.toList = t182.toList
        · rw [if_pos c34] at H
          have c34b0 : (t180.toList == t182.toList) = true := beq_iff_eq.mpr c34
          have c34b1 : (t180.toList != t182.toList) = false := bne_eq_false_iff_eq.mpr c34
          clear c34
          (first | rw [c34b0] | (simp only [i64_w, i32_w]; rw [c34b0]) | skip)
          replace H := Option.bind_eq_some_iff.mp H
          obtain ⟨t183, A350, H⟩ := H
          replace H : (mortmainlaw03_ValueKeys.j0 k t180 t181 (t181.toList != t183.toList) a0_0 a0_1 a0_2 a1_0 a1_1 a1_2) = some r := H
          have A35 := Aside0.mk A350
          clear A350
          have H' := Aside0.mk H
          clear H
          have hnb36 := NB173_174.out
          have hnc36 := NB174_173.out
          have hcz37_0 : w32.cell? ⟨gb173, 0, none⟩ = some (.int .i64 a0_0) := (blk_cell BK173.out 0).trans rfl
          have hcz37_1 : w32.cell? ⟨gb173, 1, none⟩ = some (.int .i64 a0_1) := (blk_cell BK173.out 1).trans rfl
          have hcz37_2 : w32.cell? ⟨gb173, 2, none⟩ = some (.string a0_2) := (blk_cell BK173.out 2).trans rfl
          have hfz37_0 := blk_frozen BK173.out 0
          have hfz37_1 := blk_frozen BK173.out 1
          have hfz37_2 := blk_frozen BK173.out 2
          go_wp2_with (first | ((with_reducible refine gate_callee (f := 12) rfl ?_); refine goesL_ (some 20) rfl rfl Tryz.func12 (by kernel_rfl) rfl #[.agg #[.int .i64 a0_0, .int .i64 a0_1, .string a0_2]] rfl (by (try simp only [List.map_toArray, List.map_cons, List.map_nil]); first | done | rfl | (simp only [List.length_drop, List.length_take]; rfl)) ?_; (with_reducible refine (mortmainref03_Key.calls k a0_0 a0_1 a0_2 t182 _ A33.out).mono ?_); rintro e w38 ⟨rfl, hb⟩; refine ⟨_, rfl, ?_⟩; have n0_ := Aside0.mk (Kd.R_below (by (with_reducible repeat (first | apply Kd.R_alloc | apply Kd.R_drewN | apply Kd.R_drew)); exact HO178.out) hb); have n1_ := Aside0.mk (blk_below (g := gb173) (o := .cells #[.int .i64 a0_0, .int .i64 a0_1, .string a0_2] 23 (0, 0)) (by (with_reducible repeat (first | refine blk_drewN ?_ _ | refine blk_drew ?_ | refine blk_alloc ?_ _)); exact BK173.out) hb); have n2_ := Aside0.mk (blk_below (g := gb174) (o := .cells #[.int .i64 a1_0, .int .i64 a1_1, .string a1_2] 23 (0, 0)) (by (with_reducible repeat (first | refine blk_drewN ?_ _ | refine blk_drew ?_ | refine blk_alloc ?_ _)); exact BK174.out) hb); have n3_ := Aside0.mk (below_step (by repeat (first | (with_reducible first | exact HB.out | apply below_alloc | apply pw_below_drewN | apply below_drew1 | refine below_set ?_ GE173.out | refine below_set ?_ GE174.out) | exact HB.out)) hb); clear HO178; clear BK173; clear BK174; clear HB; have HO178 := n0_; have BK173 := n1_; have BK174 := n2_; have HB := n3_; clear n0_ n1_ n2_ n3_; (try clear hb); (try clear hb2); (try clear hk); (try clear hi); have hcz39_0 : w38.cell? ⟨gb174, 0, none⟩ = some (.int .i64 a1_0) := (blk_cell BK174.out 0).trans rfl; have hcz39_1 : w38.cell? ⟨gb174, 1, none⟩ = some (.int .i64 a1_1) := (blk_cell BK174.out 1).trans rfl; have hcz39_2 : w38.cell? ⟨gb174, 2, none⟩ = some (.string a1_2) := (blk_cell BK174.out 2).trans rfl; have hfz39_0 := blk_frozen BK174.out 0; have hfz39_1 := blk_frozen BK174.out 1; have hfz39_2 := blk_frozen BK174.out 2) | (go_at_call 12; (with_reducible refine (mortmainref03_Key.calls k a1_0 a1_1 a1_2 t183 _ A35.out).mono ?_); rintro e w40 ⟨rfl, hb⟩; have n0_ := Aside0.mk (Kd.R_below (by (with_reducible repeat (first | apply Kd.R_alloc | apply Kd.R_drewN | apply Kd.R_drew)); exact HO178.out) hb); have n1_ := Aside0.mk (blk_below (g := gb173) (o := .cells #[.int .i64 a0_0, .int .i64 a0_1, .string a0_2] 23 (0, 0)) (by (with_reducible repeat (first | refine blk_drewN ?_ _ | refine blk_drew ?_ | refine blk_alloc ?_ _)); exact BK173.out) hb); have n2_ := Aside0.mk (blk_below (g := gb174) (o := .cells #[.int .i64 a1_0, .int .i64 a1_1, .string a1_2] 23 (0, 0)) (by (with_reducible repeat (first | refine blk_drewN ?_ _ | refine blk_drew ?_ | refine blk_alloc ?_ _)); exact BK174.out) hb); have n3_ := Aside0.mk (below_step (by repeat (first | (with_reducible first | exact HB.out | apply below_alloc | apply pw_below_drewN | apply below_drew1 | refine below_set ?_ GE173.out | refine below_set ?_ GE174.out) | exact HB.out)) hb); clear HO178; clear BK173; clear BK174; clear HB; have HO178 := n0_; have BK173 := n1_; have BK174 := n2_; have HB := n3_; clear n0_ n1_ n2_ n3_; (try clear hb); (try clear hb2); (try clear hk); (try clear hi)))
          go_meet
          case rel => exact ⟨_, ((t181.toList != t183.toList)), (by first | rfl | (simp; done) | (simp [*]; done) | (generalize ByteArray.toList _ = l_; cases l_ <;> rfl)), H', ⟨by first | omega | exact Nat.le_refl _⟩, ⟨by (with_reducible repeat (first | refine blk_drewN ?_ _ | refine blk_drew ?_ | refine blk_alloc ?_ _)); exact BK173.out⟩, ⟨by (with_reducible repeat (first | refine blk_drewN ?_ _ | refine blk_drew ?_ | refine blk_alloc ?_ _)); exact BK174.out⟩, ⟨by repeat (first | (with_reducible first | exact HB.out | apply below_alloc | apply pw_below_drewN | apply below_drew1 | refine below_set ?_ GE173.out | refine below_set ?_ GE174.out) | exact HB.out)⟩⟩
        · rw [if_neg c34] at H
          have c34b0 : (t180.toList == t182.toList) = false := beq_eq_false_iff_ne.mpr c34
          have c34b1 : (t180.toList != t182.toList) = true := bne_iff_ne.mpr c34
          (first | rw [c34b0] | (simp only [i64_w, i32_w]; rw [c34b0]) | skip)
          have H' := Aside0.mk H
          clear H
          have hnb41 := NB173_174.out
          have hnc41 := NB174_173.out
          have hcz42_0 : w32.cell? ⟨gb173, 0, none⟩ = some (.int .i64 a0_0) := (blk_cell BK173.out 0).trans rfl
          have hcz42_1 : w32.cell? ⟨gb173, 1, none⟩ = some (.int .i64 a0_1) := (blk_cell BK173.out 1).trans rfl
          have hcz42_2 : w32.cell? ⟨gb173, 2, none⟩ = some (.string a0_2) := (blk_cell BK173.out 2).trans rfl
          have hfz42_0 := blk_frozen BK173.out 0
          have hfz42_1 := blk_frozen BK173.out 1
          have hfz42_2 := blk_frozen BK173.out 2
          go_wp2_with (first | ((with_reducible refine gate_callee (f := 12) rfl ?_); refine goesL_ (some 20) rfl rfl Tryz.func12 (by kernel_rfl) rfl #[.agg #[.int .i64 a0_0, .int .i64 a0_1, .string a0_2]] rfl (by (try simp only [List.map_toArray, List.map_cons, List.map_nil]); first | done | rfl | (simp only [List.length_drop, List.length_take]; rfl)) ?_; (with_reducible refine (mortmainref03_Key.calls k a0_0 a0_1 a0_2 t182 _ A33.out).mono ?_); rintro e w43 ⟨rfl, hb⟩; refine ⟨_, rfl, ?_⟩; have n0_ := Aside0.mk (Kd.R_below (by (with_reducible repeat (first | apply Kd.R_alloc | apply Kd.R_drewN | apply Kd.R_drew)); exact HO178.out) hb); have n1_ := Aside0.mk (blk_below (g := gb173) (o := .cells #[.int .i64 a0_0, .int .i64 a0_1, .string a0_2] 23 (0, 0)) (by (with_reducible repeat (first | refine blk_drewN ?_ _ | refine blk_drew ?_ | refine blk_alloc ?_ _)); exact BK173.out) hb); have n2_ := Aside0.mk (blk_below (g := gb174) (o := .cells #[.int .i64 a1_0, .int .i64 a1_1, .string a1_2] 23 (0, 0)) (by (with_reducible repeat (first | refine blk_drewN ?_ _ | refine blk_drew ?_ | refine blk_alloc ?_ _)); exact BK174.out) hb); have n3_ := Aside0.mk (below_step (by repeat (first | (with_reducible first | exact HB.out | apply below_alloc | apply pw_below_drewN | apply below_drew1 | refine below_set ?_ GE173.out | refine below_set ?_ GE174.out) | exact HB.out)) hb); clear HO178; clear BK173; clear BK174; clear HB; have HO178 := n0_; have BK173 := n1_; have BK174 := n2_; have HB := n3_; clear n0_ n1_ n2_ n3_; (try clear hb); (try clear hb2); (try clear hk); (try clear hi)))
          go_meet
          case rel => exact ⟨_, (true), (by first | rfl | (simp; done) | (simp [*]; done) | (generalize ByteArray.toList _ = l_; cases l_ <;> rfl)), H', ⟨by first | omega | exact Nat.le_refl _⟩, ⟨by (with_reducible repeat (first | refine blk_drewN ?_ _ | refine blk_drew ?_ | refine blk_alloc ?_ _)); exact BK173.out⟩, ⟨by (with_reducible repeat (first | refine blk_drewN ?_ _ | refine blk_drew ?_ | refine blk_alloc ?_ _)); exact BK174.out⟩, ⟨by repeat (first | (with_reducible first | exact HB.out | apply below_alloc | apply pw_below_drewN | apply below_drew1 | refine below_set ?_ GE173.out | refine below_set ?_ GE174.out) | exact HB.out)⟩⟩
      case rest =>
        clear HC19
        try clear c1
        try clear c2
        try clear p2
        try clear c3
        try clear c4
        try clear c6
        try clear c9
        try clear c10
        try clear c11
        try clear c12
        try clear c23
        try clear c34
        try clear c34b0
        try clear c34b1
        try clear c36
        try clear c41
        try clear hcz11_0
        try clear hcz11_1
        try clear hcz11_2
        try clear hcz12_0
        try clear hcz12_1
        try clear hcz12_2
        try clear hcz24_0
        try clear hcz24_1
        try clear hcz24_2
        try clear hcz25_0
        try clear hcz25_1
        try clear hcz25_2
        try clear hcz37_0
        try clear hcz37_1
        try clear hcz37_2
        try clear hcz39_0
        try clear hcz39_1
        try clear hcz39_2
        try clear hcz42_0
        try clear hcz42_1
        try clear hcz42_2
        try clear hfz11_0
        try clear hfz11_1
        try clear hfz11_2
        try clear hfz12_0
        try clear hfz12_1
        try clear hfz12_2
        try clear hfz24_0
        try clear hfz24_1
        try clear hfz24_2
        try clear hfz25_0
        try clear hfz25_1
        try clear hfz25_2
        try clear hfz37_0
        try clear hfz37_1
        try clear hfz37_2
        try clear hfz39_0
        try clear hfz39_1
        try clear hfz39_2
        try clear hfz42_0
        try clear hfz42_1
        try clear hfz42_2
        obtain ⟨kq, x27_18, rfl, HA, HJ18, BK173, BK174, HB⟩ := hcut
        cases kq with
        | zero => exact absurd HA.out (by simp [mortmainlaw03_ValueKeys.j0])
        | succ kj18 =>
          have H := HA.out
          clear HA
          simp only [mortmainlaw03_ValueKeys.j0] at H
          by_cases c44 : x27_18 = true
          · subst c44
            have H1 : (some false) = some r := by rw [if_pos rfl] at H; exact H
            clear H
            have H := H1
            clear H1
            obtain rfl := Option.some.inj H
            cases hr_.out
          · replace c44 := Bool.eq_false_iff.mpr c44
            subst c44
            have H1 : ((mortmainref03_Good.f a0_0 a0_1 a0_2).bind fun t184 => (if t184 = true then ((mortmainref03_Good.f a1_0 a1_1 a1_2).bind fun t185 => (if t185 = true then (mortmainlaw03_ValueKeys.j1 kj18 t180 t181 (a0_0 == a1_0 && (a0_1 == a1_1 && (a0_2.toList == a1_2.toList))) a0_0 a0_1 a0_2 a1_0 a1_1 a1_2) else (mortmainlaw03_ValueKeys.j1 kj18 t180 t181 true a0_0 a0_1 a0_2 a1_0 a1_1 a1_2))) else (mortmainlaw03_ValueKeys.j1 kj18 t180 t181 true a0_0 a0_1 a0_2 a1_0 a1_1 a1_2))) = some r := by rw [if_neg (show ¬ (false = true) by decide)] at H; exact H
            clear H
            have H := H1
            clear H1
            have HC45 := Aside0.mk H
            clear H
            go_upto_region 8 with (fail)
            go_cut [40] (fun v40 wc => ∃ (kq : Nat) (x40_44 : Bool), v40 = .bool x40_44 ∧ Aside0 (mortmainlaw03_ValueKeys.j1 kq t180 t181 x40_44 a0_0 a0_1 a0_2 a1_0 a1_1 a1_2 = some r) ∧ Aside0 (kq ≤ kj18) ∧ Aside0 (wc.heap[gb173]? = some (.cells #[.int .i64 a0_0, .int .i64 a0_1, .string a0_2] 23 (0, 0))) ∧ Aside0 (wc.heap[gb174]? = some (.cells #[.int .i64 a1_0, .int .i64 a1_1, .string a1_2] 23 (0, 0))) ∧ Aside0 (Below w.heap.size w wc))
            case first =>
              have H := HC45.out
              clear HC45
              replace H := Option.bind_eq_some_iff.mp H
              obtain ⟨t184, A460, H⟩ := H
              replace H : (if t184 = true then ((mortmainref03_Good.f a1_0 a1_1 a1_2).bind fun t185 => (if t185 = true then (mortmainlaw03_ValueKeys.j1 kj18 t180 t181 (a0_0 == a1_0 && (a0_1 == a1_1 && (a0_2.toList == a1_2.toList))) a0_0 a0_1 a0_2 a1_0 a1_1 a1_2) else (mortmainlaw03_ValueKeys.j1 kj18 t180 t181 true a0_0 a0_1 a0_2 a1_0 a1_1 a1_2))) else (mortmainlaw03_ValueKeys.j1 kj18 t180 t181 true a0_0 a0_1 a0_2 a1_0 a1_1 a1_2)) = some r := H
              have A46 := Aside0.mk A460
              clear A460
              by_cases c47 : t184 = true
              · subst c47
                have H1 : ((mortmainref03_Good.f a1_0 a1_1 a1_2).bind fun t185 => (if t185 = true then (mortmainlaw03_ValueKeys.j1 kj18 t180 t181 (a0_0 == a1_0 && (a0_1 == a1_1 && (a0_2.toList == a1_2.toList))) a0_0 a0_1 a0_2 a1_0 a1_1 a1_2) else (mortmainlaw03_ValueKeys.j1 kj18 t180 t181 true a0_0 a0_1 a0_2 a1_0 a1_1 a1_2))) = some r := by rw [if_pos rfl] at H; exact H
                clear H
                have H := H1
                clear H1
                replace H := Option.bind_eq_some_iff.mp H
                obtain ⟨t185, A480, H⟩ := H
                replace H : (if t185 = true then (mortmainlaw03_ValueKeys.j1 kj18 t180 t181 (a0_0 == a1_0 && (a0_1 == a1_1 && (a0_2.toList == a1_2.toList))) a0_0 a0_1 a0_2 a1_0 a1_1 a1_2) else (mortmainlaw03_ValueKeys.j1 kj18 t180 t181 true a0_0 a0_1 a0_2 a1_0 a1_1 a1_2)) = some r := H
                have A48 := Aside0.mk A480
                clear A480
                by_cases c49 : t185 = true
                · subst c49
                  have H1 : (mortmainlaw03_ValueKeys.j1 kj18 t180 t181 (a0_0 == a1_0 && (a0_1 == a1_1 && (a0_2.toList == a1_2.toList))) a0_0 a0_1 a0_2 a1_0 a1_1 a1_2) = some r := by rw [if_pos rfl] at H; exact H
                  clear H
                  have H := H1
                  clear H1
                  have H' := Aside0.mk H
                  clear H
                  have hnb50 := NB173_174.out
                  have hnc50 := NB174_173.out
                  have hcz51_0 : wc.cell? ⟨gb173, 0, none⟩ = some (.int .i64 a0_0) := (blk_cell BK173.out 0).trans rfl
                  have hcz51_1 : wc.cell? ⟨gb173, 1, none⟩ = some (.int .i64 a0_1) := (blk_cell BK173.out 1).trans rfl
                  have hcz51_2 : wc.cell? ⟨gb173, 2, none⟩ = some (.string a0_2) := (blk_cell BK173.out 2).trans rfl
                  have hfz51_0 := blk_frozen BK173.out 0
                  have hfz51_1 := blk_frozen BK173.out 1
                  have hfz51_2 := blk_frozen BK173.out 2
                  go_wp2_with (first | ((with_reducible refine gate_callee (f := 13) rfl ?_); refine goesL_ (some 29) rfl rfl Tryz.func13 (by kernel_rfl) rfl #[.agg #[.int .i64 a0_0, .int .i64 a0_1, .string a0_2]] rfl (by (try simp only [List.map_toArray, List.map_cons, List.map_nil]); first | done | rfl | (simp only [List.length_drop, List.length_take]; rfl)) ?_; (with_reducible refine (mortmainref03_Good.calls a0_0 a0_1 a0_2 true _ A46.out).mono ?_); rintro e w52 ⟨rfl, hb⟩; refine ⟨_, rfl, ?_⟩; have n0_ := Aside0.mk (blk_below (g := gb173) (o := .cells #[.int .i64 a0_0, .int .i64 a0_1, .string a0_2] 23 (0, 0)) (by (with_reducible repeat (first | refine blk_drewN ?_ _ | refine blk_drew ?_ | refine blk_alloc ?_ _)); exact BK173.out) hb); have n1_ := Aside0.mk (blk_below (g := gb174) (o := .cells #[.int .i64 a1_0, .int .i64 a1_1, .string a1_2] 23 (0, 0)) (by (with_reducible repeat (first | refine blk_drewN ?_ _ | refine blk_drew ?_ | refine blk_alloc ?_ _)); exact BK174.out) hb); have n2_ := Aside0.mk (below_step (by repeat (first | (with_reducible first | exact HB.out | apply below_alloc | apply pw_below_drewN | apply below_drew1 | refine below_set ?_ GE173.out | refine below_set ?_ GE174.out) | exact HB.out)) hb); clear BK173; clear BK174; clear HB; have BK173 := n0_; have BK174 := n1_; have HB := n2_; clear n0_ n1_ n2_; (try clear hb); (try clear hb2); (try clear hk); (try clear hi); have hcz53_0 : w52.cell? ⟨gb174, 0, none⟩ = some (.int .i64 a1_0) := (blk_cell BK174.out 0).trans rfl; have hcz53_1 : w52.cell? ⟨gb174, 1, none⟩ = some (.int .i64 a1_1) := (blk_cell BK174.out 1).trans rfl; have hcz53_2 : w52.cell? ⟨gb174, 2, none⟩ = some (.string a1_2) := (blk_cell BK174.out 2).trans rfl; have hfz53_0 := blk_frozen BK174.out 0; have hfz53_1 := blk_frozen BK174.out 1; have hfz53_2 := blk_frozen BK174.out 2) | (go_at_call 13; (with_reducible refine (mortmainref03_Good.calls a1_0 a1_1 a1_2 true _ A48.out).mono ?_); rintro e w54 ⟨rfl, hb⟩; have n0_ := Aside0.mk (blk_below (g := gb173) (o := .cells #[.int .i64 a0_0, .int .i64 a0_1, .string a0_2] 23 (0, 0)) (by (with_reducible repeat (first | refine blk_drewN ?_ _ | refine blk_drew ?_ | refine blk_alloc ?_ _)); exact BK173.out) hb); have n1_ := Aside0.mk (blk_below (g := gb174) (o := .cells #[.int .i64 a1_0, .int .i64 a1_1, .string a1_2] 23 (0, 0)) (by (with_reducible repeat (first | refine blk_drewN ?_ _ | refine blk_drew ?_ | refine blk_alloc ?_ _)); exact BK174.out) hb); have n2_ := Aside0.mk (below_step (by repeat (first | (with_reducible first | exact HB.out | apply below_alloc | apply pw_below_drewN | apply below_drew1 | refine below_set ?_ GE173.out | refine below_set ?_ GE174.out) | exact HB.out)) hb); clear BK173; clear BK174; clear HB; have BK173 := n0_; have BK174 := n1_; have HB := n2_; clear n0_ n1_ n2_; (try clear hb); (try clear hb2); (try clear hk); (try clear hi); have hcz55_0 : w54.cell? ⟨gb173, 0, none⟩ = some (.int .i64 a0_0) := (blk_cell BK173.out 0).trans rfl; have hcz55_1 : w54.cell? ⟨gb173, 1, none⟩ = some (.int .i64 a0_1) := (blk_cell BK173.out 1).trans rfl; have hcz55_2 : w54.cell? ⟨gb173, 2, none⟩ = some (.string a0_2) := (blk_cell BK173.out 2).trans rfl; have hfz55_0 := blk_frozen BK173.out 0; have hfz55_1 := blk_frozen BK173.out 1; have hfz55_2 := blk_frozen BK173.out 2; have hcz56_0 : w54.cell? ⟨gb174, 0, none⟩ = some (.int .i64 a1_0) := (blk_cell BK174.out 0).trans rfl; have hcz56_1 : w54.cell? ⟨gb174, 1, none⟩ = some (.int .i64 a1_1) := (blk_cell BK174.out 1).trans rfl; have hcz56_2 : w54.cell? ⟨gb174, 2, none⟩ = some (.string a1_2) := (blk_cell BK174.out 2).trans rfl; have hfz56_0 := blk_frozen BK174.out 0; have hfz56_1 := blk_frozen BK174.out 1; have hfz56_2 := blk_frozen BK174.out 2))
                  go_meet
                  case rel => exact ⟨_, ((a0_0 == a1_0 && (a0_1 == a1_1 && (a0_2.toList == a1_2.toList)))), (by first | rfl | (simp; done) | (simp [*]; done) | (generalize ByteArray.toList _ = l_; cases l_ <;> rfl)), H', ⟨by have := HJ18.out; first | omega | exact Nat.le_refl _⟩, ⟨by (with_reducible repeat (first | refine blk_drewN ?_ _ | refine blk_drew ?_ | refine blk_alloc ?_ _)); exact BK173.out⟩, ⟨by (with_reducible repeat (first | refine blk_drewN ?_ _ | refine blk_drew ?_ | refine blk_alloc ?_ _)); exact BK174.out⟩, ⟨by repeat (first | (with_reducible first | exact HB.out | apply below_alloc | apply pw_below_drewN | apply below_drew1 | refine below_set ?_ GE173.out | refine below_set ?_ GE174.out) | exact HB.out)⟩⟩
                · replace c49 := Bool.eq_false_iff.mpr c49
                  subst c49
                  have H1 : (mortmainlaw03_ValueKeys.j1 kj18 t180 t181 true a0_0 a0_1 a0_2 a1_0 a1_1 a1_2) = some r := by rw [if_neg (show ¬ (false = true) by decide)] at H; exact H
                  clear H
                  have H := H1
                  clear H1
                  have H' := Aside0.mk H
                  clear H
                  have hnb57 := NB173_174.out
                  have hnc57 := NB174_173.out
                  have hcz58_0 : wc.cell? ⟨gb173, 0, none⟩ = some (.int .i64 a0_0) := (blk_cell BK173.out 0).trans rfl
                  have hcz58_1 : wc.cell? ⟨gb173, 1, none⟩ = some (.int .i64 a0_1) := (blk_cell BK173.out 1).trans rfl
                  have hcz58_2 : wc.cell? ⟨gb173, 2, none⟩ = some (.string a0_2) := (blk_cell BK173.out 2).trans rfl
                  have hfz58_0 := blk_frozen BK173.out 0
                  have hfz58_1 := blk_frozen BK173.out 1
                  have hfz58_2 := blk_frozen BK173.out 2
                  go_wp2_with (first | ((with_reducible refine gate_callee (f := 13) rfl ?_); refine goesL_ (some 29) rfl rfl Tryz.func13 (by kernel_rfl) rfl #[.agg #[.int .i64 a0_0, .int .i64 a0_1, .string a0_2]] rfl (by (try simp only [List.map_toArray, List.map_cons, List.map_nil]); first | done | rfl | (simp only [List.length_drop, List.length_take]; rfl)) ?_; (with_reducible refine (mortmainref03_Good.calls a0_0 a0_1 a0_2 true _ A46.out).mono ?_); rintro e w59 ⟨rfl, hb⟩; refine ⟨_, rfl, ?_⟩; have n0_ := Aside0.mk (blk_below (g := gb173) (o := .cells #[.int .i64 a0_0, .int .i64 a0_1, .string a0_2] 23 (0, 0)) (by (with_reducible repeat (first | refine blk_drewN ?_ _ | refine blk_drew ?_ | refine blk_alloc ?_ _)); exact BK173.out) hb); have n1_ := Aside0.mk (blk_below (g := gb174) (o := .cells #[.int .i64 a1_0, .int .i64 a1_1, .string a1_2] 23 (0, 0)) (by (with_reducible repeat (first | refine blk_drewN ?_ _ | refine blk_drew ?_ | refine blk_alloc ?_ _)); exact BK174.out) hb); have n2_ := Aside0.mk (below_step (by repeat (first | (with_reducible first | exact HB.out | apply below_alloc | apply pw_below_drewN | apply below_drew1 | refine below_set ?_ GE173.out | refine below_set ?_ GE174.out) | exact HB.out)) hb); clear BK173; clear BK174; clear HB; have BK173 := n0_; have BK174 := n1_; have HB := n2_; clear n0_ n1_ n2_; (try clear hb); (try clear hb2); (try clear hk); (try clear hi); have hcz60_0 : w59.cell? ⟨gb174, 0, none⟩ = some (.int .i64 a1_0) := (blk_cell BK174.out 0).trans rfl; have hcz60_1 : w59.cell? ⟨gb174, 1, none⟩ = some (.int .i64 a1_1) := (blk_cell BK174.out 1).trans rfl; have hcz60_2 : w59.cell? ⟨gb174, 2, none⟩ = some (.string a1_2) := (blk_cell BK174.out 2).trans rfl; have hfz60_0 := blk_frozen BK174.out 0; have hfz60_1 := blk_frozen BK174.out 1; have hfz60_2 := blk_frozen BK174.out 2) | (go_at_call 13; (with_reducible refine (mortmainref03_Good.calls a1_0 a1_1 a1_2 false _ A48.out).mono ?_); rintro e w61 ⟨rfl, hb⟩; have n0_ := Aside0.mk (blk_below (g := gb173) (o := .cells #[.int .i64 a0_0, .int .i64 a0_1, .string a0_2] 23 (0, 0)) (by (with_reducible repeat (first | refine blk_drewN ?_ _ | refine blk_drew ?_ | refine blk_alloc ?_ _)); exact BK173.out) hb); have n1_ := Aside0.mk (blk_below (g := gb174) (o := .cells #[.int .i64 a1_0, .int .i64 a1_1, .string a1_2] 23 (0, 0)) (by (with_reducible repeat (first | refine blk_drewN ?_ _ | refine blk_drew ?_ | refine blk_alloc ?_ _)); exact BK174.out) hb); have n2_ := Aside0.mk (below_step (by repeat (first | (with_reducible first | exact HB.out | apply below_alloc | apply pw_below_drewN | apply below_drew1 | refine below_set ?_ GE173.out | refine below_set ?_ GE174.out) | exact HB.out)) hb); clear BK173; clear BK174; clear HB; have BK173 := n0_; have BK174 := n1_; have HB := n2_; clear n0_ n1_ n2_; (try clear hb); (try clear hb2); (try clear hk); (try clear hi)))
                  go_meet
                  case rel => exact ⟨_, (true), (by first | rfl | (simp; done) | (simp [*]; done) | (generalize ByteArray.toList _ = l_; cases l_ <;> rfl)), H', ⟨by have := HJ18.out; first | omega | exact Nat.le_refl _⟩, ⟨by (with_reducible repeat (first | refine blk_drewN ?_ _ | refine blk_drew ?_ | refine blk_alloc ?_ _)); exact BK173.out⟩, ⟨by (with_reducible repeat (first | refine blk_drewN ?_ _ | refine blk_drew ?_ | refine blk_alloc ?_ _)); exact BK174.out⟩, ⟨by repeat (first | (with_reducible first | exact HB.out | apply below_alloc | apply pw_below_drewN | apply below_drew1 | refine below_set ?_ GE173.out | refine below_set ?_ GE174.out) | exact HB.out)⟩⟩
              · replace c47 := Bool.eq_false_iff.mpr c47
                subst c47
                have H1 : (mortmainlaw03_ValueKeys.j1 kj18 t180 t181 true a0_0 a0_1 a0_2 a1_0 a1_1 a1_2) = some r := by rw [if_neg (show ¬ (false = true) by decide)] at H; exact H
                clear H
                have H := H1
                clear H1
                have H' := Aside0.mk H
                clear H
                have hnb62 := NB173_174.out
                have hnc62 := NB174_173.out
                have hcz63_0 : wc.cell? ⟨gb173, 0, none⟩ = some (.int .i64 a0_0) := (blk_cell BK173.out 0).trans rfl
                have hcz63_1 : wc.cell? ⟨gb173, 1, none⟩ = some (.int .i64 a0_1) := (blk_cell BK173.out 1).trans rfl
                have hcz63_2 : wc.cell? ⟨gb173, 2, none⟩ = some (.string a0_2) := (blk_cell BK173.out 2).trans rfl
                have hfz63_0 := blk_frozen BK173.out 0
                have hfz63_1 := blk_frozen BK173.out 1
                have hfz63_2 := blk_frozen BK173.out 2
                go_wp2_with (first | ((with_reducible refine gate_callee (f := 13) rfl ?_); refine goesL_ (some 29) rfl rfl Tryz.func13 (by kernel_rfl) rfl #[.agg #[.int .i64 a0_0, .int .i64 a0_1, .string a0_2]] rfl (by (try simp only [List.map_toArray, List.map_cons, List.map_nil]); first | done | rfl | (simp only [List.length_drop, List.length_take]; rfl)) ?_; (with_reducible refine (mortmainref03_Good.calls a0_0 a0_1 a0_2 false _ A46.out).mono ?_); rintro e w64 ⟨rfl, hb⟩; refine ⟨_, rfl, ?_⟩; have n0_ := Aside0.mk (blk_below (g := gb173) (o := .cells #[.int .i64 a0_0, .int .i64 a0_1, .string a0_2] 23 (0, 0)) (by (with_reducible repeat (first | refine blk_drewN ?_ _ | refine blk_drew ?_ | refine blk_alloc ?_ _)); exact BK173.out) hb); have n1_ := Aside0.mk (blk_below (g := gb174) (o := .cells #[.int .i64 a1_0, .int .i64 a1_1, .string a1_2] 23 (0, 0)) (by (with_reducible repeat (first | refine blk_drewN ?_ _ | refine blk_drew ?_ | refine blk_alloc ?_ _)); exact BK174.out) hb); have n2_ := Aside0.mk (below_step (by repeat (first | (with_reducible first | exact HB.out | apply below_alloc | apply pw_below_drewN | apply below_drew1 | refine below_set ?_ GE173.out | refine below_set ?_ GE174.out) | exact HB.out)) hb); clear BK173; clear BK174; clear HB; have BK173 := n0_; have BK174 := n1_; have HB := n2_; clear n0_ n1_ n2_; (try clear hb); (try clear hb2); (try clear hk); (try clear hi)))
                go_meet
                case rel => exact ⟨_, (true), (by first | rfl | (simp; done) | (simp [*]; done) | (generalize ByteArray.toList _ = l_; cases l_ <;> rfl)), H', ⟨by have := HJ18.out; first | omega | exact Nat.le_refl _⟩, ⟨by (with_reducible repeat (first | refine blk_drewN ?_ _ | refine blk_drew ?_ | refine blk_alloc ?_ _)); exact BK173.out⟩, ⟨by (with_reducible repeat (first | refine blk_drewN ?_ _ | refine blk_drew ?_ | refine blk_alloc ?_ _)); exact BK174.out⟩, ⟨by repeat (first | (with_reducible first | exact HB.out | apply below_alloc | apply pw_below_drewN | apply below_drew1 | refine below_set ?_ GE173.out | refine below_set ?_ GE174.out) | exact HB.out)⟩⟩
            case rest =>
              clear HC45
              try clear c1
              try clear c2
              try clear p2
              try clear c3
              try clear c4
              try clear c5
              try clear c6
              try clear c9
              try clear c10
              try clear c11
              try clear c12
              try clear c13
              try clear c23
              try clear c34
              try clear c34b0
              try clear c34b1
              try clear c36
              try clear c41
              try clear c44
              try clear c47
              try clear c49
              try clear c50
              try clear c57
              try clear c62
              try clear hcz11_0
              try clear hcz11_1
              try clear hcz11_2
              try clear hcz12_0
              try clear hcz12_1
              try clear hcz12_2
              try clear hcz24_0
              try clear hcz24_1
              try clear hcz24_2
              try clear hcz25_0
              try clear hcz25_1
              try clear hcz25_2
              try clear hcz37_0
              try clear hcz37_1
              try clear hcz37_2
              try clear hcz39_0
              try clear hcz39_1
              try clear hcz39_2
              try clear hcz42_0
              try clear hcz42_1
              try clear hcz42_2
              try clear hcz51_0
              try clear hcz51_1
              try clear hcz51_2
              try clear hcz53_0
              try clear hcz53_1
              try clear hcz53_2
              try clear hcz55_0
              try clear hcz55_1
              try clear hcz55_2
              try clear hcz56_0
              try clear hcz56_1
              try clear hcz56_2
              try clear hcz58_0
              try clear hcz58_1
              try clear hcz58_2
              try clear hcz60_0
              try clear hcz60_1
              try clear hcz60_2
              try clear hcz63_0
              try clear hcz63_1
              try clear hcz63_2
              try clear hfz11_0
              try clear hfz11_1
              try clear hfz11_2
              try clear hfz12_0
              try clear hfz12_1
              try clear hfz12_2
              try clear hfz24_0
              try clear hfz24_1
              try clear hfz24_2
              try clear hfz25_0
              try clear hfz25_1
              try clear hfz25_2
              try clear hfz37_0
              try clear hfz37_1
              try clear hfz37_2
              try clear hfz39_0
              try clear hfz39_1
              try clear hfz39_2
              try clear hfz42_0
              try clear hfz42_1
              try clear hfz42_2
              try clear hfz51_0
              try clear hfz51_1
              try clear hfz51_2
              try clear hfz53_0
              try clear hfz53_1
              try clear hfz53_2
              try clear hfz55_0
              try clear hfz55_1
              try clear hfz55_2
              try clear hfz56_0
              try clear hfz56_1
              try clear hfz56_2
              try clear hfz58_0
              try clear hfz58_1
              try clear hfz58_2
              try clear hfz60_0
              try clear hfz60_1
              try clear hfz60_2
              try clear hfz63_0
              try clear hfz63_1
              try clear hfz63_2
              try clear p2
              obtain ⟨kq, x40_44, rfl, HA, HJ44, BK173, BK174, HB⟩ := hcut
              cases kq with
              | zero => exact absurd HA.out (by simp [mortmainlaw03_ValueKeys.j1])
              | succ kj44 =>
                have H := HA.out
                clear HA
                simp only [mortmainlaw03_ValueKeys.j1] at H
                by_cases c65 : x40_44 = true
                · subst c65
                  have H1 : (some true) = some r := by rw [if_pos rfl] at H; exact H
                  clear H
                  have H := H1
                  clear H1
                  obtain rfl := Option.some.inj H
                  go_wp2
                  go_ret
                  exact ⟨by first | rfl | (simp [errW_none, errW_some] <;> rfl) | (simp [*, errW_none, errW_some] <;> rfl), by repeat (first | (with_reducible first | exact HB.out | apply below_alloc | apply pw_below_drewN | apply below_drew1 | refine below_set ?_ GE173.out | refine below_set ?_ GE174.out) | exact HB.out)⟩
                · replace c65 := Bool.eq_false_iff.mpr c65
                  subst c65
                  have H1 : (if (t180.size : Int) ≤ (t181.size : Int) then (if 0 ≤ (t180.size : Int) then (if ((t181.extract 0 ((t180.size : Int) : Int).toNat).toList = t180.toList) then (some false) else ((mortmainref03_Compare.f a0_0 a0_1 a0_2 a1_0 a1_1 a1_2).bind fun t186 => (some ((Op.bytesLess t180.toList t181.toList) == (decide (t186 < 0)))))) else (none)) else ((mortmainref03_Compare.f a0_0 a0_1 a0_2 a1_0 a1_1 a1_2).bind fun t187 => (some ((Op.bytesLess t180.toList t181.toList) == (decide (t187 < 0)))))) = some r := by rw [if_neg (show ¬ (false = true) by decide)] at H; exact H
                  clear H
                  have H := H1
                  clear H1
                  by_cases c66 : (t180.size : Int) ≤ (t181.size : Int)
                  · rw [if_pos c66] at H
                    have c66b0 : decide ((t180.size : Int) ≤ (t181.size : Int)) = true := decide_eq_true c66
                    have c66b1 : decide (t180.size ≤ t181.size) = true := decide_eq_true (Int.ofNat_le.mp c66)
                    clear c66
                    by_cases c67 : 0 ≤ (t180.size : Int)
                    · rw [if_pos c67] at H
                      have c67b0 := eq_true c67
                      have c67b1 : decide (0 ≤ (t180.size : Int)) = true := decide_eq_true c67
                      clear c67
                      have c68b0 := eq_true (of_decide_eq_true (by first | (with_reducible assumption) | assumption) : (t180.size : Int) ≤ (t181.size : Int))
                      by_cases c69 : ((t181.extract 0 ((t180.size : Int) : Int).toNat).toList = t180.toList)
                      · rw [if_pos c69] at H
                        have c69b0 : ((t181.extract 0 ((t180.size : Int) : Int).toNat).toList == t180.toList) = true := beq_iff_eq.mpr c69
                        have c69b1 : ((t181.extract 0 ((t180.size : Int) : Int).toNat).toList != t180.toList) = false := bne_eq_false_iff_eq.mpr c69
                        clear c69
                        obtain rfl := Option.some.inj H
                        cases hr_.out
                      · rw [if_neg c69] at H
                        have c69b0 : ((t181.extract 0 ((t180.size : Int) : Int).toNat).toList == t180.toList) = false := beq_eq_false_iff_ne.mpr c69
                        have c69b1 : ((t181.extract 0 ((t180.size : Int) : Int).toNat).toList != t180.toList) = true := bne_iff_ne.mpr c69
                        replace H := Option.bind_eq_some_iff.mp H
                        obtain ⟨t186, A700, H⟩ := H
                        replace H : (some ((Op.bytesLess t180.toList t181.toList) == (decide (t186 < 0)))) = some r := H
                        have A70 := Aside0.mk A700
                        clear A700
                        obtain rfl := Option.some.inj H
                        have hnb71 := NB173_174.out
                        have hnc71 := NB174_173.out
                        have hcz72_0 : wc.cell? ⟨gb173, 0, none⟩ = some (.int .i64 a0_0) := (blk_cell BK173.out 0).trans rfl
                        have hcz72_1 : wc.cell? ⟨gb173, 1, none⟩ = some (.int .i64 a0_1) := (blk_cell BK173.out 1).trans rfl
                        have hcz72_2 : wc.cell? ⟨gb173, 2, none⟩ = some (.string a0_2) := (blk_cell BK173.out 2).trans rfl
                        have hfz72_0 := blk_frozen BK173.out 0
                        have hfz72_1 := blk_frozen BK173.out 1
                        have hfz72_2 := blk_frozen BK173.out 2
                        have hcz73_0 : wc.cell? ⟨gb174, 0, none⟩ = some (.int .i64 a1_0) := (blk_cell BK174.out 0).trans rfl
                        have hcz73_1 : wc.cell? ⟨gb174, 1, none⟩ = some (.int .i64 a1_1) := (blk_cell BK174.out 1).trans rfl
                        have hcz73_2 : wc.cell? ⟨gb174, 2, none⟩ = some (.string a1_2) := (blk_cell BK174.out 2).trans rfl
                        have hfz73_0 := blk_frozen BK174.out 0
                        have hfz73_1 := blk_frozen BK174.out 1
                        have hfz73_2 := blk_frozen BK174.out 2
                        go_wp2_with (first | (go_at_call 14; (with_reducible refine (mortmainref03_Compare.calls a0_0 a0_1 a0_2 a1_0 a1_1 a1_2 t186 _ A70.out).mono ?_); rintro e w74 ⟨rfl, hb⟩; have n0_ := Aside0.mk (blk_below (g := gb173) (o := .cells #[.int .i64 a0_0, .int .i64 a0_1, .string a0_2] 23 (0, 0)) (by (with_reducible repeat (first | refine blk_drewN ?_ _ | refine blk_drew ?_ | refine blk_alloc ?_ _)); exact BK173.out) hb); have n1_ := Aside0.mk (blk_below (g := gb174) (o := .cells #[.int .i64 a1_0, .int .i64 a1_1, .string a1_2] 23 (0, 0)) (by (with_reducible repeat (first | refine blk_drewN ?_ _ | refine blk_drew ?_ | refine blk_alloc ?_ _)); exact BK174.out) hb); have n2_ := Aside0.mk (below_step (by repeat (first | (with_reducible first | exact HB.out | apply below_alloc | apply pw_below_drewN | apply below_drew1 | refine below_set ?_ GE173.out | refine below_set ?_ GE174.out) | exact HB.out)) hb); clear BK173; clear BK174; clear HB; have BK173 := n0_; have BK174 := n1_; have HB := n2_; clear n0_ n1_ n2_; (try clear hb); (try clear hb2); (try clear hk); (try clear hi)))
                        go_ret
                        exact ⟨by first | rfl | (simp [errW_none, errW_some] <;> rfl) | (simp [*, errW_none, errW_some] <;> rfl), by repeat (first | (with_reducible first | exact HB.out | apply below_alloc | apply pw_below_drewN | apply below_drew1 | refine below_set ?_ GE173.out | refine below_set ?_ GE174.out) | exact HB.out)⟩
                    · rw [if_neg c67] at H
                      exact absurd H (by simp)
                  · rw [if_neg c66] at H
                    have c66b0 : decide ((t180.size : Int) ≤ (t181.size : Int)) = false := decide_eq_false c66
                    have c66b1 : decide (t180.size ≤ t181.size) = false := decide_eq_false (fun h => c66 (Int.ofNat_le.mpr h))
                    clear c66
                    replace H := Option.bind_eq_some_iff.mp H
                    obtain ⟨t187, A750, H⟩ := H
                    replace H : (some ((Op.bytesLess t180.toList t181.toList) == (decide (t187 < 0)))) = some r := H
                    have A75 := Aside0.mk A750
                    clear A750
                    obtain rfl := Option.some.inj H
                    have hnb76 := NB173_174.out
                    have hnc76 := NB174_173.out
                    have hcz77_0 : wc.cell? ⟨gb173, 0, none⟩ = some (.int .i64 a0_0) := (blk_cell BK173.out 0).trans rfl
                    have hcz77_1 : wc.cell? ⟨gb173, 1, none⟩ = some (.int .i64 a0_1) := (blk_cell BK173.out 1).trans rfl
                    have hcz77_2 : wc.cell? ⟨gb173, 2, none⟩ = some (.string a0_2) := (blk_cell BK173.out 2).trans rfl
                    have hfz77_0 := blk_frozen BK173.out 0
                    have hfz77_1 := blk_frozen BK173.out 1
                    have hfz77_2 := blk_frozen BK173.out 2
                    have hcz78_0 : wc.cell? ⟨gb174, 0, none⟩ = some (.int .i64 a1_0) := (blk_cell BK174.out 0).trans rfl
                    have hcz78_1 : wc.cell? ⟨gb174, 1, none⟩ = some (.int .i64 a1_1) := (blk_cell BK174.out 1).trans rfl
                    have hcz78_2 : wc.cell? ⟨gb174, 2, none⟩ = some (.string a1_2) := (blk_cell BK174.out 2).trans rfl
                    have hfz78_0 := blk_frozen BK174.out 0
                    have hfz78_1 := blk_frozen BK174.out 1
                    have hfz78_2 := blk_frozen BK174.out 2
                    go_wp2_with (first | (go_at_call 14; (with_reducible refine (mortmainref03_Compare.calls a0_0 a0_1 a0_2 a1_0 a1_1 a1_2 t187 _ A75.out).mono ?_); rintro e w79 ⟨rfl, hb⟩; have n0_ := Aside0.mk (blk_below (g := gb173) (o := .cells #[.int .i64 a0_0, .int .i64 a0_1, .string a0_2] 23 (0, 0)) (by (with_reducible repeat (first | refine blk_drewN ?_ _ | refine blk_drew ?_ | refine blk_alloc ?_ _)); exact BK173.out) hb); have n1_ := Aside0.mk (blk_below (g := gb174) (o := .cells #[.int .i64 a1_0, .int .i64 a1_1, .string a1_2] 23 (0, 0)) (by (with_reducible repeat (first | refine blk_drewN ?_ _ | refine blk_drew ?_ | refine blk_alloc ?_ _)); exact BK174.out) hb); have n2_ := Aside0.mk (below_step (by repeat (first | (with_reducible first | exact HB.out | apply below_alloc | apply pw_below_drewN | apply below_drew1 | refine below_set ?_ GE173.out | refine below_set ?_ GE174.out) | exact HB.out)) hb); clear BK173; clear BK174; clear HB; have BK173 := n0_; have BK174 := n1_; have HB := n2_; clear n0_ n1_ n2_; (try clear hb); (try clear hb2); (try clear hk); (try clear hi)))
                    go_ret
                    exact ⟨by first | rfl | (simp [errW_none, errW_some] <;> rfl) | (simp [*, errW_none, errW_some] <;> rfl), by repeat (first | (with_reducible first | exact HB.out | apply below_alloc | apply pw_below_drewN | apply below_drew1 | refine below_set ?_ GE173.out | refine below_set ?_ GE174.out) | exact HB.out)⟩
  · replace c4 := Bool.eq_false_iff.mpr c4
    subst c4
    have H1 : (some false) = some r := by rw [if_neg (show ¬ (false = true) by decide)] at H; exact H
    clear H
    have H := H1
    clear H1
    obtain rfl := Option.some.inj H
    cases hr_.out

end Go.Proofs.YtmaciepkkianhabGreatDoor.QVal
