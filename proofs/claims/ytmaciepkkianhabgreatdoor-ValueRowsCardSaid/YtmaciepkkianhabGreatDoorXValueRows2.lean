-- Parts of the proof, joined by pack.py, this claim's own program.
import Derived.Test.YtmaciepkkianhabGreatDoorXValueRows0
import Derived.Test.YtmaciepkkianhabGreatDoorXValueRows1
import Derived.Lib.Zigzag
import Derived.Lib.OthersKept
import Derived.Lib.FrozenHead2
import Derived.Shelf.Strings.BuilderK
import Derived.Shelf.RegionOpenPlain
import Derived.Test.YtmaciepkkianhabGreatDoorProg
import Derived.Below
import Derived.Deep.Draws
import Derived.Deep.AppendLies
import Derived.Maps.AppendAt
import Derived.OwnWalk
import Derived.Laws.BytesArg
import Derived.Laws.MakeOwn
import Derived.Laws.OwnMore
import Derived.Deep.OwnRows
import Derived.Tactics
import Derived.Lib.ConvBytes
import Derived.Laws.Slices
import Derived.WalkKit
import Derived.KernelRfl
import Derived.RowKit3
import Derived.Deep.LoopGhost
import Derived.Deep.QuietTactic
import Derived.BigQuiet
import Derived.WideLaws
import Derived.Deep.DeepCutAuto
import Derived.Deep.CutBlock
import Derived.Deep.RegionHeld3
import Derived.Laws.Rows
import Derived.Lib.AppendStr
import Derived.ArgAppend
import Derived.Laws.IdiomCopy
import Derived.OrdersHeld
import Derived.Laws.BitsLemmas
import Derived.RowKit
import Derived.Test.YtmaciepkkianhabGreatDoorWWords
import Derived.Test.YtmaciepkkianhabGreatDoorWLast
import Derived.Test.YtmaciepkkianhabGreatDoorWTab
import Derived.Test.YtmaciepkkianhabGreatDoorWQPut
import Derived.Test.YtmaciepkkianhabGreatDoorWApart
import Derived.Test.YtmaciepkkianhabGreatDoorWArr
import Derived.Test.YtmaciepkkianhabGreatDoorWZeros
import Derived.Test.YtmaciepkkianhabGreatDoorWFoot
import Derived.Test.YtmaciepkkianhabGreatDoorWKept
import Derived.Test.YtmaciepkkianhabGreatDoorWShare
import Derived.Test.YtmaciepkkianhabGreatDoorWN
import Derived.Test.YtmaciepkkianhabGreatDoorWEqStruct
import Derived.Test.YtmaciepkkianhabGreatDoorWRepsOne
import Derived.Test.YtmaciepkkianhabGreatDoorWInv
import Derived.Test.YtmaciepkkianhabGreatDoorWGuard
import Derived.Test.YtmaciepkkianhabGreatDoorWNEv
import Derived.Test.YtmaciepkkianhabGreatDoorWMore
import Derived.WalkSpells
namespace Go.Proofs.YtmaciepkkianhabGreatDoor.QRows
open Go.Proofs.YtmaciepkkianhabGreatDoor.H
attribute [local go_sem] ite_signed_u64 ite_signed_u32
open Go.RowKit Go.Proofs.YtmaciepkkianhabGreatDoorW.PrintWords Go.Proofs.YtmaciepkkianhabGreatDoorW.PrintLast Go.Proofs.YtmaciepkkianhabGreatDoorW.PrintMore
attribute [local go_sem] max2_int min2_int max_two min_two max_three min_three max_four min_four   -- for this text's walks alone
set_option linter.unusedVariables false
set_option linter.unusedSimpArgs false

/-- A state of type 55 at block g of W; what its slices lead to came in by w0. -/
def IsS55 (w0 W : World) (g : Nat) (f0 : ByteArray) (f1 : Int) (f2 : Bool) : Prop := W.heap[g]? = some (.cells #[.string f0, .int .i64 f1, .bool f2] 55 (0, 0)) ∧ w0.heap.size ≤ g
theorem IsS55.grown {w0 W : World} {g : Nat} {f0 : ByteArray} {f1 : Int} {f2 : Bool} {W1 : World} {row : Option Nat} (h : IsS55 w0 W g f0 f1 f2) (hw : W.grownBy W1 row) (hne : some g ≠ row) : IsS55 w0 W1 g f0 f1 f2 := by
  obtain ⟨hb, hg⟩ := h
  exact ⟨blk_grown hb hw hne, hg⟩
theorem IsS55.kept {w0 W : World} {g : Nat} {f0 : ByteArray} {f1 : Int} {f2 : Bool} {W1 : World} {S : Nat → Prop} (h : IsS55 w0 W g f0 f1 f2) (hk : Kept W W1 S) (hne : ¬ S g) : IsS55 w0 W1 g f0 f1 f2 := by
  obtain ⟨hb, hg⟩ := h
  exact ⟨blk_kept hb hk hne, hg⟩
theorem IsS55.below {w0 W : World} {g : Nat} {f0 : ByteArray} {f1 : Int} {f2 : Bool} {W1 : World} (h : IsS55 w0 W g f0 f1 f2) (hw : Below W.heap.size W W1) : IsS55 w0 W1 g f0 f1 f2 := h.grown (grown_of_below hw none) (by simp)
theorem IsS55.alloc {w0 W : World} {g : Nat} {f0 : ByteArray} {f1 : Int} {f2 : Bool} (h : IsS55 w0 W g f0 f1 f2) (o : Obj) : IsS55 w0 (W.alloc o) g f0 f1 f2 := h.below (below_alloc (Below.refl _ _) o)
theorem IsS55.drewN {w0 W : World} {g : Nat} {f0 : ByteArray} {f1 : Int} {f2 : Bool} (h : IsS55 w0 W g f0 f1 f2) (m : Nat) : IsS55 w0 (W.drewN m) g f0 f1 f2 := h
theorem IsS55.drew {w0 W : World} {g : Nat} {f0 : ByteArray} {f1 : Int} {f2 : Bool} (h : IsS55 w0 W g f0 f1 f2) : IsS55 w0 W.drew g f0 f1 f2 := h
theorem IsS55.apart {w0 W : World} {g : Nat} {f0 : ByteArray} {f1 : Int} {f2 : Bool} {α : Type} {d : Kd α} {e : Nat} {base : Nat} {ok : Nat → Prop} {v : Value} {xs : List α} (h : IsS55 w0 W g f0 f1 f2) (ho : d.R e W base ok v xs) (ht : ∀ q, q ∈ e :: d.E → q ≠ 55) : d.R e W base (fun k => ok k ∧ k ≠ g) v xs := by
  obtain ⟨hb, hg⟩ := h
  exact Kd.R_types ho hb ht
theorem IsS55.own_ne {w0 W : World} {g : Nat} {f0 : ByteArray} {f1 : Int} {f2 : Bool} {α : Type} {d : Kd α} {e : Nat} {base : Nat} {ok : Nat → Prop} {v : Value} {xs : List α} (h : IsS55 w0 W g f0 f1 f2) (ho : d.R e W base ok v xs) (ht : e ≠ 55) : some g ≠ v.ownBlock := by
  obtain ⟨hb, hg⟩ := h
  exact Kd.R_ne ho hb ht
theorem IsS55.lt {w0 W : World} {g : Nat} {f0 : ByteArray} {f1 : Int} {f2 : Bool} (h : IsS55 w0 W g f0 f1 f2) : g < W.heap.size := by
  obtain ⟨hb, hg⟩ := h
  exact blk_lt hb
theorem IsS55.ge {w0 W : World} {g : Nat} {f0 : ByteArray} {f1 : Int} {f2 : Bool} (h : IsS55 w0 W g f0 f1 f2) : w0.heap.size ≤ g := by
  obtain ⟨hb, hg⟩ := h
  exact hg
theorem IsS55.far {w0 W : World} {g : Nat} {f0 : ByteArray} {f1 : Int} {f2 : Bool} {p : Addr} (h : IsS55 w0 W g f0 f1 f2) (hne : g ≠ p.block) (u : Value) : IsS55 w0 (W.setCell p u) g f0 f1 f2 := by
  obtain ⟨hb, hg⟩ := h
  exact ⟨blk_far hb hne u, hg⟩
theorem cellS55_0 {W : World} {g : Nat} {f0 : ByteArray} {f1 : Int} {f2 : Bool} (h : W.heap[g]? = some (.cells #[.string f0, .int .i64 f1, .bool f2] 55 (0, 0))) : W.cell? ⟨g, 0, none⟩ = some (.string f0) := (blk_cell h 0).trans rfl
theorem IsS55.set_0 {w0 W : World} {g : Nat} {f0 : ByteArray} {f1 : Int} {f2 : Bool} (h : IsS55 w0 W g f0 f1 f2) (x : ByteArray) : IsS55 w0 (W.setCell ⟨g, 0, none⟩ (.string x)) g x f1 f2 := by
  obtain ⟨hb, hg⟩ := h
  exact ⟨by simpa using blk_set hb 0 (.string x), hg⟩
theorem cellS55_1 {W : World} {g : Nat} {f0 : ByteArray} {f1 : Int} {f2 : Bool} (h : W.heap[g]? = some (.cells #[.string f0, .int .i64 f1, .bool f2] 55 (0, 0))) : W.cell? ⟨g, 1, none⟩ = some (.int .i64 f1) := (blk_cell h 1).trans rfl
theorem IsS55.set_1 {w0 W : World} {g : Nat} {f0 : ByteArray} {f1 : Int} {f2 : Bool} (h : IsS55 w0 W g f0 f1 f2) (x : Int) : IsS55 w0 (W.setCell ⟨g, 1, none⟩ (.int .i64 x)) g f0 x f2 := by
  obtain ⟨hb, hg⟩ := h
  exact ⟨by simpa using blk_set hb 1 (.int .i64 x), hg⟩
theorem cellS55_2 {W : World} {g : Nat} {f0 : ByteArray} {f1 : Int} {f2 : Bool} (h : W.heap[g]? = some (.cells #[.string f0, .int .i64 f1, .bool f2] 55 (0, 0))) : W.cell? ⟨g, 2, none⟩ = some (.bool f2) := (blk_cell h 2).trans rfl
theorem IsS55.set_2 {w0 W : World} {g : Nat} {f0 : ByteArray} {f1 : Int} {f2 : Bool} (h : IsS55 w0 W g f0 f1 f2) (x : Bool) : IsS55 w0 (W.setCell ⟨g, 2, none⟩ (.bool x)) g f0 f1 x := by
  obtain ⟨hb, hg⟩ := h
  exact ⟨by simpa using blk_set hb 2 (.bool x), hg⟩
theorem IsS55.new (w0 W : World) (f0 : ByteArray) (f1 : Int) (f2 : Bool) (hB : Below w0.heap.size w0 W) : IsS55 w0 (W.alloc (.cells #[.string f0, .int .i64 f1, .bool f2] 55)) W.heap.size f0 f1 f2 := ⟨by simpa using heap_alloc_new W _, hB.size⟩

/-! ### mortmainref01_Reader_Int: function 59 -/
mutual
def mortmainref01_Reader_Int.l0 : Nat → Int → ByteArray → Int → Bool → Option (Int × ByteArray × Int × Bool)
  | 0, _, _, _, _ => none
  | k + 1, x3, x1000, x1001, x1002 => if (wrap64 (x1001 + x3)) < (x1000.size : Int) then (if 0 ≤ (wrap64 (x1001 + x3)) then (mortmainref01_Reader_Int.j1 k x3 (decide ((bt x1000 (wrap64 (x1001 + x3))) ≥ 128)) x1000 x1001 x1002) else (none)) else (mortmainref01_Reader_Int.j1 k x3 false x1000 x1001 x1002)
def mortmainref01_Reader_Int.j1 : Nat → Int → Bool → ByteArray → Int → Bool → Option (Int × ByteArray × Int × Bool)
  | 0, _, _, _, _, _ => none
  | k + 1, x3, x36, x1000, x1001, x1002 => if x36 = true then (mortmainref01_Reader_Int.l0 k (wrap64 (x3 + 1)) x1000 x1001 x1002) else (if (wrap64 (x1001 + x3)) ≥ (x1000.size : Int) then (mortmainref01_Reader_Int.j2 k x3 true x1000 x1001 x1002) else (mortmainref01_Reader_Int.j2 k x3 (decide (x3 > 9)) x1000 x1001 x1002))
def mortmainref01_Reader_Int.j2 : Nat → Int → Bool → ByteArray → Int → Bool → Option (Int × ByteArray × Int × Bool)
  | 0, _, _, _, _, _ => none
  | k + 1, x3, x54, x1000, x1001, x1002 => if x54 = true then (some (0, x1000, x1001, true)) else (mortmainref01_Reader_Int.l1 k x3 0 x3 x1000 x1001 x1002)
def mortmainref01_Reader_Int.l1 : Nat → Int → Int → Int → ByteArray → Int → Bool → Option (Int × ByteArray × Int × Bool)
  | 0, _, _, _, _, _, _ => none
  | k + 1, x3, x4, x5, x1000, x1001, x1002 => if x5 ≥ 0 then (if 0 ≤ (wrap64 (x1001 + x5)) then (if (wrap64 (x1001 + x5)) < (x1000.size : Int) then (mortmainref01_Reader_Int.l1 k x3 (IntKind.u64.wrap ((IntKind.u64.wrap (x4 * 128)) + (IntKind.u64.wrap (Int.tmod (bt x1000 (wrap64 (x1001 + x5))) 128)))) (wrap64 (x5 - 1)) x1000 x1001 x1002) else (none)) else (none)) else (if 0 ≤ (wrap64 (x1001 + x3)) then (if (wrap64 (x1001 + x3)) < (x1000.size : Int) then (if x3 = 9 then (if (bt x1000 (wrap64 (x1001 + x3))) > 1 then (mortmainref01_Reader_Int.j4 k x3 x4 true x1000 x1001 x1002) else (if x3 > 0 then (mortmainref01_Reader_Int.j4 k x3 x4 ((bt x1000 (wrap64 (x1001 + x3))) == 0) x1000 x1001 x1002) else (mortmainref01_Reader_Int.j4 k x3 x4 false x1000 x1001 x1002))) else (if x3 > 0 then (mortmainref01_Reader_Int.j4 k x3 x4 ((bt x1000 (wrap64 (x1001 + x3))) == 0) x1000 x1001 x1002) else (mortmainref01_Reader_Int.j4 k x3 x4 false x1000 x1001 x1002))) else (none)) else (none))
def mortmainref01_Reader_Int.j4 : Nat → Int → Int → Bool → ByteArray → Int → Bool → Option (Int × ByteArray × Int × Bool)
  | 0, _, _, _, _, _, _ => none
  | k + 1, x3, x4, x103, x1000, x1001, x1002 => if x103 = true then (some (0, x1000, x1001, true)) else ((mortmainref01_Signed.f x4).bind fun t183 => (some (t183, x1000, wrap64 ((wrap64 (x1001 + x3)) + 1), x1002)))
end
def mortmainref01_Reader_Int.f (k : Nat) (s0_0 : ByteArray) (s0_1 : Int) (s0_2 : Bool) : Option (Int × ByteArray × Int × Bool) := if s0_2 = true then (some (0, s0_0, s0_1, s0_2)) else (mortmainref01_Reader_Int.l0 k 0 s0_0 s0_1 s0_2)
set_option maxHeartbeats 8000000 in
set_option maxRecDepth 100000 in
theorem mortmainref01_Reader_Int.calls (k : Nat) (g : Nat) (s0_0 : ByteArray) (s0_1 : Int) (s0_2 : Bool) (r1 : Int) (r2 : ByteArray) (r3 : Int) (r4 : Bool) (w0 w : World) (hI : IsS55 w0 w g s0_0 s0_1 s0_2) (hB : Below w0.heap.size w0 w) (h : mortmainref01_Reader_Int.f k s0_0 s0_1 s0_2 = some (r1, r2, r3, r4)) :
    Calls Tryz.prog 59 #[.pointer (some ⟨g, 0, none⟩)] w fun e w' => e = .returned (.int .i64 r1) ∧ IsS55 w0 w' g r2 r3 r4 ∧ Below w0.heap.size w0 w' ∧ KeepBut w w' g none := by
  have HI0 := Aside0.mk hI
  have HK := Aside0.mk (KeepBut.refl w g none)
  have HL := Aside0.mk hB.size
  clear hI
  have HW0 := Aside0.mk hB.size
  have HB := Aside0.mk hB
  clear hB
  have H : (if s0_2 = true then (some (0, s0_0, s0_1, s0_2)) else (mortmainref01_Reader_Int.l0 k 0 s0_0 s0_1 s0_2)) = some (r1, r2, r3, r4) := h
  clear h
  by_cases c2 : s0_2 = true
  · subst c2
    have H1 : (some (0, s0_0, s0_1, true)) = some (r1, r2, r3, r4) := by rw [if_pos rfl] at H; exact H
    clear H
    have H := H1
    clear H1
    simp only [Option.some.injEq, Prod.mk.injEq] at H
    obtain ⟨rfl, rfl, rfl, rfl⟩ := H
    obtain ⟨HGz3, hgz3⟩ := HI0.out
    have hcz3_0 := cellS55_0 HGz3
    have hcz3_1 := cellS55_1 HGz3
    have hcz3_2 := cellS55_2 HGz3
    have hfz3_0 := blk_frozen HGz3 0
    have hfz3_1 := blk_frozen HGz3 1
    have hfz3_2 := blk_frozen HGz3 2
    clear HGz3 hgz3
    go_enter Tryz.func59, Tryz.ntmps59
    go_wp2
    repeat (go_quiet (fail); try go_wp2)
    go_ret
    exact ⟨by first | rfl | (simp [errW_none, errW_some] <;> rfl) | (simp [*, errW_none, errW_some] <;> rfl), by repeat (first | (with_reducible first | exact HI0.out | apply IsS55.alloc | apply IsS55.drewN | apply IsS55.drew | apply IsS55.set_0 | apply IsS55.set_1 | apply IsS55.set_2) | exact HI0.out), by repeat (first | (with_reducible first | exact HB.out | apply below_alloc | apply pw_below_drewN | apply below_drew1 | refine below_set ?_ (IsS55.ge HI0.out)) | exact HB.out), by repeat (first | (with_reducible first | exact HK.out | apply KeepBut.set_ | apply keep_drewN | apply keep_drew | apply keep_alloc) | exact HK.out)⟩
  · replace c2 := Bool.eq_false_iff.mpr c2
    subst c2
    have H1 : (mortmainref01_Reader_Int.l0 k 0 s0_0 s0_1 false) = some (r1, r2, r3, r4) := by rw [if_neg (show ¬ (false = true) by decide)] at H; exact H
    clear H
    have H := H1
    clear H1
    have H' := Aside0.mk H
    clear H
    obtain ⟨HGz4, hgz4⟩ := HI0.out
    have hcz4_0 := cellS55_0 HGz4
    have hcz4_1 := cellS55_1 HGz4
    have hcz4_2 := cellS55_2 HGz4
    have hfz4_0 := blk_frozen HGz4 0
    have hfz4_1 := blk_frozen HGz4 1
    have hfz4_2 := blk_frozen HGz4 2
    clear HGz4 hgz4
    go_enter Tryz.func59, Tryz.ntmps59
    go_wp2
    repeat (go_quiet (fail); try go_wp2)
    go_loopg [3] k (fun kq v3 w' => ∃ (x3_1 : Int), v3 = .int .i64 x3_1 ∧ Aside0 (mortmainref01_Reader_Int.l0 kq x3_1 s0_0 s0_1 false = some (r1, r2, r3, r4)) ∧ Aside0 (kq ≤ k) ∧ Aside0 (IsS55 w0 w' g s0_0 s0_1 false) ∧ Aside0 (KeepBut w w' g none) ∧ Aside0 (Below w0.heap.size w0 w'))
    case atStart => exact ⟨(0), (by first | rfl | (simp; done) | (simp [*]; done) | (generalize ByteArray.toList _ = l_; cases l_ <;> rfl)), H', ⟨Nat.le_refl _⟩, ⟨by repeat (first | (with_reducible first | exact HI0.out | apply IsS55.alloc | apply IsS55.drewN | apply IsS55.drew | apply IsS55.set_0 | apply IsS55.set_1 | apply IsS55.set_2) | exact HI0.out)⟩, ⟨by repeat (first | (with_reducible first | exact HK.out | apply KeepBut.set_ | apply keep_drewN | apply keep_drew | apply keep_alloc) | exact HK.out)⟩, ⟨by repeat (first | (with_reducible first | exact HB.out | apply below_alloc | apply pw_below_drewN | apply below_drew1 | refine below_set ?_ (IsS55.ge HI0.out)) | exact HB.out)⟩⟩
    case round =>
      clear H'
      try clear c2
      try clear p2
      try clear hcz3_0
      try clear hcz3_1
      try clear hcz3_2
      try clear hcz4_0
      try clear hcz4_1
      try clear hcz4_2
      try clear hfz3_0
      try clear hfz3_1
      try clear hfz3_2
      try clear hfz4_0
      try clear hfz4_1
      try clear hfz4_2
      obtain ⟨x3_1, rfl, HA, HK1, HI0, HK, HB⟩ := hrel
      cases gk with
      | zero => exact absurd HA.out (by simp [mortmainref01_Reader_Int.l0])
      | succ k1 =>
        have H := HA.out
        clear HA
        simp only [mortmainref01_Reader_Int.l0] at H
        have HC5 := Aside0.mk H
        clear H
        go_upto_region 4 with (fail)
        repeat (go_quiet (fail); go_upto_region 4 with (fail))
        go_cut [36] (fun v36 wc => ∃ (kq : Nat) (x36_4 : Bool), v36 = .bool x36_4 ∧ Aside0 (mortmainref01_Reader_Int.j1 kq x3_1 x36_4 s0_0 s0_1 false = some (r1, r2, r3, r4)) ∧ Aside0 (kq ≤ k1) ∧ Aside0 (IsS55 w0 wc g s0_0 s0_1 false) ∧ Aside0 (KeepBut w wc g none) ∧ Aside0 (Below w0.heap.size w0 wc))
        case first =>
          have H := HC5.out
          clear HC5
          by_cases c6 : (wrap64 (s0_1 + x3_1)) < (s0_0.size : Int)
          · rw [if_pos c6] at H
            have c6b0 : decide ((wrap64 (s0_1 + x3_1)) < (s0_0.size : Int)) = true := decide_eq_true c6
            clear c6
            (first | rw [c6b0] | (simp only [i64_w, i32_w]; rw [c6b0]) | skip)
            obtain ⟨ji7, hji7⟩ : ∃ j_ : Int, (wrap64 (s0_1 + x3_1)) = j_ := ⟨_, rfl⟩
            replace H : (if 0 ≤ (ji7) then (mortmainref01_Reader_Int.j1 k1 x3_1 (decide ((bt s0_0 (ji7)) ≥ 128)) s0_0 s0_1 false) else (none)) = some (r1, r2, r3, r4) := by first | (rw [hji7] at H; exact H) | (simp only [hji7] at H ⊢; exact H)
            (try rw [hji7] at c6b0)
            have hji7w : (IntKind.i64.wrap (s0_1 + x3_1)) = ji7 := (i64_w _).trans hji7
            by_cases c8 : 0 ≤ (ji7)
            · rw [if_pos c8] at H
              have c8b0 : decide (0 ≤ (ji7)) = true := decide_eq_true c8
              clear c8
              have H' := Aside0.mk H
              clear H
              obtain ⟨HGz10, hgz10⟩ := HI0.out
              have hcz10_0 := cellS55_0 HGz10
              have hcz10_1 := cellS55_1 HGz10
              have hcz10_2 := cellS55_2 HGz10
              have hfz10_0 := blk_frozen HGz10 0
              have hfz10_1 := blk_frozen HGz10 1
              have hfz10_2 := blk_frozen HGz10 2
              clear HGz10 hgz10
              have p9 : 0 ≤ ((ji7) : Int) := of_decide_eq_true (by first | (with_reducible assumption) | assumption)
              have q9 : (ji7) < (s0_0.size : Int) := of_decide_eq_true (by first | (with_reducible assumption) | assumption)
              have hx9 := bt_at s0_0 (ji7)
              replace p9 := eq_true p9
              replace q9 := eq_true q9
              go_wp2
              repeat (go_quiet (fail); try go_wp2)
              go_meet
              case rel => exact ⟨_, (decide ((bt s0_0 (ji7)) ≥ 128)), (by first | rfl | (simp; done) | (simp only [← hji7] <;> (first | rfl | simp)) | (simp [*]; done)), H', ⟨by have := HK1.out; first | omega | exact Nat.le_refl _⟩, ⟨by repeat (first | (with_reducible first | exact HI0.out | apply IsS55.alloc | apply IsS55.drewN | apply IsS55.drew | apply IsS55.set_0 | apply IsS55.set_1 | apply IsS55.set_2) | exact HI0.out)⟩, ⟨by repeat (first | (with_reducible first | exact HK.out | apply KeepBut.set_ | apply keep_drewN | apply keep_drew | apply keep_alloc) | exact HK.out)⟩, ⟨by repeat (first | (with_reducible first | exact HB.out | apply below_alloc | apply pw_below_drewN | apply below_drew1 | refine below_set ?_ (IsS55.ge HI0.out)) | exact HB.out)⟩⟩
            · rw [if_neg c8] at H
              exact absurd H (by simp)
          · rw [if_neg c6] at H
            have c6b0 : decide ((wrap64 (s0_1 + x3_1)) < (s0_0.size : Int)) = false := decide_eq_false c6
            clear c6
            (first | rw [c6b0] | (simp only [i64_w, i32_w]; rw [c6b0]) | skip)
            have H' := Aside0.mk H
            clear H
            obtain ⟨HGz11, hgz11⟩ := HI0.out
            have hcz11_0 := cellS55_0 HGz11
            have hcz11_1 := cellS55_1 HGz11
            have hcz11_2 := cellS55_2 HGz11
            have hfz11_0 := blk_frozen HGz11 0
            have hfz11_1 := blk_frozen HGz11 1
            have hfz11_2 := blk_frozen HGz11 2
            clear HGz11 hgz11
            go_wp2
            repeat (go_quiet (fail); try go_wp2)
            go_meet
            case rel => exact ⟨_, (false), (by first | rfl | (simp; done) | (simp [*]; done) | (generalize ByteArray.toList _ = l_; cases l_ <;> rfl)), H', ⟨by have := HK1.out; first | omega | exact Nat.le_refl _⟩, ⟨by repeat (first | (with_reducible first | exact HI0.out | apply IsS55.alloc | apply IsS55.drewN | apply IsS55.drew | apply IsS55.set_0 | apply IsS55.set_1 | apply IsS55.set_2) | exact HI0.out)⟩, ⟨by repeat (first | (with_reducible first | exact HK.out | apply KeepBut.set_ | apply keep_drewN | apply keep_drew | apply keep_alloc) | exact HK.out)⟩, ⟨by repeat (first | (with_reducible first | exact HB.out | apply below_alloc | apply pw_below_drewN | apply below_drew1 | refine below_set ?_ (IsS55.ge HI0.out)) | exact HB.out)⟩⟩
        case rest =>
          clear HC5
          try clear c2
          try clear p2
          try clear c5
          try clear c6
          try clear c6b0
          try clear p6
          try clear c8
          try clear c8b0
          try clear p9
          try clear q9
          try clear hx9
          try clear hcz10_0
          try clear hcz10_1
          try clear hcz10_2
          try clear hcz11_0
          try clear hcz11_1
          try clear hcz11_2
          try clear hcz3_0
          try clear hcz3_1
          try clear hcz3_2
          try clear hcz4_0
          try clear hcz4_1
          try clear hcz4_2
          try clear hfz10_0
          try clear hfz10_1
          try clear hfz10_2
          try clear hfz11_0
          try clear hfz11_1
          try clear hfz11_2
          try clear hfz3_0
          try clear hfz3_1
          try clear hfz3_2
          try clear hfz4_0
          try clear hfz4_1
          try clear hfz4_2
          try clear p2
          try clear p9
          try clear q9
          obtain ⟨kq, x36_4, rfl, HA, HJ4, HI0, HK, HB⟩ := hcut
          cases kq with
          | zero => exact absurd HA.out (by simp [mortmainref01_Reader_Int.j1])
          | succ kj4 =>
            have H := HA.out
            clear HA
            simp only [mortmainref01_Reader_Int.j1] at H
            by_cases c12 : x36_4 = true
            · subst c12
              have H1 : (mortmainref01_Reader_Int.l0 kj4 (wrap64 (x3_1 + 1)) s0_0 s0_1 false) = some (r1, r2, r3, r4) := by rw [if_pos rfl] at H; exact H
              clear H
              have H := H1
              clear H1
              have H' := Aside0.mk H
              clear H
              go_wp2
              repeat (go_quiet (fail); try go_wp2)
              go_roundg kj4
              case measure => have := HK1.out; have := HJ4.out; omega
              case rel => exact ⟨(wrap64 (x3_1 + 1)), (by first | rfl | (simp; done) | (simp [*]; done) | (generalize ByteArray.toList _ = l_; cases l_ <;> rfl)), H', ⟨by have := HK1.out; have := HJ4.out; omega⟩, ⟨by repeat (first | (with_reducible first | exact HI0.out | apply IsS55.alloc | apply IsS55.drewN | apply IsS55.drew | apply IsS55.set_0 | apply IsS55.set_1 | apply IsS55.set_2) | exact HI0.out)⟩, ⟨by repeat (first | (with_reducible first | exact HK.out | apply KeepBut.set_ | apply keep_drewN | apply keep_drew | apply keep_alloc) | exact HK.out)⟩, ⟨by repeat (first | (with_reducible first | exact HB.out | apply below_alloc | apply pw_below_drewN | apply below_drew1 | refine below_set ?_ (IsS55.ge HI0.out)) | exact HB.out)⟩⟩
            · replace c12 := Bool.eq_false_iff.mpr c12
              subst c12
              have H1 : (if (wrap64 (s0_1 + x3_1)) ≥ (s0_0.size : Int) then (mortmainref01_Reader_Int.j2 kj4 x3_1 true s0_0 s0_1 false) else (mortmainref01_Reader_Int.j2 kj4 x3_1 (decide (x3_1 > 9)) s0_0 s0_1 false)) = some (r1, r2, r3, r4) := by rw [if_neg (show ¬ (false = true) by decide)] at H; exact H
              clear H
              have H := H1
              clear H1
              have HC13 := Aside0.mk H
              clear H
              go_upto_region 6 with (fail)
              repeat (go_quiet (fail); go_upto_region 6 with (fail))
              go_cut [54] (fun v54 wc => ∃ (kq : Nat) (x54_12 : Bool), v54 = .bool x54_12 ∧ Aside0 (mortmainref01_Reader_Int.j2 kq x3_1 x54_12 s0_0 s0_1 false = some (r1, r2, r3, r4)) ∧ Aside0 (kq ≤ kj4) ∧ Aside0 (IsS55 w0 wc g s0_0 s0_1 false) ∧ Aside0 (KeepBut w wc g none) ∧ Aside0 (Below w0.heap.size w0 wc))
              case first =>
                have H := HC13.out
                clear HC13
                by_cases c14 : (wrap64 (s0_1 + x3_1)) ≥ (s0_0.size : Int)
                · rw [if_pos c14] at H
                  have c14b0 : decide ((s0_0.size : Int) ≤ (wrap64 (s0_1 + x3_1))) = true := decide_eq_true c14
                  clear c14
                  (first | rw [c14b0] | (simp only [i64_w, i32_w]; rw [c14b0]) | skip)
                  have H' := Aside0.mk H
                  clear H
                  obtain ⟨HGz15, hgz15⟩ := HI0.out
                  have hcz15_0 := cellS55_0 HGz15
                  have hcz15_1 := cellS55_1 HGz15
                  have hcz15_2 := cellS55_2 HGz15
                  have hfz15_0 := blk_frozen HGz15 0
                  have hfz15_1 := blk_frozen HGz15 1
                  have hfz15_2 := blk_frozen HGz15 2
                  clear HGz15 hgz15
                  go_wp2
                  repeat (go_quiet (fail); try go_wp2)
                  go_meet
                  case rel => exact ⟨_, (true), (by first | rfl | (simp; done) | (simp [*]; done) | (generalize ByteArray.toList _ = l_; cases l_ <;> rfl)), H', ⟨by have := HK1.out; have := HJ4.out; first | omega | exact Nat.le_refl _⟩, ⟨by repeat (first | (with_reducible first | exact HI0.out | apply IsS55.alloc | apply IsS55.drewN | apply IsS55.drew | apply IsS55.set_0 | apply IsS55.set_1 | apply IsS55.set_2) | exact HI0.out)⟩, ⟨by repeat (first | (with_reducible first | exact HK.out | apply KeepBut.set_ | apply keep_drewN | apply keep_drew | apply keep_alloc) | exact HK.out)⟩, ⟨by repeat (first | (with_reducible first | exact HB.out | apply below_alloc | apply pw_below_drewN | apply below_drew1 | refine below_set ?_ (IsS55.ge HI0.out)) | exact HB.out)⟩⟩
                · rw [if_neg c14] at H
                  have c14b0 : decide ((s0_0.size : Int) ≤ (wrap64 (s0_1 + x3_1))) = false := decide_eq_false c14
                  clear c14
                  (first | rw [c14b0] | (simp only [i64_w, i32_w]; rw [c14b0]) | skip)
                  have H' := Aside0.mk H
                  clear H
                  obtain ⟨HGz16, hgz16⟩ := HI0.out
                  have hcz16_0 := cellS55_0 HGz16
                  have hcz16_1 := cellS55_1 HGz16
                  have hcz16_2 := cellS55_2 HGz16
                  have hfz16_0 := blk_frozen HGz16 0
                  have hfz16_1 := blk_frozen HGz16 1
                  have hfz16_2 := blk_frozen HGz16 2
                  clear HGz16 hgz16
                  go_wp2
                  repeat (go_quiet (fail); try go_wp2)
                  go_meet
                  case rel => exact ⟨_, (decide (x3_1 > 9)), (by first | rfl | (simp; done) | (simp [*]; done) | (generalize ByteArray.toList _ = l_; cases l_ <;> rfl)), H', ⟨by have := HK1.out; have := HJ4.out; first | omega | exact Nat.le_refl _⟩, ⟨by repeat (first | (with_reducible first | exact HI0.out | apply IsS55.alloc | apply IsS55.drewN | apply IsS55.drew | apply IsS55.set_0 | apply IsS55.set_1 | apply IsS55.set_2) | exact HI0.out)⟩, ⟨by repeat (first | (with_reducible first | exact HK.out | apply KeepBut.set_ | apply keep_drewN | apply keep_drew | apply keep_alloc) | exact HK.out)⟩, ⟨by repeat (first | (with_reducible first | exact HB.out | apply below_alloc | apply pw_below_drewN | apply below_drew1 | refine below_set ?_ (IsS55.ge HI0.out)) | exact HB.out)⟩⟩
              case rest =>
                clear HC13
                try clear c1
                try clear c2
                try clear p2
                try clear c5
                try clear c6
                try clear c6b0
                try clear p6
                try clear c8
                try clear c8b0
                try clear p9
                try clear q9
                try clear hx9
                try clear c12
                try clear c14
                try clear c14b0
                try clear hcz10_0
                try clear hcz10_1
                try clear hcz10_2
                try clear hcz11_0
                try clear hcz11_1
                try clear hcz11_2
                try clear hcz15_0
                try clear hcz15_1
                try clear hcz15_2
                try clear hcz16_0
                try clear hcz16_1
                try clear hcz16_2
                try clear hcz3_0
                try clear hcz3_1
                try clear hcz3_2
                try clear hcz4_0
                try clear hcz4_1
                try clear hcz4_2
                try clear hfz10_0
                try clear hfz10_1
                try clear hfz10_2
                try clear hfz11_0
                try clear hfz11_1
                try clear hfz11_2
                try clear hfz15_0
                try clear hfz15_1
                try clear hfz15_2
                try clear hfz16_0
                try clear hfz16_1
                try clear hfz16_2
                try clear hfz3_0
                try clear hfz3_1
                try clear hfz3_2
                try clear hfz4_0
                try clear hfz4_1
                try clear hfz4_2
                try clear p2
                try clear p6
                try clear p9
                try clear q9
                obtain ⟨kq, x54_12, rfl, HA, HJ12, HI0, HK, HB⟩ := hcut
                cases kq with
                | zero => exact absurd HA.out (by simp [mortmainref01_Reader_Int.j2])
                | succ kj12 =>
                  have H := HA.out
                  clear HA
                  simp only [mortmainref01_Reader_Int.j2] at H
                  by_cases c17 : x54_12 = true
                  · subst c17
                    have H1 : (some (0, s0_0, s0_1, true)) = some (r1, r2, r3, r4) := by rw [if_pos rfl] at H; exact H
                    clear H
                    have H := H1
                    clear H1
                    simp only [Option.some.injEq, Prod.mk.injEq] at H
                    obtain ⟨rfl, rfl, rfl, rfl⟩ := H
                    obtain ⟨HGz18, hgz18⟩ := HI0.out
                    have hcz18_0 := cellS55_0 HGz18
                    have hcz18_1 := cellS55_1 HGz18
                    have hcz18_2 := cellS55_2 HGz18
                    have hfz18_0 := blk_frozen HGz18 0
                    have hfz18_1 := blk_frozen HGz18 1
                    have hfz18_2 := blk_frozen HGz18 2
                    clear HGz18 hgz18
                    go_wp2
                    repeat (go_quiet (fail); try go_wp2)
                    go_ret
                    exact ⟨by first | rfl | (simp [errW_none, errW_some] <;> rfl) | (simp [*, errW_none, errW_some] <;> rfl), by repeat (first | (with_reducible first | exact HI0.out | apply IsS55.alloc | apply IsS55.drewN | apply IsS55.drew | apply IsS55.set_0 | apply IsS55.set_1 | apply IsS55.set_2) | exact HI0.out), by repeat (first | (with_reducible first | exact HB.out | apply below_alloc | apply pw_below_drewN | apply below_drew1 | refine below_set ?_ (IsS55.ge HI0.out)) | exact HB.out), by repeat (first | (with_reducible first | exact HK.out | apply KeepBut.set_ | apply keep_drewN | apply keep_drew | apply keep_alloc) | exact HK.out)⟩
                  · replace c17 := Bool.eq_false_iff.mpr c17
                    subst c17
                    have H1 : (mortmainref01_Reader_Int.l1 kj12 x3_1 0 x3_1 s0_0 s0_1 false) = some (r1, r2, r3, r4) := by rw [if_neg (show ¬ (false = true) by decide)] at H; exact H
                    clear H
                    have H := H1
                    clear H1
                    have H' := Aside0.mk H
                    clear H
                    go_wp2
                    repeat (go_quiet (fail); try go_wp2)
                    go_loopg [4, 5] kj12 (fun kq v4 v5 w' => ∃ (x4_4 : Int) (x5_4 : Int), v4 = .int .u64 x4_4 ∧ v5 = .int .i64 x5_4 ∧ Aside0 (mortmainref01_Reader_Int.l1 kq x3_1 x4_4 x5_4 s0_0 s0_1 false = some (r1, r2, r3, r4)) ∧ Aside0 (kq ≤ kj12) ∧ Aside0 (IsS55 w0 w' g s0_0 s0_1 false) ∧ Aside0 (KeepBut w w' g none) ∧ Aside0 (Below w0.heap.size w0 w'))
                    case atStart => exact ⟨(0), (x3_1), (by first | rfl | (simp; done) | (simp [*]; done) | (generalize ByteArray.toList _ = l_; cases l_ <;> rfl)), (by first | rfl | (simp; done) | (simp [*]; done) | (generalize ByteArray.toList _ = l_; cases l_ <;> rfl)), H', ⟨Nat.le_refl _⟩, ⟨by repeat (first | (with_reducible first | exact HI0.out | apply IsS55.alloc | apply IsS55.drewN | apply IsS55.drew | apply IsS55.set_0 | apply IsS55.set_1 | apply IsS55.set_2) | exact HI0.out)⟩, ⟨by repeat (first | (with_reducible first | exact HK.out | apply KeepBut.set_ | apply keep_drewN | apply keep_drew | apply keep_alloc) | exact HK.out)⟩, ⟨by repeat (first | (with_reducible first | exact HB.out | apply below_alloc | apply pw_below_drewN | apply below_drew1 | refine below_set ?_ (IsS55.ge HI0.out)) | exact HB.out)⟩⟩
                    case round =>
                      clear H'
                      try clear c1
                      try clear c2
                      try clear p2
                      try clear c5
                      try clear c6
                      try clear c6b0
                      try clear p6
                      try clear c8
                      try clear c8b0
                      try clear p9
                      try clear q9
                      try clear hx9
                      try clear c12
                      try clear c14
                      try clear c14b0
                      try clear c17
                      try clear hcz10_0
                      try clear hcz10_1
                      try clear hcz10_2
                      try clear hcz11_0
                      try clear hcz11_1
                      try clear hcz11_2
                      try clear hcz15_0
                      try clear hcz15_1
                      try clear hcz15_2
                      try clear hcz16_0
                      try clear hcz16_1
                      try clear hcz16_2
                      try clear hcz18_0
                      try clear hcz18_1
                      try clear hcz18_2
                      try clear hcz3_0
                      try clear hcz3_1
                      try clear hcz3_2
                      try clear hcz4_0
                      try clear hcz4_1
                      try clear hcz4_2
                      try clear hfz10_0
                      try clear hfz10_1
                      try clear hfz10_2
                      try clear hfz11_0
                      try clear hfz11_1
                      try clear hfz11_2
                      try clear hfz15_0
                      try clear hfz15_1
                      try clear hfz15_2
                      try clear hfz16_0
                      try clear hfz16_1
                      try clear hfz16_2
                      try clear hfz18_0
                      try clear hfz18_1
                      try clear hfz18_2
                      try clear hfz3_0
                      try clear hfz3_1
                      try clear hfz3_2
                      try clear hfz4_0
                      try clear hfz4_1
                      try clear hfz4_2
                      try clear p2
                      try clear p6
                      try clear p9
                      try clear q9
                      obtain ⟨x4_4, x5_4, rfl, rfl, HA, HK4, HI0, HK, HB⟩ := hrel
                      cases gk with
                      | zero => exact absurd HA.out (by simp [mortmainref01_Reader_Int.l1])
                      | succ k4 =>
                        have H := HA.out
                        clear HA
                        simp only [mortmainref01_Reader_Int.l1] at H
                        by_cases c19 : x5_4 ≥ 0
                        · rw [if_pos c19] at H
                          have c19b0 : decide (0 ≤ x5_4) = true := decide_eq_true c19
                          clear c19
                          obtain ⟨ji20, hji20⟩ : ∃ j_ : Int, (wrap64 (s0_1 + x5_4)) = j_ := ⟨_, rfl⟩
                          replace H : (if 0 ≤ (ji20) then (if (ji20) < (s0_0.size : Int) then (mortmainref01_Reader_Int.l1 k4 x3_1 (IntKind.u64.wrap ((IntKind.u64.wrap (x4_4 * 128)) + (IntKind.u64.wrap (Int.tmod (bt s0_0 (ji20)) 128)))) (wrap64 (x5_4 - 1)) s0_0 s0_1 false) else (none)) else (none)) = some (r1, r2, r3, r4) := by first | (rw [hji20] at H; exact H) | (simp only [hji20] at H ⊢; exact H)
                          have hji20w : (IntKind.i64.wrap (s0_1 + x5_4)) = ji20 := (i64_w _).trans hji20
                          by_cases c21 : 0 ≤ (ji20)
                          · rw [if_pos c21] at H
                            have c21b0 : decide (0 ≤ (ji20)) = true := decide_eq_true c21
                            clear c21
                            by_cases c22 : (ji20) < (s0_0.size : Int)
                            · rw [if_pos c22] at H
                              have c22b0 : decide ((ji20) < (s0_0.size : Int)) = true := decide_eq_true c22
                              clear c22
                              have H' := Aside0.mk H
                              clear H
                              obtain ⟨HGz24, hgz24⟩ := HI0.out
                              have hcz24_0 := cellS55_0 HGz24
                              have hcz24_1 := cellS55_1 HGz24
                              have hcz24_2 := cellS55_2 HGz24
                              have hfz24_0 := blk_frozen HGz24 0
                              have hfz24_1 := blk_frozen HGz24 1
                              have hfz24_2 := blk_frozen HGz24 2
                              clear HGz24 hgz24
                              have p23 : 0 ≤ ((ji20) : Int) := of_decide_eq_true (by first | (with_reducible assumption) | assumption)
                              have q23 : (ji20) < (s0_0.size : Int) := of_decide_eq_true (by first | (with_reducible assumption) | assumption)
                              have hx23 := bt_at s0_0 (ji20)
                              replace p23 := eq_true p23
                              replace q23 := eq_true q23
                              go_wp2
                              repeat (go_quiet (fail); try go_wp2)
                              go_roundg k4
                              case measure => have := HK1.out; have := HJ4.out; have := HJ12.out; have := HK4.out; omega
                              case rel => exact ⟨(IntKind.u64.wrap ((IntKind.u64.wrap (x4_4 * 128)) + (IntKind.u64.wrap (Int.tmod (bt s0_0 (ji20)) 128)))), (wrap64 (x5_4 - 1)), (by first | rfl | (simp; done) | (simp only [← hji20] <;> (first | rfl | simp)) | (simp [*]; done)), (by first | rfl | (simp; done) | (simp [*]; done) | (generalize ByteArray.toList _ = l_; cases l_ <;> rfl)), H', ⟨by have := HK1.out; have := HJ4.out; have := HJ12.out; have := HK4.out; omega⟩, ⟨by repeat (first | (with_reducible first | exact HI0.out | apply IsS55.alloc | apply IsS55.drewN | apply IsS55.drew | apply IsS55.set_0 | apply IsS55.set_1 | apply IsS55.set_2) | exact HI0.out)⟩, ⟨by repeat (first | (with_reducible first | exact HK.out | apply KeepBut.set_ | apply keep_drewN | apply keep_drew | apply keep_alloc) | exact HK.out)⟩, ⟨by repeat (first | (with_reducible first | exact HB.out | apply below_alloc | apply pw_below_drewN | apply below_drew1 | refine below_set ?_ (IsS55.ge HI0.out)) | exact HB.out)⟩⟩
                            · rw [if_neg c22] at H
                              exact absurd H (by simp)
                          · rw [if_neg c21] at H
                            exact absurd H (by simp)
                        · rw [if_neg c19] at H
                          have c19b0 : decide (0 ≤ x5_4) = false := decide_eq_false c19
                          clear c19
                          obtain ⟨ji25, hji25⟩ : ∃ j_ : Int, (wrap64 (s0_1 + x3_1)) = j_ := ⟨_, rfl⟩
                          replace H : (if 0 ≤ (ji25) then (if (ji25) < (s0_0.size : Int) then (if x3_1 = 9 then (if (bt s0_0 (ji25)) > 1 then (mortmainref01_Reader_Int.j4 k4 x3_1 x4_4 true s0_0 s0_1 false) else (if x3_1 > 0 then (mortmainref01_Reader_Int.j4 k4 x3_1 x4_4 ((bt s0_0 (ji25)) == 0) s0_0 s0_1 false) else (mortmainref01_Reader_Int.j4 k4 x3_1 x4_4 false s0_0 s0_1 false))) else (if x3_1 > 0 then (mortmainref01_Reader_Int.j4 k4 x3_1 x4_4 ((bt s0_0 (ji25)) == 0) s0_0 s0_1 false) else (mortmainref01_Reader_Int.j4 k4 x3_1 x4_4 false s0_0 s0_1 false))) else (none)) else (none)) = some (r1, r2, r3, r4) := by first | (rw [hji25] at H; exact H) | (simp only [hji25] at H ⊢; exact H)
                          have hji25w : (IntKind.i64.wrap (s0_1 + x3_1)) = ji25 := (i64_w _).trans hji25
                          by_cases c26 : 0 ≤ (ji25)
                          · rw [if_pos c26] at H
                            have c26b0 : decide (0 ≤ (ji25)) = true := decide_eq_true c26
                            clear c26
                            by_cases c27 : (ji25) < (s0_0.size : Int)
                            · rw [if_pos c27] at H
                              have c27b0 : decide ((ji25) < (s0_0.size : Int)) = true := decide_eq_true c27
                              clear c27
                              have HC29 := Aside0.mk H
                              clear H
                              obtain ⟨HGz30, hgz30⟩ := HI0.out
                              have hcz30_0 := cellS55_0 HGz30
                              have hcz30_1 := cellS55_1 HGz30
                              have hcz30_2 := cellS55_2 HGz30
                              have hfz30_0 := blk_frozen HGz30 0
                              have hfz30_1 := blk_frozen HGz30 1
                              have hfz30_2 := blk_frozen HGz30 2
                              clear HGz30 hgz30
                              have p28 : 0 ≤ ((ji25) : Int) := of_decide_eq_true (by first | (with_reducible assumption) | assumption)
                              have q28 : (ji25) < (s0_0.size : Int) := of_decide_eq_true (by first | (with_reducible assumption) | assumption)
                              have hx28 := bt_at s0_0 (ji25)
                              replace p28 := eq_true p28
                              replace q28 := eq_true q28
                              go_upto_region 15 with (fail)
                              repeat (go_quiet (fail); go_upto_region 15 with (fail))
                              go_cut [103] (fun v103 wc => ∃ (kq : Nat) (x103_28 : Bool), v103 = .bool x103_28 ∧ Aside0 (mortmainref01_Reader_Int.j4 kq x3_1 x4_4 x103_28 s0_0 s0_1 false = some (r1, r2, r3, r4)) ∧ Aside0 (kq ≤ k4) ∧ Aside0 (IsS55 w0 wc g s0_0 s0_1 false) ∧ Aside0 (KeepBut w wc g none) ∧ Aside0 (Below w0.heap.size w0 wc))
                              case first =>
                                have H := HC29.out
                                clear HC29
                                by_cases c31 : x3_1 = 9
                                · rw [if_pos c31] at H
                                  have c31b0 : (x3_1 == 9) = true := beq_iff_eq.mpr c31
                                  have c31b1 : (x3_1 != 9) = false := bne_eq_false_iff_eq.mpr c31
                                  clear c31
                                  (first | rw [c31b0] | (simp only [i64_w, i32_w]; rw [c31b0]) | skip)
                                  by_cases c32 : (bt s0_0 (ji25)) > 1
                                  · rw [if_pos c32] at H
                                    have c32b0 : decide (1 < (bt s0_0 (ji25))) = true := decide_eq_true c32
                                    clear c32
                                    have H' := Aside0.mk H
                                    clear H
                                    go_wp2
                                    repeat (go_quiet (fail); try go_wp2)
                                    go_meet
                                    case rel => exact ⟨_, (true), (by first | rfl | (simp; done) | (simp [*]; done) | (generalize ByteArray.toList _ = l_; cases l_ <;> rfl)), H', ⟨by have := HK1.out; have := HJ4.out; have := HJ12.out; have := HK4.out; first | omega | exact Nat.le_refl _⟩, ⟨by repeat (first | (with_reducible first | exact HI0.out | apply IsS55.alloc | apply IsS55.drewN | apply IsS55.drew | apply IsS55.set_0 | apply IsS55.set_1 | apply IsS55.set_2) | exact HI0.out)⟩, ⟨by repeat (first | (with_reducible first | exact HK.out | apply KeepBut.set_ | apply keep_drewN | apply keep_drew | apply keep_alloc) | exact HK.out)⟩, ⟨by repeat (first | (with_reducible first | exact HB.out | apply below_alloc | apply pw_below_drewN | apply below_drew1 | refine below_set ?_ (IsS55.ge HI0.out)) | exact HB.out)⟩⟩
                                  · rw [if_neg c32] at H
                                    have c32b0 : decide (1 < (bt s0_0 (ji25))) = false := decide_eq_false c32
                                    clear c32
                                    by_cases c33 : x3_1 > 0
                                    · rw [if_pos c33] at H
                                      have c33b0 : decide (0 < x3_1) = true := decide_eq_true c33
                                      clear c33
                                      have H' := Aside0.mk H
                                      clear H
                                      go_wp2
                                      repeat (go_quiet (fail); try go_wp2)
                                      go_meet
                                      case rel => exact ⟨_, (((bt s0_0 (ji25)) == 0)), (by first | rfl | (simp; done) | (simp only [← hji25] <;> (first | rfl | simp)) | (simp [*]; done)), H', ⟨by have := HK1.out; have := HJ4.out; have := HJ12.out; have := HK4.out; first | omega | exact Nat.le_refl _⟩, ⟨by repeat (first | (with_reducible first | exact HI0.out | apply IsS55.alloc | apply IsS55.drewN | apply IsS55.drew | apply IsS55.set_0 | apply IsS55.set_1 | apply IsS55.set_2) | exact HI0.out)⟩, ⟨by repeat (first | (with_reducible first | exact HK.out | apply KeepBut.set_ | apply keep_drewN | apply keep_drew | apply keep_alloc) | exact HK.out)⟩, ⟨by repeat (first | (with_reducible first | exact HB.out | apply below_alloc | apply pw_below_drewN | apply below_drew1 | refine below_set ?_ (IsS55.ge HI0.out)) | exact HB.out)⟩⟩
                                    · rw [if_neg c33] at H
                                      have c33b0 : decide (0 < x3_1) = false := decide_eq_false c33
                                      clear c33
                                      have H' := Aside0.mk H
                                      clear H
                                      go_wp2
                                      repeat (go_quiet (fail); try go_wp2)
                                      go_meet
                                      case rel => exact ⟨_, (false), (by first | rfl | (simp; done) | (simp [*]; done) | (generalize ByteArray.toList _ = l_; cases l_ <;> rfl)), H', ⟨by have := HK1.out; have := HJ4.out; have := HJ12.out; have := HK4.out; first | omega | exact Nat.le_refl _⟩, ⟨by repeat (first | (with_reducible first | exact HI0.out | apply IsS55.alloc | apply IsS55.drewN | apply IsS55.drew | apply IsS55.set_0 | apply IsS55.set_1 | apply IsS55.set_2) | exact HI0.out)⟩, ⟨by repeat (first | (with_reducible first | exact HK.out | apply KeepBut.set_ | apply keep_drewN | apply keep_drew | apply keep_alloc) | exact HK.out)⟩, ⟨by repeat (first | (with_reducible first | exact HB.out | apply below_alloc | apply pw_below_drewN | apply below_drew1 | refine below_set ?_ (IsS55.ge HI0.out)) | exact HB.out)⟩⟩
                                · rw [if_neg c31] at H
                                  have c31b0 : (x3_1 == 9) = false := beq_eq_false_iff_ne.mpr c31
                                  have c31b1 : (x3_1 != 9) = true := bne_iff_ne.mpr c31
                                  (first | rw [c31b0] | (simp only [i64_w, i32_w]; rw [c31b0]) | skip)
                                  by_cases c34 : x3_1 > 0
                                  · rw [if_pos c34] at H
                                    have c34b0 : decide (0 < x3_1) = true := decide_eq_true c34
                                    clear c34
                                    have H' := Aside0.mk H
                                    clear H
                                    go_wp2
                                    repeat (go_quiet (fail); try go_wp2)
                                    go_meet
                                    case rel => exact ⟨_, (((bt s0_0 (ji25)) == 0)), (by first | rfl | (simp; done) | (simp only [← hji25] <;> (first | rfl | simp)) | (simp [*]; done)), H', ⟨by have := HK1.out; have := HJ4.out; have := HJ12.out; have := HK4.out; first | omega | exact Nat.le_refl _⟩, ⟨by repeat (first | (with_reducible first | exact HI0.out | apply IsS55.alloc | apply IsS55.drewN | apply IsS55.drew | apply IsS55.set_0 | apply IsS55.set_1 | apply IsS55.set_2) | exact HI0.out)⟩, ⟨by repeat (first | (with_reducible first | exact HK.out | apply KeepBut.set_ | apply keep_drewN | apply keep_drew | apply keep_alloc) | exact HK.out)⟩, ⟨by repeat (first | (with_reducible first | exact HB.out | apply below_alloc | apply pw_below_drewN | apply below_drew1 | refine below_set ?_ (IsS55.ge HI0.out)) | exact HB.out)⟩⟩
                                  · rw [if_neg c34] at H
                                    have c34b0 : decide (0 < x3_1) = false := decide_eq_false c34
                                    clear c34
                                    have H' := Aside0.mk H
                                    clear H
                                    go_wp2
                                    repeat (go_quiet (fail); try go_wp2)
                                    go_meet
                                    case rel => exact ⟨_, (false), (by first | rfl | (simp; done) | (simp [*]; done) | (generalize ByteArray.toList _ = l_; cases l_ <;> rfl)), H', ⟨by have := HK1.out; have := HJ4.out; have := HJ12.out; have := HK4.out; first | omega | exact Nat.le_refl _⟩, ⟨by repeat (first | (with_reducible first | exact HI0.out | apply IsS55.alloc | apply IsS55.drewN | apply IsS55.drew | apply IsS55.set_0 | apply IsS55.set_1 | apply IsS55.set_2) | exact HI0.out)⟩, ⟨by repeat (first | (with_reducible first | exact HK.out | apply KeepBut.set_ | apply keep_drewN | apply keep_drew | apply keep_alloc) | exact HK.out)⟩, ⟨by repeat (first | (with_reducible first | exact HB.out | apply below_alloc | apply pw_below_drewN | apply below_drew1 | refine below_set ?_ (IsS55.ge HI0.out)) | exact HB.out)⟩⟩
                              case rest =>
                                clear HC29
                                try clear c1
                                try clear c2
                                try clear p2
                                try clear q2
                                try clear hx2
                                try clear c3
                                try clear c5
                                try clear c6
                                try clear c6b0
                                try clear p6
                                try clear c8
                                try clear c8b0
                                try clear p9
                                try clear q9
                                try clear hx9
                                try clear c12
                                try clear c14
                                try clear c14b0
                                try clear c17
                                try clear c19
                                try clear c19b0
                                try clear c21
                                try clear c21b0
                                try clear c22
                                try clear c22b0
                                try clear p23
                                try clear q23
                                try clear hx23
                                try clear c26
                                try clear c26b0
                                try clear c27
                                try clear c27b0
                                try clear p28
                                try clear q28
                                try clear hx28
                                try clear c31
                                try clear c31b0
                                try clear c31b1
                                try clear c32
                                try clear c32b0
                                try clear c33
                                try clear c33b0
                                try clear c34
                                try clear c34b0
                                try clear hcz10_0
                                try clear hcz10_1
                                try clear hcz10_2
                                try clear hcz11_0
                                try clear hcz11_1
                                try clear hcz11_2
                                try clear hcz15_0
                                try clear hcz15_1
                                try clear hcz15_2
                                try clear hcz16_0
                                try clear hcz16_1
                                try clear hcz16_2
                                try clear hcz18_0
                                try clear hcz18_1
                                try clear hcz18_2
                                try clear hcz24_0
                                try clear hcz24_1
                                try clear hcz24_2
                                try clear hcz30_0
                                try clear hcz30_1
                                try clear hcz30_2
                                try clear hcz3_0
                                try clear hcz3_1
                                try clear hcz3_2
                                try clear hcz4_0
                                try clear hcz4_1
                                try clear hcz4_2
                                try clear hfz10_0
                                try clear hfz10_1
                                try clear hfz10_2
                                try clear hfz11_0
                                try clear hfz11_1
                                try clear hfz11_2
                                try clear hfz15_0
                                try clear hfz15_1
                                try clear hfz15_2
                                try clear hfz16_0
                                try clear hfz16_1
                                try clear hfz16_2
                                try clear hfz18_0
                                try clear hfz18_1
                                try clear hfz18_2
                                try clear hfz24_0
                                try clear hfz24_1
                                try clear hfz24_2
                                try clear hfz30_0
                                try clear hfz30_1
                                try clear hfz30_2
                                try clear hfz3_0
                                try clear hfz3_1
                                try clear hfz3_2
                                try clear hfz4_0
                                try clear hfz4_1
                                try clear hfz4_2
                                try clear p2
                                try clear p23
                                try clear p28
                                try clear p6
                                try clear p9
                                try clear q23
                                try clear q28
                                try clear q9
                                obtain ⟨kq, x103_28, rfl, HA, HJ28, HI0, HK, HB⟩ := hcut
                                cases kq with
                                | zero => exact absurd HA.out (by simp [mortmainref01_Reader_Int.j4])
                                | succ kj28 =>
                                  have H := HA.out
                                  clear HA
                                  simp only [mortmainref01_Reader_Int.j4] at H
                                  by_cases c35 : x103_28 = true
                                  · subst c35
                                    have H1 : (some (0, s0_0, s0_1, true)) = some (r1, r2, r3, r4) := by rw [if_pos rfl] at H; exact H
                                    clear H
                                    have H := H1
                                    clear H1
                                    simp only [Option.some.injEq, Prod.mk.injEq] at H
                                    obtain ⟨rfl, rfl, rfl, rfl⟩ := H
                                    obtain ⟨HGz36, hgz36⟩ := HI0.out
                                    have hcz36_0 := cellS55_0 HGz36
                                    have hcz36_1 := cellS55_1 HGz36
                                    have hcz36_2 := cellS55_2 HGz36
                                    have hfz36_0 := blk_frozen HGz36 0
                                    have hfz36_1 := blk_frozen HGz36 1
                                    have hfz36_2 := blk_frozen HGz36 2
                                    clear HGz36 hgz36
                                    go_wp2
                                    repeat (go_quiet (fail); try go_wp2)
                                    go_ret
                                    exact ⟨by first | rfl | (simp [errW_none, errW_some] <;> rfl) | (simp only [← hji25]; first | rfl | (simp [errW_none, errW_some] <;> rfl)) | (simp [*, errW_none, errW_some] <;> rfl), by (try simp only [hji25]); repeat (first | (with_reducible first | exact HI0.out | apply IsS55.alloc | apply IsS55.drewN | apply IsS55.drew | apply IsS55.set_0 | apply IsS55.set_1 | apply IsS55.set_2) | exact HI0.out), by repeat (first | (with_reducible first | exact HB.out | apply below_alloc | apply pw_below_drewN | apply below_drew1 | refine below_set ?_ (IsS55.ge HI0.out)) | exact HB.out), by repeat (first | (with_reducible first | exact HK.out | apply KeepBut.set_ | apply keep_drewN | apply keep_drew | apply keep_alloc) | exact HK.out)⟩
                                  · replace c35 := Bool.eq_false_iff.mpr c35
                                    subst c35
                                    have H1 : ((mortmainref01_Signed.f x4_4).bind fun t183 => (some (t183, s0_0, wrap64 ((wrap64 (s0_1 + x3_1)) + 1), false))) = some (r1, r2, r3, r4) := by rw [if_neg (show ¬ (false = true) by decide)] at H; exact H
                                    clear H
                                    have H := H1
                                    clear H1
                                    replace H := Option.bind_eq_some_iff.mp H
                                    obtain ⟨t183, A370, H⟩ := H
                                    replace H : (some (t183, s0_0, wrap64 ((wrap64 (s0_1 + x3_1)) + 1), false)) = some (r1, r2, r3, r4) := H
                                    have A37 := Aside0.mk A370
                                    clear A370
                                    simp only [Option.some.injEq, Prod.mk.injEq] at H
                                    obtain ⟨rfl, rfl, rfl, rfl⟩ := H
                                    obtain ⟨HGz38, hgz38⟩ := HI0.out
                                    have hcz38_0 := cellS55_0 HGz38
                                    have hcz38_1 := cellS55_1 HGz38
                                    have hcz38_2 := cellS55_2 HGz38
                                    have hfz38_0 := blk_frozen HGz38 0
                                    have hfz38_1 := blk_frozen HGz38 1
                                    have hfz38_2 := blk_frozen HGz38 2
                                    clear HGz38 hgz38
                                    go_wp2_with (first | (go_at_call 84; (with_reducible refine (mortmainref01_Signed.calls x4_4 t183 _ A37.out).mono ?_); rintro e w' ⟨rfl, ⟨nd, rfl⟩⟩; (try first | exact ⟨rfl, _, World.drewN_drewN _ _ _⟩ | exact ⟨rfl, _, Eq.trans (World.drewN_drewN _ _ _) (congrArg (World.drewN _) (Nat.add_assoc _ _ _))⟩)))
                                    repeat (go_quiet (first | (go_at_call 84; (with_reducible refine (mortmainref01_Signed.calls x4_4 t183 _ A37.out).mono ?_); rintro e w' ⟨rfl, ⟨nd, rfl⟩⟩; (try first | exact ⟨rfl, _, World.drewN_drewN _ _ _⟩ | exact ⟨rfl, _, Eq.trans (World.drewN_drewN _ _ _) (congrArg (World.drewN _) (Nat.add_assoc _ _ _))⟩))); try go_wp2_with (first | (go_at_call 84; (with_reducible refine (mortmainref01_Signed.calls x4_4 t183 _ A37.out).mono ?_); rintro e w' ⟨rfl, ⟨nd, rfl⟩⟩; (try first | exact ⟨rfl, _, World.drewN_drewN _ _ _⟩ | exact ⟨rfl, _, Eq.trans (World.drewN_drewN _ _ _) (congrArg (World.drewN _) (Nat.add_assoc _ _ _))⟩))))
                                    go_ret
                                    exact ⟨by first | rfl | (simp [errW_none, errW_some] <;> rfl) | (simp only [← hji25]; first | rfl | (simp [errW_none, errW_some] <;> rfl)) | (simp [*, errW_none, errW_some] <;> rfl), by (try simp only [hji25]); repeat (first | (with_reducible first | exact HI0.out | apply IsS55.alloc | apply IsS55.drewN | apply IsS55.drew | apply IsS55.set_0 | apply IsS55.set_1 | apply IsS55.set_2) | exact HI0.out), by repeat (first | (with_reducible first | exact HB.out | apply below_alloc | apply pw_below_drewN | apply below_drew1 | refine below_set ?_ (IsS55.ge HI0.out)) | exact HB.out), by repeat (first | (with_reducible first | exact HK.out | apply KeepBut.set_ | apply keep_drewN | apply keep_drew | apply keep_alloc) | exact HK.out)⟩
                            · rw [if_neg c27] at H
                              exact absurd H (by simp)
                          · rw [if_neg c26] at H
                            exact absurd H (by simp)

end Go.Proofs.YtmaciepkkianhabGreatDoor.QRows

set_option linter.unusedSimpArgs false
namespace Go.Proofs.YtmaciepkkianhabGreatDoor.M
open Go.RowKit Go.Proofs.YtmaciepkkianhabGreatDoor.H Go.Proofs.YtmaciepkkianhabGreatDoor.QRows Go.Proofs.YtmaciepkkianhabGreatDoorW.PrintWords Go.Proofs.YtmaciepkkianhabGreatDoorW.PrintMore

theorem bt_get (s : ByteArray) (i : Nat) (h : i < s.size) : bt s (i : Int) = (s.data.toList[i]'(by rw [← Sz]; exact h)).toNat := by
  unfold bt
  rw [dif_pos (show ((i : Int).toNat) < s.size from h)]
  rfl
def sgn (u : Nat) : Int := if u % 2 = 0 then ((u / 2 : Nat) : Int) else -((u / 2 : Nat) : Int) - 1
theorem xor0 (x : Nat) (hx : x < 9223372036854775808) : bits .xor .i64 (x : Int) 0 = x := by
  show IntKind.i64.wrap ((BitVec.ofInt 64 (x : Int) ^^^ BitVec.ofInt 64 0).toNat : Int) = _
  have h2 : (BitVec.ofInt 64 (x : Int)).toNat = x := by
    rw [BitVec.ofInt_natCast, BitVec.toNat_ofNat]; exact Nat.mod_eq_of_lt (by omega)
  have h1 : (BitVec.ofInt 64 0).toNat = 0 := by decide
  rw [BitVec.toNat_xor, h1, h2, Nat.xor_zero, IntKind.wrap_i64]
  omega
theorem xorm (x : Nat) (hx : x < 9223372036854775808) : bits .xor .i64 (x : Int) (-1) = -(x : Int) - 1 := by
  rw [← Lib.i64_not x hx]
  show IntKind.i64.wrap ((BitVec.ofInt 64 (x : Int) ^^^ BitVec.ofInt 64 (-1)).toNat : Int) = IntKind.i64.wrap ((BitVec.ofInt 64 (-1) ^^^ BitVec.ofInt 64 (x : Int)).toNat : Int)
  rw [BitVec.xor_comm]
theorem zag_f (u : Nat) (h : u < 18446744073709551616) : pack_zag.f (u : Int) = some (sgn u) := by
  unfold pack_zag.f sgn
  refine congrArg some ?_
  rw [Lib.u64_and1 _ (by omega) (by omega), w64 ((u : Int) / 2) (by omega), w64 ((u : Int) % 2) (by omega), w64 (-((u : Int) % 2)) (by omega)]
  by_cases h0 : u % 2 = 0
  · rw [if_pos h0, show -((u : Int) % 2) = 0 by omega, show (u : Int) / 2 = ((u / 2 : Nat) : Int) by omega]
    exact xor0 _ (by omega)
  · rw [if_neg h0, show -((u : Int) % 2) = -1 by omega, show (u : Int) / 2 = ((u / 2 : Nat) : Int) by omega]
    exact xorm _ (by omega)
theorem signed_f (u : Nat) (h : u < 18446744073709551616) : mortmainref01_Signed.f (u : Int) = some (sgn u) := by
  unfold mortmainref01_Signed.f sgn
  have e1 : Int.tmod (u : Int) 2 = ((u % 2 : Nat) : Int) := by rw [Int.tmod_eq_emod_of_nonneg (by omega)]; omega
  have e2 : Int.tdiv (u : Int) 2 = ((u / 2 : Nat) : Int) := by rw [Int.tdiv_eq_ediv_of_nonneg (by omega)]; omega
  rw [e1, e2, wrap_u64]
  by_cases h0 : u % 2 = 0
  · rw [if_pos h0, if_pos (by omega)]
    exact congrArg some (by rw [show ((u / 2 : Nat) : Int) % 18446744073709551616 = ((u / 2 : Nat) : Int) by omega]; exact w64 _ (by omega))
  · rw [if_neg h0, if_neg (by omega)]
    refine congrArg some ?_
    rw [show ((u / 2 : Nat) : Int) % 18446744073709551616 = ((u / 2 : Nat) : Int) by omega, w64 ((u / 2 : Nat) : Int) (by omega), w64 (-((u / 2 : Nat) : Int)) (by omega), w64 _ (by omega)]
theorem pow128 (i : Nat) : 2 ^ (7 * i) = 128 ^ i := by rw [Nat.pow_mul]
theorem pow128_le {i : Nat} (h : i ≤ 9) : 128 ^ i ≤ 9223372036854775808 := Nat.le_trans (Nat.pow_le_pow_right (by decide) h) (by decide)
theorem or_shl (u i c : Nat) (hu : u < 128 ^ i) (hi : i ≤ 9) (hc : c < 256) (h9 : i = 9 → c ≤ 1) :
    bits .or .u64 (u : Int) (shl .u64 (IntKind.u64.wrap (bits .and .u8 (c : Int) 127)) (wrap64 (7 * (i : Int)))) = ((u + c % 128 * 128 ^ i : Nat) : Int) := by
  have hp := pow128_le hi
  have hpp : 0 < 128 ^ i := Nat.pow_pos (by decide)
  have e1 : bits .and .u8 (c : Int) 127 = ((c % 128 : Nat) : Int) := by
    rw [u8_and (c : Int) 127 (by omega) (by omega) (by omega) (by omega), Int.toNat_natCast, show (127 : Int).toNat = 2 ^ 7 - 1 from rfl, Nat.and_two_pow_sub_one_eq_mod]
  have hm : c % 128 * 128 ^ i < 18446744073709551616 := by
    by_cases h : i = 9
    · subst h
      have := h9 rfl
      have h2 : c % 128 ≤ 1 := by omega
      calc c % 128 * 128 ^ 9 ≤ 1 * 128 ^ 9 := Nat.mul_le_mul_right _ h2
        _ < 18446744073709551616 := by decide
    · have h8 : 128 ^ i ≤ 128 ^ 8 := Nat.pow_le_pow_right (by decide) (by omega)
      calc c % 128 * 128 ^ i ≤ 127 * 128 ^ 8 := Nat.mul_le_mul (by omega) h8
        _ < 18446744073709551616 := by decide
  have e2 : shl .u64 (IntKind.u64.wrap (bits .and .u8 (c : Int) 127)) (wrap64 (7 * (i : Int))) = ((c % 128 * 128 ^ i : Nat) : Int) := by
    rw [e1, wrap_u64, w64 _ (by omega)]
    unfold shl
    rw [show (7 * (i : Int)).toNat = 7 * i by omega, Nat.min_eq_left (by show 7 * i ≤ 64; omega), show ((c % 128 : Nat) : Int) % 18446744073709551616 = ((c % 128 : Nat) : Int) by omega]
    rw [show ((c % 128 : Nat) : Int) * 2 ^ (7 * i) = ((c % 128 * 2 ^ (7 * i) : Nat) : Int) by simp, pow128, wrap_u64]
    omega
  rw [e2, u64_or _ _ (by omega) (by omega) (by omega) (by omega), Int.toNat_natCast, Int.toNat_natCast]
  congr 1
  rw [← pow128] at hu ⊢
  rw [Nat.or_comm, Nat.mul_comm (c % 128), ← Nat.two_pow_add_eq_or_of_lt hu, Nat.add_comm]
/-- A number out of bytes, seven digits a byte, from place i on; what stands behind it. -/
def rdF : Nat → Nat → List UInt8 → Option (Nat × List UInt8)
  | _, _, [] => none
  | i, u, c :: r => if 9 < i then none else if i = 9 ∧ 1 < c.toNat then none else
      if c.toNat < 128 then (if c.toNat = 0 ∧ 0 < i then none else some (u + c.toNat % 128 * 128 ^ i, r)) else rdF (i + 1) (u + c.toNat % 128 * 128 ^ i) r
theorem rdF_lt : ∀ (l : List UInt8) (i u : Nat), u < 128 ^ i → i ≤ 10 → ∀ v r, rdF i u l = some (v, r) → v < 18446744073709551616 ∧ r.length < l.length
  | [], i, u, hu, hi, v, r, h => by simp [rdF] at h
  | c :: q, i, u, hu, hi, v, r, h => by
    have hc := c.toNat_lt
    rw [rdF] at h
    split at h
    · cases h
    · split at h
      · cases h
      · rename_i h9 h1
        have hx : u + c.toNat % 128 * 128 ^ i < 128 ^ (i + 1) ∧ u + c.toNat % 128 * 128 ^ i < 18446744073709551616 := by
          have hpp : 0 < 128 ^ i := Nat.pow_pos (by decide)
          have hm : c.toNat % 128 < 128 := Nat.mod_lt _ (by decide)
          constructor
          · rw [Nat.pow_succ]
            have : (c.toNat % 128 + 1) * 128 ^ i ≤ 128 * 128 ^ i := Nat.mul_le_mul_right _ hm
            rw [Nat.add_mul] at this; omega
          · by_cases h : i = 9
            · subst h
              have h2 : c.toNat % 128 ≤ 1 := by omega
              have h3 : c.toNat % 128 * 128 ^ 9 ≤ 1 * 128 ^ 9 := Nat.mul_le_mul_right _ h2
              have h4 : (128 : Nat) ^ 9 = 9223372036854775808 := by decide
              omega
            · have h8 : 128 ^ i ≤ 128 ^ 8 := Nat.pow_le_pow_right (by decide) (by omega)
              have h3 : c.toNat % 128 * 128 ^ i ≤ 127 * 128 ^ 8 := Nat.mul_le_mul (by omega) h8
              have h4 : (128 : Nat) ^ 8 = 72057594037927936 := by decide
              omega
        split at h
        · split at h
          · cases h
          · simp only [Option.some.injEq, Prod.mk.injEq] at h
            obtain ⟨rfl, rfl⟩ := h
            exact ⟨hx.2, by simp⟩
        · have := rdF_lt q (i + 1) _ hx.1 (by omega) v r h
          exact ⟨this.1, by simp only [List.length_cons]; omega⟩
end Go.Proofs.YtmaciepkkianhabGreatDoor.M

set_option linter.unusedSimpArgs false
namespace Go.Proofs.YtmaciepkkianhabGreatDoor.M
open Go.RowKit Go.Proofs.YtmaciepkkianhabGreatDoor.H Go.Proofs.YtmaciepkkianhabGreatDoor.QRows Go.Proofs.YtmaciepkkianhabGreatDoorW.PrintWords Go.Proofs.YtmaciepkkianhabGreatDoorW.PrintMore

/-- What stands from a place on. -/
def Stt (s : ByteArray) (a : Int) (q : List UInt8) : Prop := ∃ n : Nat, a = n ∧ n ≤ s.size ∧ s.data.toList.drop n = q
/-- A reader's place, or a fault. -/
def St (s : ByteArray) (a : Int) (b : Bool) : Option (List UInt8) → Prop
  | none => b = true
  | some q => b = false ∧ Stt s a q
def aInt : Option (List UInt8) → Int × Option (List UInt8)
  | none => (0, none)
  | some l => match rdF 0 0 l with
    | none => (0, none)
    | some (v, q) => (sgn v, some q)
theorem aInt_none {l : List UInt8} (h : rdF 0 0 l = none) : aInt (some l) = (0, none) := by simp only [aInt, h]
theorem aInt_some {l : List UInt8} {v : Nat} {q : List UInt8} (h : rdF 0 0 l = some (v, q)) : aInt (some l) = (sgn v, some q) := by simp only [aInt, h]
theorem St_none {s : ByteArray} {a : Int} {b : Bool} (h : St s a b none) : b = true := h
theorem drop_step {s : ByteArray} {a : Nat} {c : UInt8} {r : List UInt8} (h : s.data.toList.drop a = c :: r) :
    a < s.size ∧ bt s (a : Int) = (c.toNat : Int) ∧ s.data.toList.drop (a + 1) = r := by
  have hl : a < s.data.toList.length := by
    rcases Nat.lt_or_ge a s.data.toList.length with h1 | h1
    · exact h1
    · rw [List.drop_eq_nil_of_le h1] at h; cases h
  rw [List.drop_eq_getElem_cons hl] at h
  injection h with h1 h2
  have hs : a < s.size := by rw [Sz]; exact hl
  exact ⟨hs, by rw [bt_get s a hs, h1], h2⟩
theorem drop_end {s : ByteArray} {a : Nat} (ha : a ≤ s.size) (h : s.data.toList.drop a = []) : a = s.size := by
  have := congrArg List.length h
  rw [List.length_drop, ← Sz] at this
  simp at this; omega
theorem pInt0 (s : ByteArray) (hs : s.size ≤ 1000000) : ∀ (r : List UInt8) (a i u k : Nat), s.data.toList.drop a = r → a ≤ s.size → u < 128 ^ i → i ≤ 10 → 2 * (10 - i) + 6 ≤ k →
    ∃ (x a' : Int) (b : Bool), pack_Reader_Int.l0 k (u : Int) (i : Int) s (a : Int) false = some (x, s, a', b) ∧
      (match rdF i u r with | none => x = 0 ∧ b = true | some (v, q) => x = sgn v ∧ b = false ∧ Stt s a' q)
  | [], a, i, u, k, hd, ha, hu, hi, hk => by
    obtain ⟨k, rfl⟩ : ∃ m, k = m + 1 := ⟨k - 1, by omega⟩
    have he := drop_end ha hd
    refine ⟨0, a, true, ?_, by simp [rdF]⟩
    rw [pack_Reader_Int.l0]
    unfold pack_Reader_fail.f
    by_cases h10 : (i : Int) < 10
    · rw [if_pos h10, if_pos (by omega)]; rfl
    · rw [if_neg h10]; rfl
  | c :: r, a, i, u, k, hd, ha, hu, hi, hk => by
    obtain ⟨k, rfl⟩ : ∃ m, k = m + 3 := ⟨k - 3, by omega⟩
    obtain ⟨h1, h2, h3⟩ := drop_step hd
    have hc := c.toNat_lt
    rw [pack_Reader_Int.l0, rdF]
    by_cases h10 : (i : Int) < 10
    · rw [if_pos h10, if_neg (by omega), if_pos (by omega), if_pos (by omega), if_neg (show ¬ 9 < i by omega), h2]
      rw [show wrap64 ((a : Int) + 1) = ((a + 1 : Nat) : Int) by unfold wrap64; omega]
      have hm : (if (i : Int) = 9 then pack_Reader_Int.j1 (k + 2) u i c.toNat i (decide ((c.toNat : Int) > 1)) s ((a + 1 : Nat) : Int) false else pack_Reader_Int.j1 (k + 2) u i c.toNat i false s ((a + 1 : Nat) : Int) false) = pack_Reader_Int.j1 (k + 2) u i c.toNat i (decide (i = 9 ∧ 1 < c.toNat)) s ((a + 1 : Nat) : Int) false := by
        by_cases h9 : i = 9
        · rw [if_pos (by omega)]
          congr 1
          apply decide_eq_decide.mpr; omega
        · rw [if_neg (by omega)]
          congr 1
          symm; apply decide_eq_false; omega
      rw [hm, pack_Reader_Int.j1]
      by_cases h9 : i = 9 ∧ 1 < c.toNat
      · rw [decide_eq_true h9, if_pos rfl, if_pos h9]
        exact ⟨0, _, true, rfl, rfl, rfl⟩
      · rw [decide_eq_false h9, if_neg (by decide), if_neg h9, if_pos (by rw [w64 _ (by omega)]; omega), or_shl u i c.toNat hu (by omega) hc (by omega)]
        have hv : u + c.toNat % 128 * 128 ^ i < 128 ^ (i + 1) := by
          rw [Nat.pow_succ]
          have : (c.toNat % 128 + 1) * 128 ^ i ≤ 128 * 128 ^ i := Nat.mul_le_mul_right _ (by omega)
          rw [Nat.add_mul] at this; omega
        by_cases hl : c.toNat < 128
        · rw [if_pos (by omega), if_pos hl]
          have hm2 : (if (c.toNat : Int) = 0 then pack_Reader_Int.j2 (k + 1) ((u + c.toNat % 128 * 128 ^ i : Nat) : Int) (decide ((i : Int) > 0)) s ((a + 1 : Nat) : Int) false else pack_Reader_Int.j2 (k + 1) ((u + c.toNat % 128 * 128 ^ i : Nat) : Int) false s ((a + 1 : Nat) : Int) false) = pack_Reader_Int.j2 (k + 1) ((u + c.toNat % 128 * 128 ^ i : Nat) : Int) (decide (c.toNat = 0 ∧ 0 < i)) s ((a + 1 : Nat) : Int) false := by
            by_cases h0 : c.toNat = 0
            · rw [if_pos (by omega)]
              congr 1
              apply decide_eq_decide.mpr; omega
            · rw [if_neg (by omega)]
              congr 1
              symm; apply decide_eq_false; omega
          rw [hm2, pack_Reader_Int.j2]
          by_cases h0 : c.toNat = 0 ∧ 0 < i
          · rw [decide_eq_true h0, if_pos rfl, if_pos h0]
            exact ⟨0, _, true, rfl, rfl, rfl⟩
          · rw [decide_eq_false h0, if_neg (by decide), if_neg h0]
            have hlt : u + c.toNat % 128 * 128 ^ i < 18446744073709551616 := by
              refine (rdF_lt (c :: r) i u hu hi _ r ?_).1
              rw [rdF, if_neg (by omega), if_neg h9, if_pos hl, if_neg h0]
            rw [zag_f _ hlt]
            exact ⟨_, _, _, rfl, rfl, rfl, a + 1, rfl, h1, h3⟩
        · rw [if_neg (by omega), if_neg hl, show wrap64 ((i : Int) + 1) = ((i + 1 : Nat) : Int) by unfold wrap64; omega]
          exact pInt0 s hs r (a + 1) (i + 1) _ (k + 1) h3 h1 hv (by omega) (by omega)
    · rw [if_neg h10, if_pos (show 9 < i by omega)]
      exact ⟨0, _, true, rfl, rfl, rfl⟩
theorem pInt (s : ByteArray) (hs : s.size ≤ 1000000) (a : Int) (b : Bool) (o : Option (List UInt8)) (k : Nat) (hk : 2 * s.size + 40 ≤ k) (h : St s a b o) :
    ∃ (a' : Int) (b' : Bool), pack_Reader_Int.f k s a b = some ((aInt o).1, s, a', b') ∧ St s a' b' (aInt o).2 := by
  unfold pack_Reader_Int.f
  cases o with
  | none =>
    rw [if_pos (St_none h)]
    exact ⟨a, b, by rw [St_none h]; rfl, h⟩
  | some l =>
    obtain ⟨hb, n, rfl, hn, hd⟩ := h
    subst hb
    rw [if_neg (by decide)]
    obtain ⟨x, a', b', h1, h2⟩ := pInt0 s hs l n 0 0 k hd hn (by decide) (by decide) (by omega)
    refine ⟨a', b', h1.trans ?_, ?_⟩
    · cases hr : rdF 0 0 l with
      | none => rw [hr] at h2; rw [aInt_none hr, h2.1]
      | some p => obtain ⟨v, q⟩ := p; rw [hr] at h2; rw [aInt_some hr, h2.1]
    · cases hr : rdF 0 0 l with
      | none => rw [hr] at h2; rw [aInt_none hr]; exact h2.2
      | some p => obtain ⟨v, q⟩ := p; rw [hr] at h2; rw [aInt_some hr]; exact ⟨h2.2.1, h2.2.2⟩

/-- How many bytes say that more follow. -/
def goes : List UInt8 → Nat
  | [] => 0
  | c :: r => if c.toNat < 128 then 0 else goes r + 1
theorem goes_le : ∀ l, goes l ≤ l.length
  | [] => Nat.le_refl _
  | c :: r => by
    rw [goes]
    split
    · omega
    · have := goes_le r; simp only [List.length_cons]; omega
def val7 : List UInt8 → Nat
  | [] => 0
  | c :: r => c.toNat % 128 + 128 * val7 r
theorem rdF_shut : ∀ (l : List UInt8) (i u : Nat), rdF i u l =
    if l.length ≤ goes l ∨ 9 < i + goes l then none
    else if (i + goes l = 9 ∧ 1 < (l.getD (goes l) 0).toNat) ∨ (0 < i + goes l ∧ (l.getD (goes l) 0).toNat = 0) then none
    else some (u + 128 ^ i * val7 (l.take (goes l + 1)), l.drop (goes l + 1))
  | [], i, u => by simp [rdF]
  | c :: r, i, u => by
    have hc := c.toNat_lt
    rw [rdF, goes]
    by_cases hl : c.toNat < 128
    · simp only [if_pos hl, List.length_cons, List.getD_cons_zero, Nat.add_zero, Nat.zero_add, List.take_succ_cons, List.take_zero, List.drop_succ_cons, List.drop_zero, val7, Nat.mul_zero]
      by_cases h9 : 9 < i
      · rw [if_pos h9, if_pos (.inr h9)]
      · rw [if_neg h9, if_neg (show ¬ (r.length + 1 ≤ 0 ∨ 9 < i) by omega)]
        by_cases ha : i = 9 ∧ 1 < c.toNat
        · rw [if_pos ha, if_pos (.inl ha)]
        · rw [if_neg ha]
          by_cases hb : c.toNat = 0 ∧ 0 < i
          · rw [if_pos hb, if_pos (.inr ⟨hb.2, hb.1⟩)]
          · rw [if_neg hb, if_neg (by omega), Nat.mul_comm]
    · simp only [if_neg hl, List.length_cons, List.getD_cons_succ, List.take_succ_cons, List.drop_succ_cons, val7]
      rw [rdF_shut r]
      have e1 : i + 1 + goes r = i + (goes r + 1) := by omega
      rw [e1]
      by_cases h9 : 9 < i
      · rw [if_pos h9, if_pos (by omega)]
      · rw [if_neg h9]
        by_cases ha : i = 9
        · rw [if_pos (show i = 9 ∧ 1 < c.toNat by omega), if_pos (show r.length + 1 ≤ goes r + 1 ∨ 9 < i + (goes r + 1) by omega)]
        · rw [if_neg (show ¬ (i = 9 ∧ 1 < c.toNat) by omega)]
          by_cases hb : r.length ≤ goes r ∨ 9 < i + (goes r + 1)
          · rw [if_pos hb, if_pos (by omega)]
          · rw [if_neg hb, if_neg (show ¬ (r.length + 1 ≤ goes r + 1 ∨ 9 < i + (goes r + 1)) by omega)]
            have e3 : u + c.toNat % 128 * 128 ^ i + 128 ^ (i + 1) * val7 (r.take (goes r + 1)) = u + 128 ^ i * (c.toNat % 128 + 128 * val7 (r.take (goes r + 1))) := by rw [Nat.pow_succ, Nat.mul_add, Nat.mul_comm (c.toNat % 128), ← Nat.add_assoc, Nat.mul_assoc]
            rw [e3]
theorem rInt0 (s : ByteArray) (hs : s.size ≤ 1000000) (a : Nat) (ha : a ≤ s.size) : ∀ (r : List UInt8) (n k : Nat), s.data.toList.drop (a + n) = r → a + n ≤ s.size → 2 * r.length + 3 ≤ k →
    mortmainref01_Reader_Int.l0 k (n : Int) s (a : Int) false = mortmainref01_Reader_Int.j1 (k - 2 * goes r - 1) ((n + goes r : Nat) : Int) false s (a : Int) false
  | [], n, k, hd, hn, hk => by
    obtain ⟨k, rfl⟩ : ∃ m, k = m + 1 := ⟨k - 1, by omega⟩
    have he := drop_end hn hd
    rw [mortmainref01_Reader_Int.l0, show wrap64 ((a : Int) + n) = ((a + n : Nat) : Int) by unfold wrap64; omega, if_neg (by omega)]
    rfl
  | c :: r, n, k, hd, hn, hk => by
    obtain ⟨k, rfl⟩ : ∃ m, k = m + 2 := ⟨k - 2, by omega⟩
    obtain ⟨h1, h2, h3⟩ := drop_step hd
    simp only [List.length_cons] at hk
    rw [mortmainref01_Reader_Int.l0, show wrap64 ((a : Int) + n) = ((a + n : Nat) : Int) by unfold wrap64; omega, if_pos (by omega), if_pos (by omega), h2, goes]
    by_cases hl : c.toNat < 128
    · rw [if_pos hl, decide_eq_false (by omega)]
      rfl
    · rw [if_neg hl, decide_eq_true (by omega), mortmainref01_Reader_Int.j1, if_pos rfl, show wrap64 ((n : Int) + 1) = ((n + 1 : Nat) : Int) by unfold wrap64; omega]
      rw [rInt0 s hs a ha r (n + 1) k h3 (by omega) (by omega)]
      rw [show n + 1 + goes r = n + (goes r + 1) by omega, show k + 2 - 2 * (goes r + 1) - 1 = k - 2 * goes r - 1 by omega]
theorem rInt1 (s : ByteArray) (hs : s.size ≤ 1000000) (a g : Nat) (hg : a + g < s.size) (L : List UInt8) (hL : L = s.data.toList.drop a) : ∀ (j k : Nat), j ≤ g + 1 → j + 2 ≤ k →
    mortmainref01_Reader_Int.l1 k (g : Int) ((val7 ((L.take (g + 1)).drop j) % 18446744073709551616 : Nat) : Int) ((j : Int) - 1) s (a : Int) false =
      mortmainref01_Reader_Int.l1 (k - j) (g : Int) ((val7 (L.take (g + 1)) % 18446744073709551616 : Nat) : Int) (-1) s (a : Int) false
  | 0, k, hj, hk => by rfl
  | j + 1, k, hj, hk => by
    obtain ⟨k, rfl⟩ : ∃ m, k = m + 1 := ⟨k - 1, by omega⟩
    have hLl : L.length = s.size - a := by rw [hL, List.length_drop, ← Sz]
    have hjl : j < (L.take (g + 1)).length := by rw [List.length_take]; omega
    have e1 : (L.take (g + 1)).drop j = (L.take (g + 1))[j] :: (L.take (g + 1)).drop (j + 1) := List.drop_eq_getElem_cons hjl
    have e2 : bt s ((a + j : Nat) : Int) = (((L.take (g + 1))[j]).toNat : Int) := by
      rw [bt_get s (a + j) (by omega)]
      congr 2
      simp [hL]
    rw [mortmainref01_Reader_Int.l1, if_pos (by omega), show wrap64 ((a : Int) + (((j + 1 : Nat) : Int) - 1)) = ((a + j : Nat) : Int) by unfold wrap64; omega, if_pos (by omega), if_pos (by omega), e2]
    have e3 : IntKind.u64.wrap (IntKind.u64.wrap (((val7 ((L.take (g + 1)).drop (j + 1)) % 18446744073709551616 : Nat) : Int) * 128) + IntKind.u64.wrap (Int.tmod (((L.take (g + 1))[j]).toNat : Int) 128)) = ((val7 ((L.take (g + 1)).drop j) % 18446744073709551616 : Nat) : Int) := by
      rw [e1, val7, show Int.tmod (((L.take (g + 1))[j]).toNat : Int) 128 = ((((L.take (g + 1))[j]).toNat % 128 : Nat) : Int) by rw [Int.tmod_eq_emod_of_nonneg (by omega)]; omega]
      rw [wrap_u64, wrap_u64, wrap_u64]
      omega
    rw [e3, show wrap64 (((j + 1 : Nat) : Int) - 1 - 1) = (j : Int) - 1 by unfold wrap64; omega, show k + 1 - (j + 1) = k - j by omega]
    exact rInt1 s hs a g hg L hL j k (by omega) (by omega)
theorem wadd (n g : Nat) (h : n + g < 2000000) : wrap64 ((n : Int) + (g : Int)) = ((n + g : Nat) : Int) := by rw [w64 _ (by omega)]; omega
theorem wadd1 (n g : Nat) (h : n + g < 2000000) : wrap64 (wrap64 ((n : Int) + (g : Int)) + 1) = ((n + g + 1 : Nat) : Int) := by rw [wadd n g h, w64 _ (by omega)]; omega
theorem rInt (s : ByteArray) (hs : s.size ≤ 1000000) (a : Int) (b : Bool) (o : Option (List UInt8)) (k : Nat) (hk : 2 * s.size + 40 ≤ k) (h : St s a b o) :
    ∃ (a' : Int) (b' : Bool), mortmainref01_Reader_Int.f k s a b = some ((aInt o).1, s, a', b') ∧ St s a' b' (aInt o).2 := by
  unfold mortmainref01_Reader_Int.f
  cases o with
  | none =>
    rw [if_pos (St_none h)]
    exact ⟨a, b, by rw [St_none h]; rfl, h⟩
  | some l =>
    obtain ⟨hb, n, rfl, hn, hd⟩ := h
    subst hb
    have hll : l.length = s.size - n := by rw [← hd, List.length_drop, ← Sz]
    have hgl := goes_le l
    rw [if_neg (by decide), show (0 : Int) = ((0 : Nat) : Int) from rfl, rInt0 s hs n hn l 0 k (by simpa using hd) (by simpa using hn) (by omega), Nat.zero_add]
    obtain ⟨m, hm⟩ : ∃ m, k - 2 * goes l - 1 = m + 2 := ⟨k - 2 * goes l - 3, by omega⟩
    rw [hm, mortmainref01_Reader_Int.j1, if_neg (by decide), show wrap64 ((n : Int) + (goes l : Int)) = ((n + goes l : Nat) : Int) by unfold wrap64; omega]
    have hm2 : (if ((n + goes l : Nat) : Int) ≥ (s.size : Int) then mortmainref01_Reader_Int.j2 (m + 1) (goes l : Int) true s n false else mortmainref01_Reader_Int.j2 (m + 1) (goes l : Int) (decide ((goes l : Int) > 9)) s n false) = mortmainref01_Reader_Int.j2 (m + 1) (goes l : Int) (decide (l.length ≤ goes l ∨ 9 < 0 + goes l)) s n false := by
      by_cases h1 : n + goes l ≥ s.size
      · rw [if_pos (by omega)]
        congr 1
        symm; apply decide_eq_true; omega
      · rw [if_neg (by omega)]
        congr 1
        apply decide_eq_decide.mpr; omega
    rw [hm2, mortmainref01_Reader_Int.j2]
    have hsh := rdF_shut l 0 0
    by_cases hf : l.length ≤ goes l ∨ 9 < 0 + goes l
    · rw [if_pos hf] at hsh
      rw [decide_eq_true hf, if_pos rfl, aInt_none hsh]
      exact ⟨_, _, rfl, rfl⟩
    · rw [if_neg hf] at hsh
      rw [decide_eq_false hf, if_neg (by decide)]
      have hq := rInt1 s hs n (goes l) (by omega) l hd.symm (goes l + 1) m (Nat.le_refl _) (by omega)
      rw [List.drop_eq_nil_of_le (by rw [List.length_take]; omega), show (((goes l + 1 : Nat) : Int) - 1) = (goes l : Int) by omega] at hq
      have e0 : ((val7 [] % 18446744073709551616 : Nat) : Int) = 0 := by rw [val7]; decide
      rw [e0] at hq
      rw [hq]
      obtain ⟨m', hm'⟩ : ∃ m', m - (goes l + 1) = m' + 2 := ⟨m - (goes l + 1) - 2, by omega⟩
      have hbt : bt s ((n + goes l : Nat) : Int) = ((l.getD (goes l) 0).toNat : Int) := by
        rw [bt_get s (n + goes l) (by omega)]
        congr 2
        rw [List.getD_eq_getElem?_getD, List.getElem?_eq_getElem (by omega), Option.getD_some]
        simp [← hd]
      rw [hm', mortmainref01_Reader_Int.l1, if_neg (by decide), show wrap64 ((n : Int) + (goes l : Int)) = ((n + goes l : Nat) : Int) by unfold wrap64; omega, if_pos (by omega), if_pos (by omega), hbt]
      generalize (l.getD (goes l) 0).toNat = c at *
      have hm3 : ∀ X : Int, (if (goes l : Int) = 9 then (if (c : Int) > 1 then mortmainref01_Reader_Int.j4 (m' + 1) (goes l : Int) X true s n false else if (goes l : Int) > 0 then mortmainref01_Reader_Int.j4 (m' + 1) (goes l : Int) X ((c : Int) == 0) s n false else mortmainref01_Reader_Int.j4 (m' + 1) (goes l : Int) X false s n false)
          else if (goes l : Int) > 0 then mortmainref01_Reader_Int.j4 (m' + 1) (goes l : Int) X ((c : Int) == 0) s n false else mortmainref01_Reader_Int.j4 (m' + 1) (goes l : Int) X false s n false) =
          mortmainref01_Reader_Int.j4 (m' + 1) (goes l : Int) X (decide ((0 + goes l = 9 ∧ 1 < c) ∨ (0 < 0 + goes l ∧ c = 0))) s n false := by
        intro X
        have e0 : ((c : Int) == 0) = decide (c = 0) := by
          rw [Bool.eq_iff_iff]; simp
        rw [e0]
        by_cases h9 : goes l = 9
        · rw [if_pos (by omega)]
          by_cases h1 : 1 < c
          · rw [if_pos (by omega)]
            congr 1
            symm; apply decide_eq_true; omega
          · rw [if_neg (by omega), if_pos (by omega)]
            congr 1
            apply decide_eq_decide.mpr; omega
        · rw [if_neg (by omega)]
          by_cases h0 : 0 < goes l
          · rw [if_pos (by omega)]
            congr 1
            apply decide_eq_decide.mpr; omega
          · rw [if_neg (by omega)]
            congr 1
            symm; apply decide_eq_false; omega
      rw [hm3, mortmainref01_Reader_Int.j4]
      by_cases hg : (0 + goes l = 9 ∧ 1 < c) ∨ (0 < 0 + goes l ∧ c = 0)
      · rw [if_pos hg] at hsh
        rw [decide_eq_true hg, if_pos rfl, aInt_none hsh]
        exact ⟨_, _, rfl, rfl⟩
      · rw [if_neg hg] at hsh
        rw [decide_eq_false hg, if_neg (by decide), aInt_some hsh]
        have hlt := (rdF_lt l 0 0 (by decide) (by decide) _ _ hsh).1
        simp only [Nat.zero_add, Nat.pow_zero, Nat.one_mul] at hlt hsh ⊢
        rw [Nat.mod_eq_of_lt hlt, signed_f _ hlt]
        refine ⟨_, _, rfl, rfl, n + goes l + 1, ?_, by omega, ?_⟩
        · exact wadd1 n (goes l) (by omega)
        · rw [← hd, List.drop_drop]; congr 1
end Go.Proofs.YtmaciepkkianhabGreatDoor.M

namespace Go.Proofs.YtmaciepkkianhabGreatDoor.QRows
open Go.Proofs.YtmaciepkkianhabGreatDoor.H
attribute [local go_sem] ite_signed_u64 ite_signed_u32
open Go.RowKit Go.Proofs.YtmaciepkkianhabGreatDoorW.PrintWords Go.Proofs.YtmaciepkkianhabGreatDoorW.PrintLast Go.Proofs.YtmaciepkkianhabGreatDoorW.PrintMore
attribute [local go_sem] max2_int min2_int max_two min_two max_three min_three max_four min_four   -- for this text's walks alone
set_option linter.unusedVariables false
set_option linter.unusedSimpArgs false

/-! ### mortmainref01_Reader_Str: function 60 -/
def mortmainref01_Reader_Str.j0 : Nat → Int → Bool → ByteArray → Int → Bool → Option (ByteArray × ByteArray × Int × Bool)
  | 0, _, _, _, _, _ => none
  | k + 1, x3, x27, x1000, x1001, x1002 => if x27 = true then (some ((⟨#[]⟩ : ByteArray), x1000, x1001, true)) else (if 0 ≤ (wrap64 ((wrap64 (x1001 + x3)) - x3)) then (if (wrap64 ((wrap64 (x1001 + x3)) - x3)) ≤ (wrap64 (x1001 + x3)) then (if (wrap64 (x1001 + x3)) ≤ (x1000.size : Int) then (some (x1000.extract ((wrap64 ((wrap64 (x1001 + x3)) - x3)) : Int).toNat ((wrap64 (x1001 + x3)) : Int).toNat, x1000, wrap64 (x1001 + x3), x1002)) else (none)) else (none)) else (none))
def mortmainref01_Reader_Str.f (k : Nat) (s0_0 : ByteArray) (s0_1 : Int) (s0_2 : Bool) : Option (ByteArray × ByteArray × Int × Bool) := (mortmainref01_Reader_Int.f k s0_0 s0_1 s0_2).bind fun bt184 => (if bt184.2.2.2 = true then (mortmainref01_Reader_Str.j0 k bt184.1 true bt184.2.1 bt184.2.2.1 bt184.2.2.2) else (if bt184.1 < 0 then (mortmainref01_Reader_Str.j0 k bt184.1 true bt184.2.1 bt184.2.2.1 bt184.2.2.2) else (mortmainref01_Reader_Str.j0 k bt184.1 (decide (bt184.1 > (wrap64 ((bt184.2.1.size : Int) - bt184.2.2.1)))) bt184.2.1 bt184.2.2.1 bt184.2.2.2)))
set_option maxHeartbeats 8000000 in
set_option maxRecDepth 100000 in
theorem mortmainref01_Reader_Str.calls (k : Nat) (g : Nat) (s0_0 : ByteArray) (s0_1 : Int) (s0_2 : Bool) (r1 : ByteArray) (r2 : ByteArray) (r3 : Int) (r4 : Bool) (w0 w : World) (hI : IsS55 w0 w g s0_0 s0_1 s0_2) (hB : Below w0.heap.size w0 w) (h : mortmainref01_Reader_Str.f k s0_0 s0_1 s0_2 = some (r1, r2, r3, r4)) :
    Calls Tryz.prog 60 #[.pointer (some ⟨g, 0, none⟩)] w fun e w' => e = .returned (.string r1) ∧ IsS55 w0 w' g r2 r3 r4 ∧ Below w0.heap.size w0 w' ∧ KeepBut w w' g none := by
  have HI0 := Aside0.mk hI
  have HK := Aside0.mk (KeepBut.refl w g none)
  have HL := Aside0.mk hB.size
  clear hI
  have HW0 := Aside0.mk hB.size
  have HB := Aside0.mk hB
  clear hB
  have H : ((mortmainref01_Reader_Int.f k s0_0 s0_1 s0_2).bind fun bt184 => (if bt184.2.2.2 = true then (mortmainref01_Reader_Str.j0 k bt184.1 true bt184.2.1 bt184.2.2.1 bt184.2.2.2) else (if bt184.1 < 0 then (mortmainref01_Reader_Str.j0 k bt184.1 true bt184.2.1 bt184.2.2.1 bt184.2.2.2) else (mortmainref01_Reader_Str.j0 k bt184.1 (decide (bt184.1 > (wrap64 ((bt184.2.1.size : Int) - bt184.2.2.1)))) bt184.2.1 bt184.2.2.1 bt184.2.2.2)))) = some (r1, r2, r3, r4) := h
  clear h
  replace H := Option.bind_eq_some_iff.mp H
  obtain ⟨⟨t184, t185, t186, t187⟩, A20, H⟩ := H
  replace H : (if t187 = true then (mortmainref01_Reader_Str.j0 k t184 true t185 t186 t187) else (if t184 < 0 then (mortmainref01_Reader_Str.j0 k t184 true t185 t186 t187) else (mortmainref01_Reader_Str.j0 k t184 (decide (t184 > (wrap64 ((t185.size : Int) - t186)))) t185 t186 t187))) = some (r1, r2, r3, r4) := H
  have A2 := Aside0.mk A20
  clear A20
  have HC3 := Aside0.mk H
  clear H
  go_enter Tryz.func60, Tryz.ntmps60
  go_upto_region 2 with (first | (go_at_call 59; (with_reducible refine (mortmainref01_Reader_Int.calls k g s0_0 s0_1 s0_2 t184 t185 t186 t187 w0 _ ?side1 ?side2 A2.out).mono ?_); (case side1 => repeat (first | (with_reducible first | exact HI0.out | apply IsS55.alloc | apply IsS55.drewN | apply IsS55.drew | apply IsS55.set_0 | apply IsS55.set_1 | apply IsS55.set_2) | exact HI0.out)); (case side2 => repeat (first | (with_reducible first | exact HB.out | apply below_alloc | apply pw_below_drewN | apply below_drew1 | refine below_set ?_ (IsS55.ge HI0.out)) | exact HB.out)); rintro e w4 ⟨rfl, hi, hb, hk⟩; have n0_ := Aside0.mk (KeepBut.trans (by repeat (first | (with_reducible first | exact HK.out | apply KeepBut.set_ | apply keep_drewN | apply keep_drew | apply keep_alloc) | exact HK.out)) hk (.inl rfl)); have n1_ := Aside0.mk (hb); have n2_ := Aside0.mk (hi); clear HK; clear HB; clear HI0; have HK := n0_; have HB := n1_; have HI0 := n2_; clear n0_ n1_ n2_; (try clear hb); (try clear hb2); (try clear hk); (try clear hi)))
  repeat (go_quiet (first | (go_at_call 59; (with_reducible refine (mortmainref01_Reader_Int.calls k g s0_0 s0_1 s0_2 t184 t185 t186 t187 w0 _ ?side1 ?side2 A2.out).mono ?_); (case side1 => repeat (first | (with_reducible first | exact HI0.out | apply IsS55.alloc | apply IsS55.drewN | apply IsS55.drew | apply IsS55.set_0 | apply IsS55.set_1 | apply IsS55.set_2) | exact HI0.out)); (case side2 => repeat (first | (with_reducible first | exact HB.out | apply below_alloc | apply pw_below_drewN | apply below_drew1 | refine below_set ?_ (IsS55.ge HI0.out)) | exact HB.out)); rintro e w4 ⟨rfl, hi, hb, hk⟩; have n0_ := Aside0.mk (KeepBut.trans (by repeat (first | (with_reducible first | exact HK.out | apply KeepBut.set_ | apply keep_drewN | apply keep_drew | apply keep_alloc) | exact HK.out)) hk (.inl rfl)); have n1_ := Aside0.mk (hb); have n2_ := Aside0.mk (hi); clear HK; clear HB; clear HI0; have HK := n0_; have HB := n1_; have HI0 := n2_; clear n0_ n1_ n2_; (try clear hb); (try clear hb2); (try clear hk); (try clear hi))); go_upto_region 2 with (first | (go_at_call 59; (with_reducible refine (mortmainref01_Reader_Int.calls k g s0_0 s0_1 s0_2 t184 t185 t186 t187 w0 _ ?side1 ?side2 A2.out).mono ?_); (case side1 => repeat (first | (with_reducible first | exact HI0.out | apply IsS55.alloc | apply IsS55.drewN | apply IsS55.drew | apply IsS55.set_0 | apply IsS55.set_1 | apply IsS55.set_2) | exact HI0.out)); (case side2 => repeat (first | (with_reducible first | exact HB.out | apply below_alloc | apply pw_below_drewN | apply below_drew1 | refine below_set ?_ (IsS55.ge HI0.out)) | exact HB.out)); rintro e w4 ⟨rfl, hi, hb, hk⟩; have n0_ := Aside0.mk (KeepBut.trans (by repeat (first | (with_reducible first | exact HK.out | apply KeepBut.set_ | apply keep_drewN | apply keep_drew | apply keep_alloc) | exact HK.out)) hk (.inl rfl)); have n1_ := Aside0.mk (hb); have n2_ := Aside0.mk (hi); clear HK; clear HB; clear HI0; have HK := n0_; have HB := n1_; have HI0 := n2_; clear n0_ n1_ n2_; (try clear hb); (try clear hb2); (try clear hk); (try clear hi))))
  (try simp only [Act.put, List.setIfInBounds_toArray, List.set_cons_zero, List.set_cons_succ])
  go_cut [27] (fun v27 wc => ∃ (kq : Nat) (x27_2 : Bool), v27 = .bool x27_2 ∧ Aside0 (mortmainref01_Reader_Str.j0 kq t184 x27_2 t185 t186 t187 = some (r1, r2, r3, r4)) ∧ Aside0 (kq ≤ k) ∧ Aside0 (IsS55 w0 wc g t185 t186 t187) ∧ Aside0 (KeepBut w wc g none) ∧ Aside0 (Below w0.heap.size w0 wc))
  case first =>
    have H := HC3.out
    clear HC3
    by_cases c5 : t187 = true
    · subst c5
      have H1 : (mortmainref01_Reader_Str.j0 k t184 true t185 t186 true) = some (r1, r2, r3, r4) := by rw [if_pos rfl] at H; exact H
      clear H
      have H := H1
      clear H1
      have H' := Aside0.mk H
      clear H
      obtain ⟨HGz6, hgz6⟩ := HI0.out
      have hcz6_0 := cellS55_0 HGz6
      have hcz6_1 := cellS55_1 HGz6
      have hcz6_2 := cellS55_2 HGz6
      have hfz6_0 := blk_frozen HGz6 0
      have hfz6_1 := blk_frozen HGz6 1
      have hfz6_2 := blk_frozen HGz6 2
      clear HGz6 hgz6
      go_wp2
      repeat (go_quiet (fail); try go_wp2)
      go_meet
      case rel => exact ⟨_, (true), (by first | rfl | (simp; done) | (simp [*]; done) | (generalize ByteArray.toList _ = l_; cases l_ <;> rfl)), H', ⟨by first | omega | exact Nat.le_refl _⟩, ⟨by repeat (first | (with_reducible first | exact HI0.out | apply IsS55.alloc | apply IsS55.drewN | apply IsS55.drew | apply IsS55.set_0 | apply IsS55.set_1 | apply IsS55.set_2) | exact HI0.out)⟩, ⟨by repeat (first | (with_reducible first | exact HK.out | apply KeepBut.set_ | apply keep_drewN | apply keep_drew | apply keep_alloc) | exact HK.out)⟩, ⟨by repeat (first | (with_reducible first | exact HB.out | apply below_alloc | apply pw_below_drewN | apply below_drew1 | refine below_set ?_ (IsS55.ge HI0.out)) | exact HB.out)⟩⟩
    · replace c5 := Bool.eq_false_iff.mpr c5
      subst c5
      have H1 : (if t184 < 0 then (mortmainref01_Reader_Str.j0 k t184 true t185 t186 false) else (mortmainref01_Reader_Str.j0 k t184 (decide (t184 > (wrap64 ((t185.size : Int) - t186)))) t185 t186 false)) = some (r1, r2, r3, r4) := by rw [if_neg (show ¬ (false = true) by decide)] at H; exact H
      clear H
      have H := H1
      clear H1
      by_cases c7 : t184 < 0
      · rw [if_pos c7] at H
        have c7b0 : decide (t184 < 0) = true := decide_eq_true c7
        clear c7
        (first | rw [c7b0] | (simp only [i64_w, i32_w]; rw [c7b0]) | skip)
        have H' := Aside0.mk H
        clear H
        obtain ⟨HGz8, hgz8⟩ := HI0.out
        have hcz8_0 := cellS55_0 HGz8
        have hcz8_1 := cellS55_1 HGz8
        have hcz8_2 := cellS55_2 HGz8
        have hfz8_0 := blk_frozen HGz8 0
        have hfz8_1 := blk_frozen HGz8 1
        have hfz8_2 := blk_frozen HGz8 2
        clear HGz8 hgz8
        go_wp2
        repeat (go_quiet (fail); try go_wp2)
        go_meet
        case rel => exact ⟨_, (true), (by first | rfl | (simp; done) | (simp [*]; done) | (generalize ByteArray.toList _ = l_; cases l_ <;> rfl)), H', ⟨by first | omega | exact Nat.le_refl _⟩, ⟨by repeat (first | (with_reducible first | exact HI0.out | apply IsS55.alloc | apply IsS55.drewN | apply IsS55.drew | apply IsS55.set_0 | apply IsS55.set_1 | apply IsS55.set_2) | exact HI0.out)⟩, ⟨by repeat (first | (with_reducible first | exact HK.out | apply KeepBut.set_ | apply keep_drewN | apply keep_drew | apply keep_alloc) | exact HK.out)⟩, ⟨by repeat (first | (with_reducible first | exact HB.out | apply below_alloc | apply pw_below_drewN | apply below_drew1 | refine below_set ?_ (IsS55.ge HI0.out)) | exact HB.out)⟩⟩
      · rw [if_neg c7] at H
        have c7b0 : decide (t184 < 0) = false := decide_eq_false c7
        clear c7
        (first | rw [c7b0] | (simp only [i64_w, i32_w]; rw [c7b0]) | skip)
        have H' := Aside0.mk H
        clear H
        obtain ⟨HGz9, hgz9⟩ := HI0.out
        have hcz9_0 := cellS55_0 HGz9
        have hcz9_1 := cellS55_1 HGz9
        have hcz9_2 := cellS55_2 HGz9
        have hfz9_0 := blk_frozen HGz9 0
        have hfz9_1 := blk_frozen HGz9 1
        have hfz9_2 := blk_frozen HGz9 2
        clear HGz9 hgz9
        go_wp2
        repeat (go_quiet (fail); try go_wp2)
        go_meet
        case rel => exact ⟨_, (decide (t184 > (wrap64 ((t185.size : Int) - t186)))), (by first | rfl | (simp; done) | (simp [*]; done) | (generalize ByteArray.toList _ = l_; cases l_ <;> rfl)), H', ⟨by first | omega | exact Nat.le_refl _⟩, ⟨by repeat (first | (with_reducible first | exact HI0.out | apply IsS55.alloc | apply IsS55.drewN | apply IsS55.drew | apply IsS55.set_0 | apply IsS55.set_1 | apply IsS55.set_2) | exact HI0.out)⟩, ⟨by repeat (first | (with_reducible first | exact HK.out | apply KeepBut.set_ | apply keep_drewN | apply keep_drew | apply keep_alloc) | exact HK.out)⟩, ⟨by repeat (first | (with_reducible first | exact HB.out | apply below_alloc | apply pw_below_drewN | apply below_drew1 | refine below_set ?_ (IsS55.ge HI0.out)) | exact HB.out)⟩⟩
  case rest =>
    clear HC3
    try clear p2
    try clear c5
    try clear c6
    try clear p6
    try clear c7
    try clear c7b0
    try clear hcz6_0
    try clear hcz6_1
    try clear hcz6_2
    try clear hcz8_0
    try clear hcz8_1
    try clear hcz8_2
    try clear hcz9_0
    try clear hcz9_1
    try clear hcz9_2
    try clear hfz6_0
    try clear hfz6_1
    try clear hfz6_2
    try clear hfz8_0
    try clear hfz8_1
    try clear hfz8_2
    try clear hfz9_0
    try clear hfz9_1
    try clear hfz9_2
    obtain ⟨kq, x27_2, rfl, HA, HJ2, HI0, HK, HB⟩ := hcut
    cases kq with
    | zero => exact absurd HA.out (by simp [mortmainref01_Reader_Str.j0])
    | succ kj2 =>
      have H := HA.out
      clear HA
      simp only [mortmainref01_Reader_Str.j0] at H
      by_cases c10 : x27_2 = true
      · subst c10
        have H1 : (some ((⟨#[]⟩ : ByteArray), t185, t186, true)) = some (r1, r2, r3, r4) := by rw [if_pos rfl] at H; exact H
        clear H
        have H := H1
        clear H1
        simp only [Option.some.injEq, Prod.mk.injEq] at H
        obtain ⟨rfl, rfl, rfl, rfl⟩ := H
        obtain ⟨HGz11, hgz11⟩ := HI0.out
        have hcz11_0 := cellS55_0 HGz11
        have hcz11_1 := cellS55_1 HGz11
        have hcz11_2 := cellS55_2 HGz11
        have hfz11_0 := blk_frozen HGz11 0
        have hfz11_1 := blk_frozen HGz11 1
        have hfz11_2 := blk_frozen HGz11 2
        clear HGz11 hgz11
        go_wp2
        repeat (go_quiet (fail); try go_wp2)
        go_ret
        exact ⟨by first | rfl | (simp [errW_none, errW_some] <;> rfl) | (simp [*, errW_none, errW_some] <;> rfl), by repeat (first | (with_reducible first | exact HI0.out | apply IsS55.alloc | apply IsS55.drewN | apply IsS55.drew | apply IsS55.set_0 | apply IsS55.set_1 | apply IsS55.set_2) | exact HI0.out), by repeat (first | (with_reducible first | exact HB.out | apply below_alloc | apply pw_below_drewN | apply below_drew1 | refine below_set ?_ (IsS55.ge HI0.out)) | exact HB.out), by repeat (first | (with_reducible first | exact HK.out | apply KeepBut.set_ | apply keep_drewN | apply keep_drew | apply keep_alloc) | exact HK.out)⟩
      · replace c10 := Bool.eq_false_iff.mpr c10
        subst c10
        have H1 : (if 0 ≤ (wrap64 ((wrap64 (t186 + t184)) - t184)) then (if (wrap64 ((wrap64 (t186 + t184)) - t184)) ≤ (wrap64 (t186 + t184)) then (if (wrap64 (t186 + t184)) ≤ (t185.size : Int) then (some (t185.extract ((wrap64 ((wrap64 (t186 + t184)) - t184)) : Int).toNat ((wrap64 (t186 + t184)) : Int).toNat, t185, wrap64 (t186 + t184), t187)) else (none)) else (none)) else (none)) = some (r1, r2, r3, r4) := by rw [if_neg (show ¬ (false = true) by decide)] at H; exact H
        clear H
        have H := H1
        clear H1
        obtain ⟨ji12, hji12⟩ : ∃ j_ : Int, (wrap64 ((wrap64 (t186 + t184)) - t184)) = j_ := ⟨_, rfl⟩
        replace H : (if 0 ≤ (ji12) then (if (ji12) ≤ (wrap64 (t186 + t184)) then (if (wrap64 (t186 + t184)) ≤ (t185.size : Int) then (some (t185.extract ((ji12) : Int).toNat ((wrap64 (t186 + t184)) : Int).toNat, t185, wrap64 (t186 + t184), t187)) else (none)) else (none)) else (none)) = some (r1, r2, r3, r4) := by first | (rw [hji12] at H; exact H) | (simp only [hji12] at H ⊢; exact H)
        have hji12w : (IntKind.i64.wrap ((wrap64 (t186 + t184)) - t184)) = ji12 := (i64_w _).trans hji12
        by_cases c13 : 0 ≤ (ji12)
        · rw [if_pos c13] at H
          have c13b0 := eq_true c13
          have c13b1 : decide (0 ≤ (ji12)) = true := decide_eq_true c13
          clear c13
          by_cases c14 : (ji12) ≤ (wrap64 (t186 + t184))
          · rw [if_pos c14] at H
            have c14b0 := eq_true c14
            have c14b1 : decide ((ji12) ≤ (wrap64 (t186 + t184))) = true := decide_eq_true c14
            by_cases c15 : (wrap64 (t186 + t184)) ≤ (t185.size : Int)
            · rw [if_pos c15] at H
              have c15b0 := eq_true c15
              have c15b1 : decide ((wrap64 (t186 + t184)) ≤ (t185.size : Int)) = true := decide_eq_true c15
              simp only [Option.some.injEq, Prod.mk.injEq] at H
              obtain ⟨rfl, rfl, rfl, rfl⟩ := H
              obtain ⟨HGz16, hgz16⟩ := HI0.out
              have hcz16_0 := cellS55_0 HGz16
              have hcz16_1 := cellS55_1 HGz16
              have hcz16_2 := cellS55_2 HGz16
              have hfz16_0 := blk_frozen HGz16 0
              have hfz16_1 := blk_frozen HGz16 1
              have hfz16_2 := blk_frozen HGz16 2
              clear HGz16 hgz16
              go_wp2
              repeat (go_quiet (fail); try go_wp2)
              go_ret
              exact ⟨by first | rfl | (simp [errW_none, errW_some] <;> rfl) | (simp only [← hji12]; first | rfl | (simp [errW_none, errW_some] <;> rfl)) | (simp [*, errW_none, errW_some] <;> rfl), by (try simp only [hji12]); repeat (first | (with_reducible first | exact HI0.out | apply IsS55.alloc | apply IsS55.drewN | apply IsS55.drew | apply IsS55.set_0 | apply IsS55.set_1 | apply IsS55.set_2) | exact HI0.out), by repeat (first | (with_reducible first | exact HB.out | apply below_alloc | apply pw_below_drewN | apply below_drew1 | refine below_set ?_ (IsS55.ge HI0.out)) | exact HB.out), by repeat (first | (with_reducible first | exact HK.out | apply KeepBut.set_ | apply keep_drewN | apply keep_drew | apply keep_alloc) | exact HK.out)⟩
            · rw [if_neg c15] at H
              exact absurd H (by simp)
          · rw [if_neg c14] at H
            exact absurd H (by simp)
        · rw [if_neg c13] at H
          exact absurd H (by simp)

end Go.Proofs.YtmaciepkkianhabGreatDoor.QRows

namespace Go.Proofs.YtmaciepkkianhabGreatDoor.QRows
open Go.Proofs.YtmaciepkkianhabGreatDoor.H
attribute [local go_sem] ite_signed_u64 ite_signed_u32
open Go.RowKit Go.Proofs.YtmaciepkkianhabGreatDoorW.PrintWords Go.Proofs.YtmaciepkkianhabGreatDoorW.PrintLast Go.Proofs.YtmaciepkkianhabGreatDoorW.PrintMore
attribute [local go_sem] max2_int min2_int max_two min_two max_three min_three max_four min_four   -- for this text's walks alone
set_option linter.unusedVariables false
set_option linter.unusedSimpArgs false

/-! ### mortmainref03_Take: function 25 -/
def mortmainref03_Take.j0 : Nat → Bool → ByteArray → Int → Bool → Int → Int → ByteArray → Option (Int × Int × ByteArray × ByteArray × Int × Bool)
  | 0, _, _, _, _, _, _, _ => none
  | k + 1, x25, x1000, x1001, x1002, x202000, x202001, x202002 => if x25 = true then (some (0, 0, (⟨#[]⟩ : ByteArray), x1000, x1001, true)) else (some (x202000, x202001, x202002, x1000, x1001, x1002))
def mortmainref03_Take.f (k : Nat) (s0_0 : ByteArray) (s0_1 : Int) (s0_2 : Bool) : Option (Int × Int × ByteArray × ByteArray × Int × Bool) := (mortmainref01_Reader_Int.f k s0_0 s0_1 s0_2).bind fun bt189 => ((mortmainref01_Reader_Int.f k bt189.2.1 bt189.2.2.1 bt189.2.2.2).bind fun bt193 => ((mortmainref01_Reader_Str.f k bt193.2.1 bt193.2.2.1 bt193.2.2.2).bind fun bt197 => (if bt197.2.2.2 = true then (mortmainref03_Take.j0 k true bt197.2.1 bt197.2.2.1 bt197.2.2.2 bt189.1 bt193.1 bt197.1) else ((mortmainref03_Good.f bt189.1 bt193.1 bt197.1).bind fun t202 => (mortmainref03_Take.j0 k (!t202) bt197.2.1 bt197.2.2.1 bt197.2.2.2 bt189.1 bt193.1 bt197.1)))))
set_option maxHeartbeats 8000000 in
set_option maxRecDepth 100000 in
theorem mortmainref03_Take.calls (k : Nat) (g : Nat) (s0_0 : ByteArray) (s0_1 : Int) (s0_2 : Bool) (r1 : Int) (r2 : Int) (r3 : ByteArray) (r4 : ByteArray) (r5 : Int) (r6 : Bool) (w0 w : World) (hI : IsS55 w0 w g s0_0 s0_1 s0_2) (hB : Below w0.heap.size w0 w) (h : mortmainref03_Take.f k s0_0 s0_1 s0_2 = some (r1, r2, r3, r4, r5, r6)) :
    Calls Tryz.prog 25 #[.pointer (some ⟨g, 0, none⟩)] w fun e w' => e = .returned (.agg #[.int .i64 r1, .int .i64 r2, .string r3]) ∧ IsS55 w0 w' g r4 r5 r6 ∧ Below w0.heap.size w0 w' ∧ KeepBut w w' g none := by
  have hu23 := Tryz.underlying23
  have HI0 := Aside0.mk hI
  have HK := Aside0.mk (KeepBut.refl w g none)
  have HL := Aside0.mk hB.size
  clear hI
  have HW0 := Aside0.mk hB.size
  have HB := Aside0.mk hB
  clear hB
  have H : ((mortmainref01_Reader_Int.f k s0_0 s0_1 s0_2).bind fun bt189 => ((mortmainref01_Reader_Int.f k bt189.2.1 bt189.2.2.1 bt189.2.2.2).bind fun bt193 => ((mortmainref01_Reader_Str.f k bt193.2.1 bt193.2.2.1 bt193.2.2.2).bind fun bt197 => (if bt197.2.2.2 = true then (mortmainref03_Take.j0 k true bt197.2.1 bt197.2.2.1 bt197.2.2.2 bt189.1 bt193.1 bt197.1) else ((mortmainref03_Good.f bt189.1 bt193.1 bt197.1).bind fun t202 => (mortmainref03_Take.j0 k (!t202) bt197.2.1 bt197.2.2.1 bt197.2.2.2 bt189.1 bt193.1 bt197.1)))))) = some (r1, r2, r3, r4, r5, r6) := h
  clear h
  replace H := Option.bind_eq_some_iff.mp H
  obtain ⟨⟨t189, t190, t191, t192⟩, A20, H⟩ := H
  replace H : ((mortmainref01_Reader_Int.f k t190 t191 t192).bind fun bt193 => ((mortmainref01_Reader_Str.f k bt193.2.1 bt193.2.2.1 bt193.2.2.2).bind fun bt197 => (if bt197.2.2.2 = true then (mortmainref03_Take.j0 k true bt197.2.1 bt197.2.2.1 bt197.2.2.2 t189 bt193.1 bt197.1) else ((mortmainref03_Good.f t189 bt193.1 bt197.1).bind fun t202 => (mortmainref03_Take.j0 k (!t202) bt197.2.1 bt197.2.2.1 bt197.2.2.2 t189 bt193.1 bt197.1))))) = some (r1, r2, r3, r4, r5, r6) := H
  have A2 := Aside0.mk A20
  clear A20
  replace H := Option.bind_eq_some_iff.mp H
  obtain ⟨⟨t193, t194, t195, t196⟩, A30, H⟩ := H
  replace H : ((mortmainref01_Reader_Str.f k t194 t195 t196).bind fun bt197 => (if bt197.2.2.2 = true then (mortmainref03_Take.j0 k true bt197.2.1 bt197.2.2.1 bt197.2.2.2 t189 t193 bt197.1) else ((mortmainref03_Good.f t189 t193 bt197.1).bind fun t202 => (mortmainref03_Take.j0 k (!t202) bt197.2.1 bt197.2.2.1 bt197.2.2.2 t189 t193 bt197.1)))) = some (r1, r2, r3, r4, r5, r6) := H
  have A3 := Aside0.mk A30
  clear A30
  replace H := Option.bind_eq_some_iff.mp H
  obtain ⟨⟨t197, t198, t199, t200⟩, A40, H⟩ := H
  replace H : (if t200 = true then (mortmainref03_Take.j0 k true t198 t199 t200 t189 t193 t197) else ((mortmainref03_Good.f t189 t193 t197).bind fun t202 => (mortmainref03_Take.j0 k (!t202) t198 t199 t200 t189 t193 t197))) = some (r1, r2, r3, r4, r5, r6) := H
  have A4 := Aside0.mk A40
  clear A40
  have HC5 := Aside0.mk H
  clear H
  go_enter Tryz.func25, Tryz.ntmps25
  go_upto_region 5 with (first | ((with_reducible refine gate_dst (N := 2) rfl ?_); refine box_event ?hg (N := 2) ?hd (cs := #[.int .i64 0, .int .i64 0, .string (⟨#[]⟩ : ByteArray)]) (t := 23) ?hr ?_; (case hd => rfl); (case hg => rfl); (case hr => first | (go_simp; done) | (go_simp; rfl)); intro gb188 hg w6 hbox hb; have n0_ := Aside0.mk (IsS55.below (by repeat (first | (with_reducible first | exact HI0.out | apply IsS55.alloc | apply IsS55.drewN | apply IsS55.drew | apply IsS55.set_0 | apply IsS55.set_1 | apply IsS55.set_2) | exact HI0.out)) hb); have n1_ := Aside0.mk (KeepBut.trans (by repeat (first | (with_reducible first | exact HK.out | apply KeepBut.set_ | apply keep_drewN | apply keep_drew | apply keep_alloc) | exact HK.out)) (KeepBut.of_below hb g none) (.inl rfl)); have n2_ := Aside0.mk (below_step (by repeat (first | (with_reducible first | exact HB.out | apply below_alloc | apply pw_below_drewN | apply below_drew1 | refine below_set ?_ (IsS55.ge HI0.out)) | exact HB.out)) hb); have n3_ := Aside0.mk (hbox); have n4_ := Aside0.mk ((by rw [hg]; exact (keep_size (w := w) (g := g) (row := none) (by repeat (first | (with_reducible first | exact HK.out | apply KeepBut.set_ | apply keep_drewN | apply keep_drew | apply keep_alloc) | exact HK.out))) : w.heap.size ≤ gb188)); have n5_ := Aside0.mk ((Nat.le_trans HW0.out (by rw [hg]; exact (keep_size (w := w) (g := g) (row := none) (by repeat (first | (with_reducible first | exact HK.out | apply KeepBut.set_ | apply keep_drewN | apply keep_drew | apply keep_alloc) | exact HK.out))) : w.heap.size ≤ gb188) : w0.heap.size ≤ gb188)); have n6_ := Aside0.mk ((by rw [hg]; exact Nat.ne_of_lt (IsS55.lt (show IsS55 w0 _ g s0_0 s0_1 s0_2 from by repeat (first | (with_reducible first | exact HI0.out | apply IsS55.alloc | apply IsS55.drewN | apply IsS55.drew | apply IsS55.set_0 | apply IsS55.set_1 | apply IsS55.set_2) | exact HI0.out))) : g ≠ gb188)); have n7_ := Aside0.mk ((by rw [hg]; exact Nat.ne_of_gt (IsS55.lt (show IsS55 w0 _ g s0_0 s0_1 s0_2 from by repeat (first | (with_reducible first | exact HI0.out | apply IsS55.alloc | apply IsS55.drewN | apply IsS55.drew | apply IsS55.set_0 | apply IsS55.set_1 | apply IsS55.set_2) | exact HI0.out))) : gb188 ≠ g)); clear HI0; clear HK; clear HB; have HI0 := n0_; have HK := n1_; have HB := n2_; have BK188 := n3_; have GW188 := n4_; have GE188 := n5_; have NB0_188 := n6_; have NB188_0 := n7_; clear n0_ n1_ n2_ n3_ n4_ n5_ n6_ n7_; clear hb hbox hg) | ((with_reducible refine gate_callee (f := 59) rfl ?_); refine goesL_ (some 8) rfl rfl Tryz.func59 (by kernel_rfl) rfl #[.pointer (some ⟨g, 0, none⟩)] rfl (by (try simp only [List.map_toArray, List.map_cons, List.map_nil]); first | done | rfl | (simp only [List.length_drop, List.length_take]; rfl)) ?_; (with_reducible refine (mortmainref01_Reader_Int.calls k g s0_0 s0_1 s0_2 t189 t190 t191 t192 w0 _ ?side1 ?side2 A2.out).mono ?_); (case side1 => repeat (first | (with_reducible first | exact HI0.out | apply IsS55.alloc | apply IsS55.drewN | apply IsS55.drew | apply IsS55.set_0 | apply IsS55.set_1 | apply IsS55.set_2 | apply IsS55.far (hne := NB0_188.out)) | exact HI0.out)); (case side2 => repeat (first | (with_reducible first | exact HB.out | apply below_alloc | apply pw_below_drewN | apply below_drew1 | refine below_set ?_ (IsS55.ge HI0.out) | refine below_set ?_ GE188.out) | exact HB.out)); rintro e w7 ⟨rfl, hi, hb, hk⟩; refine ⟨_, rfl, ?_⟩; have n0_ := Aside0.mk (KeepBut.blk hk (g' := gb188) (o := .cells #[.int .i64 0, .int .i64 0, .string (⟨#[]⟩ : ByteArray)] 23 (0, 0)) (by (with_reducible repeat (first | refine blk_drewN ?_ _ | refine blk_drew ?_ | refine blk_alloc ?_ _)); exact BK188.out) NB188_0.out (by simp)); have n1_ := Aside0.mk (KeepBut.trans (by repeat (first | (with_reducible first | exact HK.out | apply KeepBut.set_ | apply keep_drewN | apply keep_drew | apply keep_alloc | refine keep_far ?_ GW188.out _) | exact HK.out)) hk (.inl rfl)); have n2_ := Aside0.mk (hb); have n3_ := Aside0.mk (hi); clear BK188; clear HK; clear HB; clear HI0; have BK188 := n0_; have HK := n1_; have HB := n2_; have HI0 := n3_; clear n0_ n1_ n2_ n3_; (try clear hb); (try clear hb2); (try clear hk); (try clear hi)) | ((with_reducible refine gate_callee (f := 59) rfl ?_); refine goesL_ (some 10) rfl rfl Tryz.func59 (by kernel_rfl) rfl #[.pointer (some ⟨g, 0, none⟩)] rfl (by (try simp only [List.map_toArray, List.map_cons, List.map_nil]); first | done | rfl | (simp only [List.length_drop, List.length_take]; rfl)) ?_; (with_reducible refine (mortmainref01_Reader_Int.calls k g t190 t191 t192 t193 t194 t195 t196 w0 _ ?side1 ?side2 A3.out).mono ?_); (case side1 => repeat (first | (with_reducible first | exact HI0.out | apply IsS55.alloc | apply IsS55.drewN | apply IsS55.drew | apply IsS55.set_0 | apply IsS55.set_1 | apply IsS55.set_2 | apply IsS55.far (hne := NB0_188.out)) | exact HI0.out)); (case side2 => repeat (first | (with_reducible first | exact HB.out | apply below_alloc | apply pw_below_drewN | apply below_drew1 | refine below_set ?_ (IsS55.ge HI0.out) | refine below_set ?_ GE188.out) | exact HB.out)); rintro e w8 ⟨rfl, hi, hb, hk⟩; refine ⟨_, rfl, ?_⟩; have n0_ := Aside0.mk (KeepBut.blk hk (g' := gb188) (o := .cells #[.int .i64 0, .int .i64 0, .string (⟨#[]⟩ : ByteArray)] 23 (0, 0)) (by (with_reducible repeat (first | refine blk_drewN ?_ _ | refine blk_drew ?_ | refine blk_alloc ?_ _)); exact BK188.out) NB188_0.out (by simp)); have n1_ := Aside0.mk (KeepBut.trans (by repeat (first | (with_reducible first | exact HK.out | apply KeepBut.set_ | apply keep_drewN | apply keep_drew | apply keep_alloc | refine keep_far ?_ GW188.out _) | exact HK.out)) hk (.inl rfl)); have n2_ := Aside0.mk (hb); have n3_ := Aside0.mk (hi); clear BK188; clear HK; clear HB; clear HI0; have BK188 := n0_; have HK := n1_; have HB := n2_; have HI0 := n3_; clear n0_ n1_ n2_ n3_; (try clear hb); (try clear hb2); (try clear hk); (try clear hi)) | ((with_reducible refine gate_callee (f := 60) rfl ?_); refine goesL_ (some 12) rfl rfl Tryz.func60 (by kernel_rfl) rfl #[.pointer (some ⟨g, 0, none⟩)] rfl (by (try simp only [List.map_toArray, List.map_cons, List.map_nil]); first | done | rfl | (simp only [List.length_drop, List.length_take]; rfl)) ?_; (with_reducible refine (mortmainref01_Reader_Str.calls k g t194 t195 t196 t197 t198 t199 t200 w0 _ ?side1 ?side2 A4.out).mono ?_); (case side1 => repeat (first | (with_reducible first | exact HI0.out | apply IsS55.alloc | apply IsS55.drewN | apply IsS55.drew | apply IsS55.set_0 | apply IsS55.set_1 | apply IsS55.set_2 | apply IsS55.far (hne := NB0_188.out)) | exact HI0.out)); (case side2 => repeat (first | (with_reducible first | exact HB.out | apply below_alloc | apply pw_below_drewN | apply below_drew1 | refine below_set ?_ (IsS55.ge HI0.out) | refine below_set ?_ GE188.out) | exact HB.out)); rintro e w9 ⟨rfl, hi, hb, hk⟩; refine ⟨_, rfl, ?_⟩; have n0_ := Aside0.mk (KeepBut.blk hk (g' := gb188) (o := .cells #[.int .i64 0, .int .i64 0, .string (⟨#[]⟩ : ByteArray)] 23 (0, 0)) (by (with_reducible repeat (first | refine blk_drewN ?_ _ | refine blk_drew ?_ | refine blk_alloc ?_ _)); exact BK188.out) NB188_0.out (by simp)); have n1_ := Aside0.mk (KeepBut.trans (by repeat (first | (with_reducible first | exact HK.out | apply KeepBut.set_ | apply keep_drewN | apply keep_drew | apply keep_alloc | refine keep_far ?_ GW188.out _) | exact HK.out)) hk (.inl rfl)); have n2_ := Aside0.mk (hb); have n3_ := Aside0.mk (hi); clear BK188; clear HK; clear HB; clear HI0; have BK188 := n0_; have HK := n1_; have HB := n2_; have HI0 := n3_; clear n0_ n1_ n2_ n3_; (try clear hb); (try clear hb2); (try clear hk); (try clear hi)) | ((with_reducible refine gate_dst (N := 6) rfl ?_); refine box_event ?hg (N := 6) ?hd (cs := #[.int .i64 0, .int .i64 0, .string (⟨#[]⟩ : ByteArray)]) (t := 23) ?hr ?_; (case hd => rfl); (case hg => rfl); (case hr => first | (go_simp; done) | (go_simp; rfl)); intro gb201 hg w10 hbox hb; have n0_ := Aside0.mk (IsS55.below (by repeat (first | (with_reducible first | exact HI0.out | apply IsS55.alloc | apply IsS55.drewN | apply IsS55.drew | apply IsS55.set_0 | apply IsS55.set_1 | apply IsS55.set_2 | apply IsS55.far (hne := NB0_188.out)) | exact HI0.out)) hb); have n1_ := Aside0.mk (blk_below (g := gb188) (o := .cells #[.int .i64 0, .int .i64 0, .string (⟨#[]⟩ : ByteArray)] 23 (0, 0)) (by (with_reducible repeat (first | refine blk_drewN ?_ _ | refine blk_drew ?_ | refine blk_alloc ?_ _)); exact BK188.out) hb); have n2_ := Aside0.mk (KeepBut.trans (by repeat (first | (with_reducible first | exact HK.out | apply KeepBut.set_ | apply keep_drewN | apply keep_drew | apply keep_alloc | refine keep_far ?_ GW188.out _) | exact HK.out)) (KeepBut.of_below hb g none) (.inl rfl)); have n3_ := Aside0.mk (below_step (by repeat (first | (with_reducible first | exact HB.out | apply below_alloc | apply pw_below_drewN | apply below_drew1 | refine below_set ?_ (IsS55.ge HI0.out) | refine below_set ?_ GE188.out) | exact HB.out)) hb); have n4_ := Aside0.mk (hbox); have n5_ := Aside0.mk ((by rw [hg]; exact (keep_size (w := w) (g := g) (row := none) (by repeat (first | (with_reducible first | exact HK.out | apply KeepBut.set_ | apply keep_drewN | apply keep_drew | apply keep_alloc | refine keep_far ?_ GW188.out _) | exact HK.out))) : w.heap.size ≤ gb201)); have n6_ := Aside0.mk ((Nat.le_trans HW0.out (by rw [hg]; exact (keep_size (w := w) (g := g) (row := none) (by repeat (first | (with_reducible first | exact HK.out | apply KeepBut.set_ | apply keep_drewN | apply keep_drew | apply keep_alloc | refine keep_far ?_ GW188.out _) | exact HK.out))) : w.heap.size ≤ gb201) : w0.heap.size ≤ gb201)); have n7_ := Aside0.mk ((by rw [hg]; exact Nat.ne_of_lt (blk_lt (g := gb188) (o := .cells #[.int .i64 0, .int .i64 0, .string (⟨#[]⟩ : ByteArray)] 23 (0, 0)) (by (with_reducible repeat (first | refine blk_drewN ?_ _ | refine blk_drew ?_ | refine blk_alloc ?_ _)); exact BK188.out)) : gb188 ≠ gb201)); have n8_ := Aside0.mk ((by rw [hg]; exact Nat.ne_of_gt (blk_lt (g := gb188) (o := .cells #[.int .i64 0, .int .i64 0, .string (⟨#[]⟩ : ByteArray)] 23 (0, 0)) (by (with_reducible repeat (first | refine blk_drewN ?_ _ | refine blk_drew ?_ | refine blk_alloc ?_ _)); exact BK188.out)) : gb201 ≠ gb188)); have n9_ := Aside0.mk ((by rw [hg]; exact Nat.ne_of_lt (IsS55.lt (show IsS55 w0 _ g t198 t199 t200 from by repeat (first | (with_reducible first | exact HI0.out | apply IsS55.alloc | apply IsS55.drewN | apply IsS55.drew | apply IsS55.set_0 | apply IsS55.set_1 | apply IsS55.set_2 | apply IsS55.far (hne := NB0_188.out)) | exact HI0.out))) : g ≠ gb201)); have n10_ := Aside0.mk ((by rw [hg]; exact Nat.ne_of_gt (IsS55.lt (show IsS55 w0 _ g t198 t199 t200 from by repeat (first | (with_reducible first | exact HI0.out | apply IsS55.alloc | apply IsS55.drewN | apply IsS55.drew | apply IsS55.set_0 | apply IsS55.set_1 | apply IsS55.set_2 | apply IsS55.far (hne := NB0_188.out)) | exact HI0.out))) : gb201 ≠ g)); clear HI0; clear BK188; clear HK; clear HB; have HI0 := n0_; have BK188 := n1_; have HK := n2_; have HB := n3_; have BK201 := n4_; have GW201 := n5_; have GE201 := n6_; have NB188_201 := n7_; have NB201_188 := n8_; have NB0_201 := n9_; have NB201_0 := n10_; clear n0_ n1_ n2_ n3_ n4_ n5_ n6_ n7_ n8_ n9_ n10_; clear hb hbox hg; have hnb11 := NB201_188.out; have hnc11 := NB188_201.out; have hnb12 := NB201_0.out; have hnc12 := NB0_201.out; have hcz13_0 : w10.cell? ⟨gb201, 0, none⟩ = some (.int .i64 0) := (blk_cell BK201.out 0).trans rfl; have hcz13_1 : w10.cell? ⟨gb201, 1, none⟩ = some (.int .i64 0) := (blk_cell BK201.out 1).trans rfl; have hcz13_2 : w10.cell? ⟨gb201, 2, none⟩ = some (.string (⟨#[]⟩ : ByteArray)) := (blk_cell BK201.out 2).trans rfl; have hfz13_0 := blk_frozen BK201.out 0; have hfz13_1 := blk_frozen BK201.out 1; have hfz13_2 := blk_frozen BK201.out 2))
  (try simp only [Act.put, List.setIfInBounds_toArray, List.set_cons_zero, List.set_cons_succ])
  go_cut [25] (fun v25 wc => ∃ (kq : Nat) (x25_4 : Bool), v25 = .bool x25_4 ∧ Aside0 (mortmainref03_Take.j0 kq x25_4 t198 t199 t200 t189 t193 t197 = some (r1, r2, r3, r4, r5, r6)) ∧ Aside0 (kq ≤ k) ∧ Aside0 (wc.heap[gb188]? = some (.cells #[.int .i64 0, .int .i64 0, .string (⟨#[]⟩ : ByteArray)] 23 (0, 0))) ∧ Aside0 (wc.heap[gb201]? = some (.cells #[.int .i64 t189, .int .i64 t193, .string t197] 23 (0, 0))) ∧ Aside0 (IsS55 w0 wc g t198 t199 t200) ∧ Aside0 (KeepBut w wc g none) ∧ Aside0 (Below w0.heap.size w0 wc))
  case first =>
    have H := HC5.out
    clear HC5
    by_cases c14 : t200 = true
    · subst c14
      have H1 : (mortmainref03_Take.j0 k true t198 t199 true t189 t193 t197) = some (r1, r2, r3, r4, r5, r6) := by rw [if_pos rfl] at H; exact H
      clear H
      have H := H1
      clear H1
      have H' := Aside0.mk H
      clear H
      obtain ⟨HGz15, hgz15⟩ := HI0.out
      have hcz15_0 := cellS55_0 HGz15
      have hcz15_1 := cellS55_1 HGz15
      have hcz15_2 := cellS55_2 HGz15
      have hfz15_0 := blk_frozen HGz15 0
      have hfz15_1 := blk_frozen HGz15 1
      have hfz15_2 := blk_frozen HGz15 2
      clear HGz15 hgz15
      go_wp2
      go_meet
      case rel => exact ⟨_, (true), (by first | rfl | (simp; done) | (simp [*]; done) | (generalize ByteArray.toList _ = l_; cases l_ <;> rfl)), H', ⟨by first | omega | exact Nat.le_refl _⟩, ⟨by (with_reducible repeat (first | refine blk_drewN ?_ _ | refine blk_drew ?_ | refine blk_alloc ?_ _)); refine blk_far ?_ NB188_201.out _; (with_reducible repeat (first | refine blk_drewN ?_ _ | refine blk_drew ?_ | refine blk_alloc ?_ _)); refine blk_far ?_ NB188_201.out _; (with_reducible repeat (first | refine blk_drewN ?_ _ | refine blk_drew ?_ | refine blk_alloc ?_ _)); refine blk_far ?_ NB188_201.out _; (with_reducible repeat (first | refine blk_drewN ?_ _ | refine blk_drew ?_ | refine blk_alloc ?_ _)); exact BK188.out⟩, ⟨by (with_reducible repeat (first | refine blk_drewN ?_ _ | refine blk_drew ?_ | refine blk_alloc ?_ _)); refine blk_put (cs := #[.int .i64 t189, .int .i64 t193, .string (⟨#[]⟩ : ByteArray)]) ?_ 2 _ rfl; (with_reducible repeat (first | refine blk_drewN ?_ _ | refine blk_drew ?_ | refine blk_alloc ?_ _)); refine blk_put (cs := #[.int .i64 t189, .int .i64 0, .string (⟨#[]⟩ : ByteArray)]) ?_ 1 _ rfl; (with_reducible repeat (first | refine blk_drewN ?_ _ | refine blk_drew ?_ | refine blk_alloc ?_ _)); refine blk_put (cs := #[.int .i64 0, .int .i64 0, .string (⟨#[]⟩ : ByteArray)]) ?_ 0 _ rfl; (with_reducible repeat (first | refine blk_drewN ?_ _ | refine blk_drew ?_ | refine blk_alloc ?_ _)); exact BK201.out⟩, ⟨by repeat (first | (with_reducible first | exact HI0.out | apply IsS55.alloc | apply IsS55.drewN | apply IsS55.drew | apply IsS55.set_0 | apply IsS55.set_1 | apply IsS55.set_2 | apply IsS55.far (hne := NB0_188.out) | apply IsS55.far (hne := NB0_201.out)) | exact HI0.out)⟩, ⟨by repeat (first | (with_reducible first | exact HK.out | apply KeepBut.set_ | apply keep_drewN | apply keep_drew | apply keep_alloc | refine keep_far ?_ GW188.out _ | refine keep_far ?_ GW201.out _) | exact HK.out)⟩, ⟨by repeat (first | (with_reducible first | exact HB.out | apply below_alloc | apply pw_below_drewN | apply below_drew1 | refine below_set ?_ (IsS55.ge HI0.out) | refine below_set ?_ GE188.out | refine below_set ?_ GE201.out) | exact HB.out)⟩⟩
    · replace c14 := Bool.eq_false_iff.mpr c14
      subst c14
      have H1 : ((mortmainref03_Good.f t189 t193 t197).bind fun t202 => (mortmainref03_Take.j0 k (!t202) t198 t199 false t189 t193 t197)) = some (r1, r2, r3, r4, r5, r6) := by rw [if_neg (show ¬ (false = true) by decide)] at H; exact H
      clear H
      have H := H1
      clear H1
      replace H := Option.bind_eq_some_iff.mp H
      obtain ⟨t202, A160, H⟩ := H
      replace H : (mortmainref03_Take.j0 k (!t202) t198 t199 false t189 t193 t197) = some (r1, r2, r3, r4, r5, r6) := H
      have A16 := Aside0.mk A160
      clear A160
      have H' := Aside0.mk H
      clear H
      obtain ⟨HGz17, hgz17⟩ := HI0.out
      have hcz17_0 := cellS55_0 HGz17
      have hcz17_1 := cellS55_1 HGz17
      have hcz17_2 := cellS55_2 HGz17
      have hfz17_0 := blk_frozen HGz17 0
      have hfz17_1 := blk_frozen HGz17 1
      have hfz17_2 := blk_frozen HGz17 2
      clear HGz17 hgz17
      have hnb18 := NB201_188.out
      have hnc18 := NB188_201.out
      have hnb19 := NB201_0.out
      have hnc19 := NB0_201.out
      have hcz20_0 : w10.cell? ⟨gb201, 0, none⟩ = some (.int .i64 0) := (blk_cell BK201.out 0).trans rfl
      have hcz20_1 : w10.cell? ⟨gb201, 1, none⟩ = some (.int .i64 0) := (blk_cell BK201.out 1).trans rfl
      have hcz20_2 : w10.cell? ⟨gb201, 2, none⟩ = some (.string (⟨#[]⟩ : ByteArray)) := (blk_cell BK201.out 2).trans rfl
      have hfz20_0 := blk_frozen BK201.out 0
      have hfz20_1 := blk_frozen BK201.out 1
      have hfz20_2 := blk_frozen BK201.out 2
      go_wp2_with (first | (go_at_call 13; (with_reducible refine (mortmainref03_Good.calls t189 t193 t197 t202 _ A16.out).mono ?_); rintro e w21 ⟨rfl, hb⟩; have n0_ := Aside0.mk (IsS55.below (show IsS55 w0 (((w10.setCell ⟨gb201, 0, none⟩ (.int .i64 t189)).setCell ⟨gb201, 1, none⟩ (.int .i64 t193)).setCell ⟨gb201, 2, none⟩ (.string t197)) g t198 t199 false from by repeat (first | (with_reducible first | exact HI0.out | apply IsS55.alloc | apply IsS55.drewN | apply IsS55.drew | apply IsS55.set_0 | apply IsS55.set_1 | apply IsS55.set_2 | apply IsS55.far (hne := NB0_188.out) | apply IsS55.far (hne := NB0_201.out)) | exact HI0.out)) hb); have n1_ := Aside0.mk (blk_below (g := gb188) (o := .cells #[.int .i64 0, .int .i64 0, .string (⟨#[]⟩ : ByteArray)] 23 (0, 0)) (by (with_reducible repeat (first | refine blk_drewN ?_ _ | refine blk_drew ?_ | refine blk_alloc ?_ _)); refine blk_far ?_ NB188_201.out _; (with_reducible repeat (first | refine blk_drewN ?_ _ | refine blk_drew ?_ | refine blk_alloc ?_ _)); refine blk_far ?_ NB188_201.out _; (with_reducible repeat (first | refine blk_drewN ?_ _ | refine blk_drew ?_ | refine blk_alloc ?_ _)); refine blk_far ?_ NB188_201.out _; (with_reducible repeat (first | refine blk_drewN ?_ _ | refine blk_drew ?_ | refine blk_alloc ?_ _)); exact BK188.out) hb); have n2_ := Aside0.mk (blk_below (g := gb201) (o := .cells #[.int .i64 t189, .int .i64 t193, .string t197] 23 (0, 0)) (by (with_reducible repeat (first | refine blk_drewN ?_ _ | refine blk_drew ?_ | refine blk_alloc ?_ _)); refine blk_put (cs := #[.int .i64 t189, .int .i64 t193, .string (⟨#[]⟩ : ByteArray)]) ?_ 2 _ rfl; (with_reducible repeat (first | refine blk_drewN ?_ _ | refine blk_drew ?_ | refine blk_alloc ?_ _)); refine blk_put (cs := #[.int .i64 t189, .int .i64 0, .string (⟨#[]⟩ : ByteArray)]) ?_ 1 _ rfl; (with_reducible repeat (first | refine blk_drewN ?_ _ | refine blk_drew ?_ | refine blk_alloc ?_ _)); refine blk_put (cs := #[.int .i64 0, .int .i64 0, .string (⟨#[]⟩ : ByteArray)]) ?_ 0 _ rfl; (with_reducible repeat (first | refine blk_drewN ?_ _ | refine blk_drew ?_ | refine blk_alloc ?_ _)); exact BK201.out) hb); have n3_ := Aside0.mk (KeepBut.trans (by repeat (first | (with_reducible first | exact HK.out | apply KeepBut.set_ | apply keep_drewN | apply keep_drew | apply keep_alloc | refine keep_far ?_ GW188.out _ | refine keep_far ?_ GW201.out _) | exact HK.out)) (KeepBut.of_below hb g none) (.inl rfl)); have n4_ := Aside0.mk (below_step (by repeat (first | (with_reducible first | exact HB.out | apply below_alloc | apply pw_below_drewN | apply below_drew1 | refine below_set ?_ (IsS55.ge HI0.out) | refine below_set ?_ GE188.out | refine below_set ?_ GE201.out) | exact HB.out)) hb); clear HI0; clear BK188; clear BK201; clear HK; clear HB; have HI0 := n0_; have BK188 := n1_; have BK201 := n2_; have HK := n3_; have HB := n4_; clear n0_ n1_ n2_ n3_ n4_; (try clear hb); (try clear hb2); (try clear hk); (try clear hi)))
      go_meet
      case rel => exact ⟨_, (!t202), (by first | rfl | (simp; done) | (simp [*]; done) | (generalize ByteArray.toList _ = l_; cases l_ <;> rfl)), H', ⟨by first | omega | exact Nat.le_refl _⟩, ⟨by (with_reducible repeat (first | refine blk_drewN ?_ _ | refine blk_drew ?_ | refine blk_alloc ?_ _)); exact BK188.out⟩, ⟨by (with_reducible repeat (first | refine blk_drewN ?_ _ | refine blk_drew ?_ | refine blk_alloc ?_ _)); exact BK201.out⟩, ⟨by repeat (first | (with_reducible first | exact HI0.out | apply IsS55.alloc | apply IsS55.drewN | apply IsS55.drew | apply IsS55.set_0 | apply IsS55.set_1 | apply IsS55.set_2 | apply IsS55.far (hne := NB0_188.out) | apply IsS55.far (hne := NB0_201.out)) | exact HI0.out)⟩, ⟨by repeat (first | (with_reducible first | exact HK.out | apply KeepBut.set_ | apply keep_drewN | apply keep_drew | apply keep_alloc | refine keep_far ?_ GW188.out _ | refine keep_far ?_ GW201.out _) | exact HK.out)⟩, ⟨by repeat (first | (with_reducible first | exact HB.out | apply below_alloc | apply pw_below_drewN | apply below_drew1 | refine below_set ?_ (IsS55.ge HI0.out) | refine below_set ?_ GE188.out | refine below_set ?_ GE201.out) | exact HB.out)⟩⟩
  case rest =>
    clear HC5
    try clear c1
    try clear c2
    try clear p2
    try clear c5
    try clear c6
    try clear c11
    try clear c12
    try clear c14
    try clear c18
    try clear c19
    try clear hcz13_0
    try clear hcz13_1
    try clear hcz13_2
    try clear hcz15_0
    try clear hcz15_1
    try clear hcz15_2
    try clear hcz17_0
    try clear hcz17_1
    try clear hcz17_2
    try clear hcz20_0
    try clear hcz20_1
    try clear hcz20_2
    try clear hfz13_0
    try clear hfz13_1
    try clear hfz13_2
    try clear hfz15_0
    try clear hfz15_1
    try clear hfz15_2
    try clear hfz17_0
    try clear hfz17_1
    try clear hfz17_2
    try clear hfz20_0
    try clear hfz20_1
    try clear hfz20_2
    obtain ⟨kq, x25_4, rfl, HA, HJ4, BK188, BK201, HI0, HK, HB⟩ := hcut
    cases kq with
    | zero => exact absurd HA.out (by simp [mortmainref03_Take.j0])
    | succ kj4 =>
      have H := HA.out
      clear HA
      simp only [mortmainref03_Take.j0] at H
      by_cases c22 : x25_4 = true
      · subst c22
        have H1 : (some (0, 0, (⟨#[]⟩ : ByteArray), t198, t199, true)) = some (r1, r2, r3, r4, r5, r6) := by rw [if_pos rfl] at H; exact H
        clear H
        have H := H1
        clear H1
        simp only [Option.some.injEq, Prod.mk.injEq] at H
        obtain ⟨rfl, rfl, rfl, rfl, rfl, rfl⟩ := H
        obtain ⟨HGz23, hgz23⟩ := HI0.out
        have hcz23_0 := cellS55_0 HGz23
        have hcz23_1 := cellS55_1 HGz23
        have hcz23_2 := cellS55_2 HGz23
        have hfz23_0 := blk_frozen HGz23 0
        have hfz23_1 := blk_frozen HGz23 1
        have hfz23_2 := blk_frozen HGz23 2
        clear HGz23 hgz23
        have hnb24 := NB188_201.out
        have hnc24 := NB201_188.out
        have hnb25 := NB188_0.out
        have hnc25 := NB0_188.out
        have hcz26_0 : wc.cell? ⟨gb188, 0, none⟩ = some (.int .i64 0) := (blk_cell BK188.out 0).trans rfl
        have hcz26_1 : wc.cell? ⟨gb188, 1, none⟩ = some (.int .i64 0) := (blk_cell BK188.out 1).trans rfl
        have hcz26_2 : wc.cell? ⟨gb188, 2, none⟩ = some (.string (⟨#[]⟩ : ByteArray)) := (blk_cell BK188.out 2).trans rfl
        have hfz26_0 := blk_frozen BK188.out 0
        have hfz26_1 := blk_frozen BK188.out 1
        have hfz26_2 := blk_frozen BK188.out 2
        go_wp2
        refine bodyPost_ret (results_cell_row rfl _ _ gb188 23 #[.int .i64 0, .int .i64 0, .string (⟨#[]⟩ : ByteArray)] (0, 0) _ rfl (by (with_reducible repeat (first | refine blk_drewN ?_ _ | refine blk_drew ?_ | refine blk_alloc ?_ _)); refine blk_put (cs := #[.int .i64 0, .int .i64 0, .string (⟨#[]⟩ : ByteArray)]) ?_ 2 _ rfl; (with_reducible repeat (first | refine blk_drewN ?_ _ | refine blk_drew ?_ | refine blk_alloc ?_ _)); refine blk_put (cs := #[.int .i64 0, .int .i64 0, .string (⟨#[]⟩ : ByteArray)]) ?_ 1 _ rfl; (with_reducible repeat (first | refine blk_drewN ?_ _ | refine blk_drew ?_ | refine blk_alloc ?_ _)); refine blk_put (cs := #[.int .i64 0, .int .i64 0, .string (⟨#[]⟩ : ByteArray)]) ?_ 0 _ rfl; (with_reducible repeat (first | refine blk_drewN ?_ _ | refine blk_drew ?_ | refine blk_alloc ?_ _)); refine blk_far ?_ NB188_0.out _; (with_reducible repeat (first | refine blk_drewN ?_ _ | refine blk_drew ?_ | refine blk_alloc ?_ _)); exact BK188.out) Tryz.underlying23 rfl (by kernel_rfl)) rfl ?_
        exact ⟨by first | rfl | (simp [errW_none, errW_some] <;> rfl) | (simp [*, errW_none, errW_some] <;> rfl), by repeat (first | (with_reducible first | exact HI0.out | apply IsS55.alloc | apply IsS55.drewN | apply IsS55.drew | apply IsS55.set_0 | apply IsS55.set_1 | apply IsS55.set_2 | apply IsS55.far (hne := NB0_188.out) | apply IsS55.far (hne := NB0_201.out)) | exact HI0.out), by repeat (first | (with_reducible first | exact HB.out | apply below_alloc | apply pw_below_drewN | apply below_drew1 | refine below_set ?_ (IsS55.ge HI0.out) | refine below_set ?_ GE188.out | refine below_set ?_ GE201.out) | exact HB.out), by repeat (first | (with_reducible first | exact HK.out | apply KeepBut.set_ | apply keep_drewN | apply keep_drew | apply keep_alloc | refine keep_far ?_ GW188.out _ | refine keep_far ?_ GW201.out _) | exact HK.out)⟩
      · replace c22 := Bool.eq_false_iff.mpr c22
        subst c22
        have H1 : (some (t189, t193, t197, t198, t199, t200)) = some (r1, r2, r3, r4, r5, r6) := by rw [if_neg (show ¬ (false = true) by decide)] at H; exact H
        clear H
        have H := H1
        clear H1
        simp only [Option.some.injEq, Prod.mk.injEq] at H
        obtain ⟨rfl, rfl, rfl, rfl, rfl, rfl⟩ := H
        have hnb27 := NB201_188.out
        have hnc27 := NB188_201.out
        have hnb28 := NB201_0.out
        have hnc28 := NB0_201.out
        have hcz29_0 : wc.cell? ⟨gb201, 0, none⟩ = some (.int .i64 t189) := (blk_cell BK201.out 0).trans rfl
        have hcz29_1 : wc.cell? ⟨gb201, 1, none⟩ = some (.int .i64 t193) := (blk_cell BK201.out 1).trans rfl
        have hcz29_2 : wc.cell? ⟨gb201, 2, none⟩ = some (.string t197) := (blk_cell BK201.out 2).trans rfl
        have hfz29_0 := blk_frozen BK201.out 0
        have hfz29_1 := blk_frozen BK201.out 1
        have hfz29_2 := blk_frozen BK201.out 2
        have hnb30 := NB188_0.out
        have hnc30 := NB0_188.out
        have hcz31_0 : wc.cell? ⟨gb188, 0, none⟩ = some (.int .i64 0) := (blk_cell BK188.out 0).trans rfl
        have hcz31_1 : wc.cell? ⟨gb188, 1, none⟩ = some (.int .i64 0) := (blk_cell BK188.out 1).trans rfl
        have hcz31_2 : wc.cell? ⟨gb188, 2, none⟩ = some (.string (⟨#[]⟩ : ByteArray)) := (blk_cell BK188.out 2).trans rfl
        have hfz31_0 := blk_frozen BK188.out 0
        have hfz31_1 := blk_frozen BK188.out 1
        have hfz31_2 := blk_frozen BK188.out 2
        go_wp2
        refine bodyPost_ret (results_cell_row rfl _ _ gb188 23 #[.int .i64 t189, .int .i64 t193, .string t197] (0, 0) _ rfl (by (with_reducible repeat (first | refine blk_drewN ?_ _ | refine blk_drew ?_ | refine blk_alloc ?_ _)); refine blk_put (cs := #[.int .i64 t189, .int .i64 t193, .string (⟨#[]⟩ : ByteArray)]) ?_ 2 _ rfl; (with_reducible repeat (first | refine blk_drewN ?_ _ | refine blk_drew ?_ | refine blk_alloc ?_ _)); refine blk_put (cs := #[.int .i64 t189, .int .i64 0, .string (⟨#[]⟩ : ByteArray)]) ?_ 1 _ rfl; (with_reducible repeat (first | refine blk_drewN ?_ _ | refine blk_drew ?_ | refine blk_alloc ?_ _)); refine blk_put (cs := #[.int .i64 0, .int .i64 0, .string (⟨#[]⟩ : ByteArray)]) ?_ 0 _ rfl; (with_reducible repeat (first | refine blk_drewN ?_ _ | refine blk_drew ?_ | refine blk_alloc ?_ _)); exact BK188.out) Tryz.underlying23 rfl (by kernel_rfl)) rfl ?_
        exact ⟨by first | rfl | (simp [errW_none, errW_some] <;> rfl) | (simp [*, errW_none, errW_some] <;> rfl), by repeat (first | (with_reducible first | exact HI0.out | apply IsS55.alloc | apply IsS55.drewN | apply IsS55.drew | apply IsS55.set_0 | apply IsS55.set_1 | apply IsS55.set_2 | apply IsS55.far (hne := NB0_188.out) | apply IsS55.far (hne := NB0_201.out)) | exact HI0.out), by repeat (first | (with_reducible first | exact HB.out | apply below_alloc | apply pw_below_drewN | apply below_drew1 | refine below_set ?_ (IsS55.ge HI0.out) | refine below_set ?_ GE188.out | refine below_set ?_ GE201.out) | exact HB.out), by repeat (first | (with_reducible first | exact HK.out | apply KeepBut.set_ | apply keep_drewN | apply keep_drew | apply keep_alloc | refine keep_far ?_ GW188.out _ | refine keep_far ?_ GW201.out _) | exact HK.out)⟩

/-! ### mortmainref01_Reader_Many: function 54 -/
def mortmainref01_Reader_Many.j0 : Nat → Int → Bool → ByteArray → Int → Bool → Option (Int × ByteArray × Int × Bool)
  | 0, _, _, _, _, _ => none
  | k + 1, x5, x28, x1000, x1001, x1002 => if x28 = true then (some (0, x1000, x1001, true)) else (some (x5, x1000, x1001, x1002))
def mortmainref01_Reader_Many.f (k : Nat) (s0_0 : ByteArray) (s0_1 : Int) (s0_2 : Bool) (a1 : Int) : Option (Int × ByteArray × Int × Bool) := (mortmainref01_Reader_Int.f k s0_0 s0_1 s0_2).bind fun bt203 => (if bt203.1 < 0 then (mortmainref01_Reader_Many.j0 k bt203.1 true bt203.2.1 bt203.2.2.1 bt203.2.2.2) else (if bt203.1 > a1 then (mortmainref01_Reader_Many.j0 k bt203.1 true bt203.2.1 bt203.2.2.1 bt203.2.2.2) else (mortmainref01_Reader_Many.j0 k bt203.1 (decide (bt203.1 > (wrap64 ((bt203.2.1.size : Int) - bt203.2.2.1)))) bt203.2.1 bt203.2.2.1 bt203.2.2.2)))
set_option maxHeartbeats 8000000 in
set_option maxRecDepth 100000 in
theorem mortmainref01_Reader_Many.calls (k : Nat) (g : Nat) (s0_0 : ByteArray) (s0_1 : Int) (s0_2 : Bool) (a1 : Int) (r1 : Int) (r2 : ByteArray) (r3 : Int) (r4 : Bool) (w0 w : World) (hI : IsS55 w0 w g s0_0 s0_1 s0_2) (hB : Below w0.heap.size w0 w) (h : mortmainref01_Reader_Many.f k s0_0 s0_1 s0_2 a1 = some (r1, r2, r3, r4)) :
    Calls Tryz.prog 54 #[.pointer (some ⟨g, 0, none⟩), .int .i64 a1] w fun e w' => e = .returned (.int .i64 r1) ∧ IsS55 w0 w' g r2 r3 r4 ∧ Below w0.heap.size w0 w' ∧ KeepBut w w' g none := by
  have HI0 := Aside0.mk hI
  have HK := Aside0.mk (KeepBut.refl w g none)
  have HL := Aside0.mk hB.size
  clear hI
  have HW0 := Aside0.mk hB.size
  have HB := Aside0.mk hB
  clear hB
  have H : ((mortmainref01_Reader_Int.f k s0_0 s0_1 s0_2).bind fun bt203 => (if bt203.1 < 0 then (mortmainref01_Reader_Many.j0 k bt203.1 true bt203.2.1 bt203.2.2.1 bt203.2.2.2) else (if bt203.1 > a1 then (mortmainref01_Reader_Many.j0 k bt203.1 true bt203.2.1 bt203.2.2.1 bt203.2.2.2) else (mortmainref01_Reader_Many.j0 k bt203.1 (decide (bt203.1 > (wrap64 ((bt203.2.1.size : Int) - bt203.2.2.1)))) bt203.2.1 bt203.2.2.1 bt203.2.2.2)))) = some (r1, r2, r3, r4) := h
  clear h
  replace H := Option.bind_eq_some_iff.mp H
  obtain ⟨⟨t203, t204, t205, t206⟩, A30, H⟩ := H
  replace H : (if t203 < 0 then (mortmainref01_Reader_Many.j0 k t203 true t204 t205 t206) else (if t203 > a1 then (mortmainref01_Reader_Many.j0 k t203 true t204 t205 t206) else (mortmainref01_Reader_Many.j0 k t203 (decide (t203 > (wrap64 ((t204.size : Int) - t205)))) t204 t205 t206))) = some (r1, r2, r3, r4) := H
  have A3 := Aside0.mk A30
  clear A30
  have HC4 := Aside0.mk H
  clear H
  go_enter Tryz.func54, Tryz.ntmps54
  go_upto_region 2 with (first | (go_at_call 59; (with_reducible refine (mortmainref01_Reader_Int.calls k g s0_0 s0_1 s0_2 t203 t204 t205 t206 w0 _ ?side1 ?side2 A3.out).mono ?_); (case side1 => repeat (first | (with_reducible first | exact HI0.out | apply IsS55.alloc | apply IsS55.drewN | apply IsS55.drew | apply IsS55.set_0 | apply IsS55.set_1 | apply IsS55.set_2) | exact HI0.out)); (case side2 => repeat (first | (with_reducible first | exact HB.out | apply below_alloc | apply pw_below_drewN | apply below_drew1 | refine below_set ?_ (IsS55.ge HI0.out)) | exact HB.out)); rintro e w5 ⟨rfl, hi, hb, hk⟩; have n0_ := Aside0.mk (KeepBut.trans (by repeat (first | (with_reducible first | exact HK.out | apply KeepBut.set_ | apply keep_drewN | apply keep_drew | apply keep_alloc) | exact HK.out)) hk (.inl rfl)); have n1_ := Aside0.mk (hb); have n2_ := Aside0.mk (hi); clear HK; clear HB; clear HI0; have HK := n0_; have HB := n1_; have HI0 := n2_; clear n0_ n1_ n2_; (try clear hb); (try clear hb2); (try clear hk); (try clear hi)))
  repeat (go_quiet (first | (go_at_call 59; (with_reducible refine (mortmainref01_Reader_Int.calls k g s0_0 s0_1 s0_2 t203 t204 t205 t206 w0 _ ?side1 ?side2 A3.out).mono ?_); (case side1 => repeat (first | (with_reducible first | exact HI0.out | apply IsS55.alloc | apply IsS55.drewN | apply IsS55.drew | apply IsS55.set_0 | apply IsS55.set_1 | apply IsS55.set_2) | exact HI0.out)); (case side2 => repeat (first | (with_reducible first | exact HB.out | apply below_alloc | apply pw_below_drewN | apply below_drew1 | refine below_set ?_ (IsS55.ge HI0.out)) | exact HB.out)); rintro e w5 ⟨rfl, hi, hb, hk⟩; have n0_ := Aside0.mk (KeepBut.trans (by repeat (first | (with_reducible first | exact HK.out | apply KeepBut.set_ | apply keep_drewN | apply keep_drew | apply keep_alloc) | exact HK.out)) hk (.inl rfl)); have n1_ := Aside0.mk (hb); have n2_ := Aside0.mk (hi); clear HK; clear HB; clear HI0; have HK := n0_; have HB := n1_; have HI0 := n2_; clear n0_ n1_ n2_; (try clear hb); (try clear hb2); (try clear hk); (try clear hi))); go_upto_region 2 with (first | (go_at_call 59; (with_reducible refine (mortmainref01_Reader_Int.calls k g s0_0 s0_1 s0_2 t203 t204 t205 t206 w0 _ ?side1 ?side2 A3.out).mono ?_); (case side1 => repeat (first | (with_reducible first | exact HI0.out | apply IsS55.alloc | apply IsS55.drewN | apply IsS55.drew | apply IsS55.set_0 | apply IsS55.set_1 | apply IsS55.set_2) | exact HI0.out)); (case side2 => repeat (first | (with_reducible first | exact HB.out | apply below_alloc | apply pw_below_drewN | apply below_drew1 | refine below_set ?_ (IsS55.ge HI0.out)) | exact HB.out)); rintro e w5 ⟨rfl, hi, hb, hk⟩; have n0_ := Aside0.mk (KeepBut.trans (by repeat (first | (with_reducible first | exact HK.out | apply KeepBut.set_ | apply keep_drewN | apply keep_drew | apply keep_alloc) | exact HK.out)) hk (.inl rfl)); have n1_ := Aside0.mk (hb); have n2_ := Aside0.mk (hi); clear HK; clear HB; clear HI0; have HK := n0_; have HB := n1_; have HI0 := n2_; clear n0_ n1_ n2_; (try clear hb); (try clear hb2); (try clear hk); (try clear hi))))
  (try simp only [Act.put, List.setIfInBounds_toArray, List.set_cons_zero, List.set_cons_succ])
  go_cut [28] (fun v28 wc => ∃ (kq : Nat) (x28_3 : Bool), v28 = .bool x28_3 ∧ Aside0 (mortmainref01_Reader_Many.j0 kq t203 x28_3 t204 t205 t206 = some (r1, r2, r3, r4)) ∧ Aside0 (kq ≤ k) ∧ Aside0 (IsS55 w0 wc g t204 t205 t206) ∧ Aside0 (KeepBut w wc g none) ∧ Aside0 (Below w0.heap.size w0 wc))
  case first =>
    have H := HC4.out
    clear HC4
    by_cases c6 : t203 < 0
    · rw [if_pos c6] at H
      have c6b0 : decide (t203 < 0) = true := decide_eq_true c6
      clear c6
      (first | rw [c6b0] | (simp only [i64_w, i32_w]; rw [c6b0]) | skip)
      have H' := Aside0.mk H
      clear H
      go_wp2
      repeat (go_quiet (fail); try go_wp2)
      go_meet
      case rel => exact ⟨_, (true), (by first | rfl | (simp; done) | (simp [*]; done) | (generalize ByteArray.toList _ = l_; cases l_ <;> rfl)), H', ⟨by first | omega | exact Nat.le_refl _⟩, ⟨by repeat (first | (with_reducible first | exact HI0.out | apply IsS55.alloc | apply IsS55.drewN | apply IsS55.drew | apply IsS55.set_0 | apply IsS55.set_1 | apply IsS55.set_2) | exact HI0.out)⟩, ⟨by repeat (first | (with_reducible first | exact HK.out | apply KeepBut.set_ | apply keep_drewN | apply keep_drew | apply keep_alloc) | exact HK.out)⟩, ⟨by repeat (first | (with_reducible first | exact HB.out | apply below_alloc | apply pw_below_drewN | apply below_drew1 | refine below_set ?_ (IsS55.ge HI0.out)) | exact HB.out)⟩⟩
    · rw [if_neg c6] at H
      have c6b0 : decide (t203 < 0) = false := decide_eq_false c6
      clear c6
      (first | rw [c6b0] | (simp only [i64_w, i32_w]; rw [c6b0]) | skip)
      by_cases c7 : t203 > a1
      · rw [if_pos c7] at H
        have c7b0 : decide (a1 < t203) = true := decide_eq_true c7
        clear c7
        have H' := Aside0.mk H
        clear H
        go_wp2
        repeat (go_quiet (fail); try go_wp2)
        go_meet
        case rel => exact ⟨_, (true), (by first | rfl | (simp; done) | (simp [*]; done) | (generalize ByteArray.toList _ = l_; cases l_ <;> rfl)), H', ⟨by first | omega | exact Nat.le_refl _⟩, ⟨by repeat (first | (with_reducible first | exact HI0.out | apply IsS55.alloc | apply IsS55.drewN | apply IsS55.drew | apply IsS55.set_0 | apply IsS55.set_1 | apply IsS55.set_2) | exact HI0.out)⟩, ⟨by repeat (first | (with_reducible first | exact HK.out | apply KeepBut.set_ | apply keep_drewN | apply keep_drew | apply keep_alloc) | exact HK.out)⟩, ⟨by repeat (first | (with_reducible first | exact HB.out | apply below_alloc | apply pw_below_drewN | apply below_drew1 | refine below_set ?_ (IsS55.ge HI0.out)) | exact HB.out)⟩⟩
      · rw [if_neg c7] at H
        have c7b0 : decide (a1 < t203) = false := decide_eq_false c7
        clear c7
        have H' := Aside0.mk H
        clear H
        obtain ⟨HGz8, hgz8⟩ := HI0.out
        have hcz8_0 := cellS55_0 HGz8
        have hcz8_1 := cellS55_1 HGz8
        have hcz8_2 := cellS55_2 HGz8
        have hfz8_0 := blk_frozen HGz8 0
        have hfz8_1 := blk_frozen HGz8 1
        have hfz8_2 := blk_frozen HGz8 2
        clear HGz8 hgz8
        go_wp2
        repeat (go_quiet (fail); try go_wp2)
        go_meet
        case rel => exact ⟨_, (decide (t203 > (wrap64 ((t204.size : Int) - t205)))), (by first | rfl | (simp; done) | (simp [*]; done) | (generalize ByteArray.toList _ = l_; cases l_ <;> rfl)), H', ⟨by first | omega | exact Nat.le_refl _⟩, ⟨by repeat (first | (with_reducible first | exact HI0.out | apply IsS55.alloc | apply IsS55.drewN | apply IsS55.drew | apply IsS55.set_0 | apply IsS55.set_1 | apply IsS55.set_2) | exact HI0.out)⟩, ⟨by repeat (first | (with_reducible first | exact HK.out | apply KeepBut.set_ | apply keep_drewN | apply keep_drew | apply keep_alloc) | exact HK.out)⟩, ⟨by repeat (first | (with_reducible first | exact HB.out | apply below_alloc | apply pw_below_drewN | apply below_drew1 | refine below_set ?_ (IsS55.ge HI0.out)) | exact HB.out)⟩⟩
  case rest =>
    clear HC4
    try clear p2
    try clear c5
    try clear c6
    try clear c6b0
    try clear p6
    try clear c7
    try clear c7b0
    try clear hcz8_0
    try clear hcz8_1
    try clear hcz8_2
    try clear hfz8_0
    try clear hfz8_1
    try clear hfz8_2
    obtain ⟨kq, x28_3, rfl, HA, HJ3, HI0, HK, HB⟩ := hcut
    cases kq with
    | zero => exact absurd HA.out (by simp [mortmainref01_Reader_Many.j0])
    | succ kj3 =>
      have H := HA.out
      clear HA
      simp only [mortmainref01_Reader_Many.j0] at H
      by_cases c9 : x28_3 = true
      · subst c9
        have H1 : (some (0, t204, t205, true)) = some (r1, r2, r3, r4) := by rw [if_pos rfl] at H; exact H
        clear H
        have H := H1
        clear H1
        simp only [Option.some.injEq, Prod.mk.injEq] at H
        obtain ⟨rfl, rfl, rfl, rfl⟩ := H
        obtain ⟨HGz10, hgz10⟩ := HI0.out
        have hcz10_0 := cellS55_0 HGz10
        have hcz10_1 := cellS55_1 HGz10
        have hcz10_2 := cellS55_2 HGz10
        have hfz10_0 := blk_frozen HGz10 0
        have hfz10_1 := blk_frozen HGz10 1
        have hfz10_2 := blk_frozen HGz10 2
        clear HGz10 hgz10
        go_wp2
        repeat (go_quiet (fail); try go_wp2)
        go_ret
        exact ⟨by first | rfl | (simp [errW_none, errW_some] <;> rfl) | (simp [*, errW_none, errW_some] <;> rfl), by repeat (first | (with_reducible first | exact HI0.out | apply IsS55.alloc | apply IsS55.drewN | apply IsS55.drew | apply IsS55.set_0 | apply IsS55.set_1 | apply IsS55.set_2) | exact HI0.out), by repeat (first | (with_reducible first | exact HB.out | apply below_alloc | apply pw_below_drewN | apply below_drew1 | refine below_set ?_ (IsS55.ge HI0.out)) | exact HB.out), by repeat (first | (with_reducible first | exact HK.out | apply KeepBut.set_ | apply keep_drewN | apply keep_drew | apply keep_alloc) | exact HK.out)⟩
      · replace c9 := Bool.eq_false_iff.mpr c9
        subst c9
        have H1 : (some (t203, t204, t205, t206)) = some (r1, r2, r3, r4) := by rw [if_neg (show ¬ (false = true) by decide)] at H; exact H
        clear H
        have H := H1
        clear H1
        simp only [Option.some.injEq, Prod.mk.injEq] at H
        obtain ⟨rfl, rfl, rfl, rfl⟩ := H
        go_wp2
        repeat (go_quiet (fail); try go_wp2)
        go_ret
        exact ⟨by first | rfl | (simp [errW_none, errW_some] <;> rfl) | (simp [*, errW_none, errW_some] <;> rfl), by repeat (first | (with_reducible first | exact HI0.out | apply IsS55.alloc | apply IsS55.drewN | apply IsS55.drew | apply IsS55.set_0 | apply IsS55.set_1 | apply IsS55.set_2) | exact HI0.out), by repeat (first | (with_reducible first | exact HB.out | apply below_alloc | apply pw_below_drewN | apply below_drew1 | refine below_set ?_ (IsS55.ge HI0.out)) | exact HB.out), by repeat (first | (with_reducible first | exact HK.out | apply KeepBut.set_ | apply keep_drewN | apply keep_drew | apply keep_alloc) | exact HK.out)⟩

end Go.Proofs.YtmaciepkkianhabGreatDoor.QRows

namespace Go.Proofs.YtmaciepkkianhabGreatDoor.QRows
open Go.Proofs.YtmaciepkkianhabGreatDoor.H
attribute [local go_sem] ite_signed_u64 ite_signed_u32
open Go.RowKit Go.Proofs.YtmaciepkkianhabGreatDoorW.PrintWords Go.Proofs.YtmaciepkkianhabGreatDoorW.PrintLast Go.Proofs.YtmaciepkkianhabGreatDoorW.PrintMore
attribute [local go_sem] max2_int min2_int max_two min_two max_three min_three max_four min_four   -- for this text's walks alone
set_option linter.unusedVariables false
set_option linter.unusedSimpArgs false

attribute [local go_sem high] eqA23
/-! ### mortmainref03_Read: function 19 -/
mutual
def mortmainref03_Read.l0 : Nat → ByteArray → Int → List (S23) → Int → ByteArray → Int → Bool → Option ((List (S23)) × Bool)
  | 0, _, _, _, _, _, _, _ => none
  | k + 1, x0, x5, x6, x7, x208000, x208001, x208002 => if x7 < x5 then ((mortmainref03_Take.f k x208000 x208001 x208002).bind fun bt212 => (if x6.length < 4398046511104 then (mortmainref03_Read.l0 k x0 x5 (x6 ++ [(⟨bt212.1, bt212.2.1, bt212.2.2.1⟩ : S23)]) (wrap64 (x7 + 1)) bt212.2.2.2.1 bt212.2.2.2.2.1 bt212.2.2.2.2.2) else (none))) else (if x208002 = true then (mortmainref03_Read.j1 k x6 true) else (mortmainref03_Read.j1 k x6 (x208001 != (x0.size : Int))))
def mortmainref03_Read.j1 : Nat → List (S23) → Bool → Option ((List (S23)) × Bool)
  | 0, _, _ => none
  | k + 1, x6, x35 => if x35 = true then (some (([] : List (S23)), false)) else (some (x6, true))
end
def mortmainref03_Read.f (k : Nat) (a0 : ByteArray) : Option ((List (S23)) × Bool) := (mortmainref01_Reader_Many.f k a0 0 false 6).bind fun bt208 => (mortmainref03_Read.l0 k a0 bt208.1 ([] : List (S23)) 0 bt208.2.1 bt208.2.2.1 bt208.2.2.2)
set_option maxHeartbeats 8000000 in
set_option maxRecDepth 100000 in
theorem mortmainref03_Read.calls (k : Nat) (a0 : ByteArray) (r1 : List (S23)) (r2 : Bool) (w : World) (h : mortmainref03_Read.f k a0 = some (r1, r2)) :
    Calls Tryz.prog 19 #[.string a0] w fun e w' => ∃ v0_ : Value, e = .returned (.tuple #[v0_, .bool r2]) ∧ Kd.R k23 23 w' w.heap.size (fun _ => True) v0_ r1 ∧ Below w.heap.size w w' := by
  have hu55 := Tryz.underlying55
  have HB := Aside0.mk (Below.refl w.heap.size w)
  have H : ((mortmainref01_Reader_Many.f k a0 0 false 6).bind fun bt208 => (mortmainref03_Read.l0 k a0 bt208.1 ([] : List (S23)) 0 bt208.2.1 bt208.2.2.1 bt208.2.2.2)) = some (r1, r2) := h
  clear h
  replace H := Option.bind_eq_some_iff.mp H
  obtain ⟨⟨t208, t209, t210, t211⟩, A20, H⟩ := H
  replace H : (mortmainref03_Read.l0 k a0 t208 ([] : List (S23)) 0 t209 t210 t211) = some (r1, r2) := H
  have A2 := Aside0.mk A20
  clear A20
  have H' := Aside0.mk H
  clear H
  go_enter Tryz.func19, Tryz.ntmps19
  go_wp2_with (first | ((with_reducible refine gate_dst (N := 10) rfl ?_); (try (refine gate_guard (by rfl) ?_; dsimp only)); refine box_event ?hg (N := 10) ?hd (cs := #[.string a0, .int .i64 0, .bool false]) (t := 55) ?hr ?_; (case hd => rfl); (case hg => rfl); (case hr => first | (go_simp; done) | (go_simp; rfl)); intro gb207 hg w3 hbox hb; have n0_ := Aside0.mk (below_step (by repeat (first | (with_reducible first | exact HB.out | apply below_alloc | apply pw_below_drewN | apply below_drew1) | exact HB.out)) hb); have n1_ := Aside0.mk (hbox); have n2_ := Aside0.mk ((by rw [hg]; exact (below_size (by repeat (first | (with_reducible first | exact HB.out | apply below_alloc | apply pw_below_drewN | apply below_drew1) | exact HB.out))) : w.heap.size ≤ gb207)); have n3_ := Aside0.mk ((by rw [hg]; exact (below_size (by repeat (first | (with_reducible first | exact HB.out | apply below_alloc | apply pw_below_drewN | apply below_drew1) | exact HB.out))) : w.heap.size ≤ gb207)); clear HB; have HB := n0_; have BK207 := n1_; have GW207 := n2_; have GE207 := n3_; clear n0_ n1_ n2_ n3_; clear hb hbox hg; have HI207 := Aside0.mk (show IsS55 w w3 gb207 a0 0 false from ⟨BK207.out, GE207.out⟩); clear BK207) | ((with_reducible refine gate_callee (f := 54) rfl ?_); refine goesL_ (some 12) rfl rfl Tryz.func54 (by kernel_rfl) rfl #[.pointer (some ⟨gb207, 0, none⟩), .int .i64 6] rfl (by (try simp only [List.map_toArray, List.map_cons, List.map_nil]); first | done | rfl | (simp only [List.length_drop, List.length_take]; rfl)) ?_; (with_reducible refine (mortmainref01_Reader_Many.calls k gb207 a0 0 false 6 t208 t209 t210 t211 w _ ?side1 ?side2 A2.out).mono ?_); (case side1 => repeat (first | (with_reducible first | exact HI207.out | apply IsS55.alloc | apply IsS55.drewN | apply IsS55.drew | apply IsS55.set_0 | apply IsS55.set_1 | apply IsS55.set_2) | exact HI207.out)); (case side2 => repeat (first | (with_reducible first | exact HB.out | apply below_alloc | apply pw_below_drewN | apply below_drew1 | refine below_set ?_ (IsS55.ge HI207.out)) | exact HB.out)); rintro e w4 ⟨rfl, hi, hb, hk⟩; refine ⟨_, rfl, ?_⟩; have n0_ := Aside0.mk (hb); have n1_ := Aside0.mk (hi); clear HB; clear HI207; have HB := n0_; have HI207 := n1_; clear n0_ n1_; (try clear hb); (try clear hb2); (try clear hk); (try clear hi)))
  go_loopg [6, 7] k (fun kq v6 v7 w' => ∃ (x6_1 : List (S23)) (x7_1 : Int) (x208000_1 : ByteArray) (x208001_1 : Int) (x208002_1 : Bool), v7 = .int .i64 x7_1 ∧ Aside0 (mortmainref03_Read.l0 kq a0 t208 x6_1 x7_1 x208000_1 x208001_1 x208002_1 = some (r1, r2)) ∧ Aside0 (kq ≤ k) ∧ Aside0 (Kd.R k23 23 w' w.heap.size (fun _ => True) v6 x6_1) ∧ Aside0 (IsS55 w w' gb207 x208000_1 x208001_1 x208002_1) ∧ Aside0 (Below w.heap.size w w'))
  case atStart => exact ⟨(([] : List (S23))), (0), (t209), (t210), (t211), (by first | rfl | (simp; done) | (simp [*]; done) | (generalize ByteArray.toList _ = l_; cases l_ <;> rfl)), H', ⟨Nat.le_refl _⟩, ⟨by first | exact Kd.R_nil _ _ _ _ _ | exact Kd.N_nil _ _ _ _ _ | exact Kd.V_nil _ _ _ _ _ | exact Kd.Q_nil _ _ _ _ _ | exact Kd.S_nil _ _ _ _ _⟩, ⟨by repeat (first | (with_reducible first | exact HI207.out | apply IsS55.alloc | apply IsS55.drewN | apply IsS55.drew | apply IsS55.set_0 | apply IsS55.set_1 | apply IsS55.set_2) | exact HI207.out)⟩, ⟨by repeat (first | (with_reducible first | exact HB.out | apply below_alloc | apply pw_below_drewN | apply below_drew1 | refine below_set ?_ (IsS55.ge HI207.out)) | exact HB.out)⟩⟩
  case round =>
    clear H'
    try clear c1
    try clear p2
    obtain ⟨x6_1, x7_1, x208000_1, x208001_1, x208002_1, rfl, HA, HK1, HO_6, HI207, HB⟩ := hrel
    cases gk with
    | zero => exact absurd HA.out (by simp [mortmainref03_Read.l0])
    | succ k1 =>
      have H := HA.out
      clear HA
      simp only [mortmainref03_Read.l0] at H
      by_cases c5 : x7_1 < t208
      · rw [if_pos c5] at H
        have c5b0 : decide (x7_1 < t208) = true := decide_eq_true c5
        clear c5
        replace H := Option.bind_eq_some_iff.mp H
        obtain ⟨⟨t212, t213, t214, t215, t216, t217⟩, A60, H⟩ := H
        replace H : (if x6_1.length < 4398046511104 then (mortmainref03_Read.l0 k1 a0 t208 (x6_1 ++ [(⟨t212, t213, t214⟩ : S23)]) (wrap64 (x7_1 + 1)) t215 t216 t217) else (none)) = some (r1, r2) := H
        have A6 := Aside0.mk A60
        clear A60
        by_cases c7 : x6_1.length < 4398046511104
        · rw [if_pos c7] at H
          have LMc7 := Aside0.mk c7
          clear c7
          obtain ⟨y218, hy218⟩ : ∃ y_ : List (S23), y_ = (x6_1 ++ [(⟨t212, t213, t214⟩ : S23)]) := ⟨_, rfl⟩
          replace H : (mortmainref03_Read.l0 k1 a0 t208 y218 (wrap64 (x7_1 + 1)) t215 t216 t217) = some (r1, r2) := by first | (rw [hy218]; with_reducible exact H) | (have H2_ := (Option.bind_some _ _).symm.trans H; rw [hy218]; with_reducible exact H2_) | (have H2_ := (Option.bind_some _ _).symm.trans H; with_reducible exact H2_) | with_reducible exact H | (rw [hy218]; exact H) | exact H
          have Ny218 := Aside0.mk hy218
          clear hy218
          have H' := Aside0.mk H
          clear H
          go_wp2_with (first | ((with_reducible refine gate_callee (f := 25) rfl ?_); refine goesL_ (some 20) rfl rfl Tryz.func25 (by kernel_rfl) rfl #[.pointer (some ⟨gb207, 0, none⟩)] rfl (by (try simp only [List.map_toArray, List.map_cons, List.map_nil]); first | done | rfl | (simp only [List.length_drop, List.length_take]; rfl)) ?_; (with_reducible refine (mortmainref03_Take.calls k1 gb207 x208000_1 x208001_1 x208002_1 t212 t213 t214 t215 t216 t217 w _ ?side1 ?side2 A6.out).mono ?_); (case side1 => repeat (first | (with_reducible first | exact HI207.out | apply IsS55.alloc | apply IsS55.drewN | apply IsS55.drew | apply IsS55.set_0 | apply IsS55.set_1 | apply IsS55.set_2) | exact HI207.out)); (case side2 => repeat (first | (with_reducible first | exact HB.out | apply below_alloc | apply pw_below_drewN | apply below_drew1 | refine below_set ?_ (IsS55.ge HI207.out)) | exact HB.out)); rintro e w8 ⟨rfl, hi, hb, hk⟩; refine ⟨_, rfl, ?_⟩; have n0_ := Aside0.mk (Kd.R_mono (Kd.R_keep (IsS55.apart (show IsS55 w _ gb207 x208000_1 x208001_1 x208002_1 from by repeat (first | (with_reducible first | exact HI207.out | apply IsS55.alloc | apply IsS55.drewN | apply IsS55.drew | apply IsS55.set_0 | apply IsS55.set_1 | apply IsS55.set_2) | exact HI207.out)) (by (with_reducible repeat (first | apply Kd.R_alloc | apply Kd.R_drewN | apply Kd.R_drew)); exact HO_6.out) (by decide)) hk (fun _ h => h.2)) (fun _ h => h.1)); have n1_ := Aside0.mk (hb); have n2_ := Aside0.mk (hi); clear HO_6; clear HB; clear HI207; have HO_6 := n0_; have HB := n1_; have HI207 := n2_; clear n0_ n1_ n2_; (try clear hb); (try clear hb2); (try clear hk); (try clear hi)) | ((with_reducible refine gate_builtin (b := .append) (xs := #[.tmp 18, .tmp 21]) rfl ?_); (try (refine gate_guard (by rfl) ?_; dsimp only)); at_builtin; refine Kd.R_append k23 (w0 := w) w.heap.size rfl (.tmp 18) (.tmp 21) 34 23 (.agg #[(.int .i64 0), (.int .i64 0), (.string ⟨#[]⟩)]) 32 rfl Tryz.underlying34 info23 rfl (by decide) (by omega) u6 x6_1 (⟨t212, t213, t214⟩ : S23) [.int .i64 t212, .int .i64 t213, .string t214] (fun _ => True) (fun _ => False) rfl rfl ?aP (fun _ hk => hk.elim) ?aF ?aO ?aB ?aS ?aL ?_; (case aP => exact k23_mkM _ _ _ (⟨t212, t213, t214⟩ : S23)); (case aB => exact (by repeat (first | (with_reducible first | exact HB.out | apply below_alloc | apply pw_below_drewN | apply below_drew1 | refine below_set ?_ (IsS55.ge HI207.out)) | exact HB.out))); (case aF => exact (fun _ _ => trivial)); (case aO => exact (by (with_reducible repeat (first | apply Kd.R_alloc | apply Kd.R_drewN | apply Kd.R_drew)); exact HO_6.out)); (case aS => exact (below_size (by repeat (first | (with_reducible first | exact HB.out | apply below_alloc | apply pw_below_drewN | apply below_drew1 | refine below_set ?_ (IsS55.ge HI207.out)) | exact HB.out)))); (case aL => have := LMc7.out; omega); intro v219 w9 ho hb hg hat; rw [← Ny218.out] at ho; have n0_ := Aside0.mk (IsS55.grown (by repeat (first | (with_reducible first | exact HI207.out | apply IsS55.alloc | apply IsS55.drewN | apply IsS55.drew | apply IsS55.set_0 | apply IsS55.set_1 | apply IsS55.set_2) | exact HI207.out)) hg (IsS55.own_ne HI207.out HO_6.out (by decide))); have n1_ := Aside0.mk (hb); have n2_ := Aside0.mk (ho); clear HI207; clear HB; clear HO_6; have HI207 := n0_; have HB := n1_; have HO220 := n2_; clear n0_ n1_ n2_; clear ho hb hg hat))
          go_roundg k1
          case measure => have := HK1.out; omega
          case rel => exact ⟨(y218), (wrap64 (x7_1 + 1)), (t215), (t216), (t217), (by first | rfl | (simp; done) | (simp [*]; done) | (generalize ByteArray.toList _ = l_; cases l_ <;> rfl)), H', ⟨by have := HK1.out; omega⟩, ⟨by (with_reducible repeat (first | apply Kd.R_alloc | apply Kd.R_drewN | apply Kd.R_drew)); exact HO220.out⟩, ⟨by repeat (first | (with_reducible first | exact HI207.out | apply IsS55.alloc | apply IsS55.drewN | apply IsS55.drew | apply IsS55.set_0 | apply IsS55.set_1 | apply IsS55.set_2) | exact HI207.out)⟩, ⟨by repeat (first | (with_reducible first | exact HB.out | apply below_alloc | apply pw_below_drewN | apply below_drew1 | refine below_set ?_ (IsS55.ge HI207.out)) | exact HB.out)⟩⟩
        · rw [if_neg c7] at H
          exact absurd H (by simp)
      · rw [if_neg c5] at H
        have c5b0 : decide (x7_1 < t208) = false := decide_eq_false c5
        clear c5
        have HC10 := Aside0.mk H
        clear H
        go_upto_region 8 with (fail)
        go_cut [35] (fun v35 wc => ∃ (kq : Nat) (x35_9 : Bool), v35 = .bool x35_9 ∧ Aside0 (mortmainref03_Read.j1 kq x6_1 x35_9 = some (r1, r2)) ∧ Aside0 (kq ≤ k1) ∧ Aside0 (Kd.R k23 23 wc w.heap.size (fun _ => True) u6 x6_1) ∧ Aside0 (Below w.heap.size w wc))
        case first =>
          have H := HC10.out
          clear HC10
          by_cases c11 : x208002_1 = true
          · subst c11
            have H1 : (mortmainref03_Read.j1 k1 x6_1 true) = some (r1, r2) := by rw [if_pos rfl] at H; exact H
            clear H
            have H := H1
            clear H1
            have H' := Aside0.mk H
            clear H
            obtain ⟨HGz12, hgz12⟩ := HI207.out
            have hcz12_0 := cellS55_0 HGz12
            have hcz12_1 := cellS55_1 HGz12
            have hcz12_2 := cellS55_2 HGz12
            have hfz12_0 := blk_frozen HGz12 0
            have hfz12_1 := blk_frozen HGz12 1
            have hfz12_2 := blk_frozen HGz12 2
            clear HGz12 hgz12
            go_wp2
            go_meet
            case rel => exact ⟨_, (true), (by first | rfl | (simp; done) | (simp [*]; done) | (generalize ByteArray.toList _ = l_; cases l_ <;> rfl)), H', ⟨by have := HK1.out; first | omega | exact Nat.le_refl _⟩, ⟨by (with_reducible repeat (first | apply Kd.R_alloc | apply Kd.R_drewN | apply Kd.R_drew)); exact HO_6.out⟩, ⟨by repeat (first | (with_reducible first | exact HB.out | apply below_alloc | apply pw_below_drewN | apply below_drew1 | refine below_set ?_ (IsS55.ge HI207.out)) | exact HB.out)⟩⟩
          · replace c11 := Bool.eq_false_iff.mpr c11
            subst c11
            have H1 : (mortmainref03_Read.j1 k1 x6_1 (x208001_1 != (a0.size : Int))) = some (r1, r2) := by rw [if_neg (show ¬ (false = true) by decide)] at H; exact H
            clear H
            have H := H1
            clear H1
            have H' := Aside0.mk H
            clear H
            obtain ⟨HGz13, hgz13⟩ := HI207.out
            have hcz13_0 := cellS55_0 HGz13
            have hcz13_1 := cellS55_1 HGz13
            have hcz13_2 := cellS55_2 HGz13
            have hfz13_0 := blk_frozen HGz13 0
            have hfz13_1 := blk_frozen HGz13 1
            have hfz13_2 := blk_frozen HGz13 2
            clear HGz13 hgz13
            go_wp2
            go_meet
            case rel => exact ⟨_, ((x208001_1 != (a0.size : Int))), (by first | rfl | (simp; done) | (simp [*]; done) | (generalize ByteArray.toList _ = l_; cases l_ <;> rfl)), H', ⟨by have := HK1.out; first | omega | exact Nat.le_refl _⟩, ⟨by (with_reducible repeat (first | apply Kd.R_alloc | apply Kd.R_drewN | apply Kd.R_drew)); exact HO_6.out⟩, ⟨by repeat (first | (with_reducible first | exact HB.out | apply below_alloc | apply pw_below_drewN | apply below_drew1 | refine below_set ?_ (IsS55.ge HI207.out)) | exact HB.out)⟩⟩
        case rest =>
          clear HC10
          try clear c1
          try clear c2
          try clear p2
          try clear c5
          try clear c5b0
          try clear p6
          try clear c7
          try clear c11
          try clear hcz12_0
          try clear hcz12_1
          try clear hcz12_2
          try clear hcz13_0
          try clear hcz13_1
          try clear hcz13_2
          try clear hfz12_0
          try clear hfz12_1
          try clear hfz12_2
          try clear hfz13_0
          try clear hfz13_1
          try clear hfz13_2
          try clear p2
          obtain ⟨kq, x35_9, rfl, HA, HJ9, HO_6, HB⟩ := hcut
          cases kq with
          | zero => exact absurd HA.out (by simp [mortmainref03_Read.j1])
          | succ kj9 =>
            have H := HA.out
            clear HA
            simp only [mortmainref03_Read.j1] at H
            by_cases c14 : x35_9 = true
            · subst c14
              have H1 : (some (([] : List (S23)), false)) = some (r1, r2) := by rw [if_pos rfl] at H; exact H
              clear H
              have H := H1
              clear H1
              simp only [Option.some.injEq, Prod.mk.injEq] at H
              obtain ⟨rfl, rfl⟩ := H
              go_wp2
              go_ret2
              exact ⟨_, by first | rfl | (simp [errW_none, errW_some] <;> rfl) | (simp [*, errW_none, errW_some] <;> rfl), by first | exact Kd.R_nil _ _ _ _ _ | exact Kd.N_nil _ _ _ _ _ | exact Kd.V_nil _ _ _ _ _ | exact Kd.Q_nil _ _ _ _ _ | exact Kd.S_nil _ _ _ _ _, by repeat (first | (with_reducible first | exact HB.out | apply below_alloc | apply pw_below_drewN | apply below_drew1) | exact HB.out)⟩
            · replace c14 := Bool.eq_false_iff.mpr c14
              subst c14
              have H1 : (some (x6_1, true)) = some (r1, r2) := by rw [if_neg (show ¬ (false = true) by decide)] at H; exact H
              clear H
              have H := H1
              clear H1
              simp only [Option.some.injEq, Prod.mk.injEq] at H
              obtain ⟨rfl, rfl⟩ := H
              go_wp2
              go_ret2
              exact ⟨_, by first | rfl | (simp [errW_none, errW_some] <;> rfl) | (simp [*, errW_none, errW_some] <;> rfl), by (with_reducible repeat (first | apply Kd.R_alloc | apply Kd.R_drewN | apply Kd.R_drew)); exact HO_6.out, by repeat (first | (with_reducible first | exact HB.out | apply below_alloc | apply pw_below_drewN | apply below_drew1) | exact HB.out)⟩

/-! ### mortmainref03_Same: function 20 -/
def mortmainref03_Same.l0 : Nat → List (S23) → List (S23) → Int → Int → Option (Bool)
  | 0, _, _, _, _ => none
  | k + 1, x0, x1, x12, x13 => if x13 < x12 then (if 0 ≤ x13 then (if x13 < (x0.length : Int) then (if x13 < (x1.length : Int) then (if (!(((rd_T23 x0 x13).f0) == ((rd_T23 x1 x13).f0)) || (!(((rd_T23 x0 x13).f1) == ((rd_T23 x1 x13).f1)) || (!((((rd_T23 x0 x13).f2).toList) == (((rd_T23 x1 x13).f2).toList))))) = true then (some false) else (mortmainref03_Same.l0 k x0 x1 x12 (wrap64 (x13 + 1)))) else (none)) else (none)) else (none)) else (some true)
def mortmainref03_Same.f (k : Nat) (l0 : List (S23)) (l1 : List (S23)) : Option (Bool) := if (l0.length : Int) = (l1.length : Int) then (mortmainref03_Same.l0 k l0 l1 (l0.length : Int) 0) else (some false)
set_option maxHeartbeats 8000000 in
set_option maxRecDepth 100000 in
theorem mortmainref03_Same.calls (k : Nat) (A0 : Option Addr) (c0 : Nat) (l0 : List (S23)) (A1 : Option Addr) (c1 : Nat) (l1 : List (S23)) (r : Bool) (w : World) (hr0 : Kd.C k23 w A0 l0.length l0) (hc0 : l0.length ≤ c0) (hr1 : Kd.C k23 w A1 l1.length l1) (hc1 : l1.length ≤ c1) (h : mortmainref03_Same.f k l0 l1 = some r) :
    Calls Tryz.prog 20 #[.slice A0 l0.length c0, .slice A1 l1.length c1] w fun e w' => e = .returned (.bool r) ∧ Drawn0 w w' := by
  have hu23 := Tryz.underlying23
  have HR0 := Aside0.mk hr0
  have HC0 := Aside0.mk hc0
  clear hr0 hc0
  have HR1 := Aside0.mk hr1
  have HC1 := Aside0.mk hc1
  clear hr1 hc1
  have H : (if (l0.length : Int) = (l1.length : Int) then (mortmainref03_Same.l0 k l0 l1 (l0.length : Int) 0) else (some false)) = some r := h
  clear h
  by_cases c3 : (l0.length : Int) = (l1.length : Int)
  · rw [if_pos c3] at H
    have c3b0 : ((l0.length : Int) == (l1.length : Int)) = true := beq_iff_eq.mpr c3
    (try (have c3bz := c3b0; simp only [beq_true, beq_false, Bool.not_eq_true', Bool.not_eq_false'] at c3bz))
    have c3b1 : ((l0.length : Int) != (l1.length : Int)) = false := bne_eq_false_iff_eq.mpr c3
    have c3b2 : (l0.length == l1.length) = true := by first | simpa using c3 | (simp at c3 ⊢; omega)
    clear c3
    have H' := Aside0.mk H
    clear H
    go_enter Tryz.func20, Tryz.ntmps20
    go_wp2
    repeat (go_quiet (fail); try go_wp2)
    go_loopg [13] k (fun kq v13 w' => ∃ (x13_1 : Int), v13 = .int .i64 x13_1 ∧ Aside0 (mortmainref03_Same.l0 kq l0 l1 (l0.length : Int) x13_1 = some r) ∧ Aside0 (kq ≤ k) ∧ Drawn0 w w')
    case atStart => exact ⟨(0), (by first | rfl | (simp; done) | (simp [*]; done) | (generalize ByteArray.toList _ = l_; cases l_ <;> rfl)), H', ⟨Nat.le_refl _⟩, by repeat (first | exact Drawn0.refl _ | apply Drawn0.step)⟩
    case round =>
      clear H'
      try clear c1
      try clear c2
      try clear p2
      try clear c3
      try clear c3b0
      try clear c3b1
      try clear c3b2
      obtain ⟨x13_1, rfl, HA, HK1, ⟨m1, rfl⟩⟩ := hrel
      cases gk with
      | zero => exact absurd HA.out (by simp [mortmainref03_Same.l0])
      | succ k1 =>
        have H := HA.out
        clear HA
        simp only [mortmainref03_Same.l0] at H
        by_cases c4 : x13_1 < (l0.length : Int)
        · rw [if_pos c4] at H
          have c4b0 : decide (x13_1 < (l0.length : Int)) = true := decide_eq_true c4
          clear c4
          by_cases c5 : 0 ≤ x13_1
          · rw [if_pos c5] at H
            have c5b0 : decide (0 ≤ x13_1) = true := decide_eq_true c5
            clear c5
            by_cases c6 : x13_1 < (l0.length : Int)
            · rw [if_pos c6] at H
              have c6b0 : decide (x13_1 < (l0.length : Int)) = true := decide_eq_true c6
              clear c6
              by_cases c7 : x13_1 < (l1.length : Int)
              · rw [if_pos c7] at H
                have c7b0 : decide (x13_1 < (l1.length : Int)) = true := decide_eq_true c7
                clear c7
                by_cases c8 : (!(((rd_T23 l0 x13_1).f0) == ((rd_T23 l1 x13_1).f0)) || (!(((rd_T23 l0 x13_1).f1) == ((rd_T23 l1 x13_1).f1)) || (!((((rd_T23 l0 x13_1).f2).toList) == (((rd_T23 l1 x13_1).f2).toList))))) = true
                · rw [if_pos c8] at H
                  have c8b0 : (!(((rd_T23 l0 x13_1).f0) == ((rd_T23 l1 x13_1).f0)) || (!(((rd_T23 l0 x13_1).f1) == ((rd_T23 l1 x13_1).f1)) || (!((((rd_T23 l0 x13_1).f2).toList) == (((rd_T23 l1 x13_1).f2).toList))))) = true := c8
                  clear c8
                  obtain rfl := Option.some.inj H
                  have p221 : 0 ≤ (x13_1 : Int) := of_decide_eq_true (by first | (with_reducible assumption) | assumption)
                  have q221 : x13_1 < (l0.length : Int) := of_decide_eq_true (by first | (with_reducible assumption) | assumption)
                  obtain ⟨ad221, e221, hx221_0, hx221_1, hx221_2⟩ := at_T23 HR0.out x13_1 p221 q221
                  cases e221
                  replace p221 := eq_true p221
                  replace q221 := eq_true q221
                  have p222 : 0 ≤ (x13_1 : Int) := of_decide_eq_true (by first | (with_reducible assumption) | assumption)
                  have q222 : x13_1 < (l1.length : Int) := of_decide_eq_true (by first | (with_reducible assumption) | assumption)
                  obtain ⟨ad222, e222, hx222_0, hx222_1, hx222_2⟩ := at_T23 HR1.out x13_1 p222 q222
                  cases e222
                  replace p222 := eq_true p222
                  replace q222 := eq_true q222
                  go_wp2
                  repeat (go_quiet (fail); try go_wp2)
                  go_ret
                  exact ⟨by first | rfl | (simp; done) | (simp [*]; done) | (generalize ByteArray.toList _ = l_; cases l_ <;> rfl), by repeat (first | exact Drawn0.refl _ | apply Drawn0.step)⟩
                · rw [if_neg c8] at H
                  have c8b0 : (!(((rd_T23 l0 x13_1).f0) == ((rd_T23 l1 x13_1).f0)) || (!(((rd_T23 l0 x13_1).f1) == ((rd_T23 l1 x13_1).f1)) || (!((((rd_T23 l0 x13_1).f2).toList) == (((rd_T23 l1 x13_1).f2).toList))))) = false := by simpa using c8
                  clear c8
                  have H' := Aside0.mk H
                  clear H
                  have p221 : 0 ≤ (x13_1 : Int) := of_decide_eq_true (by first | (with_reducible assumption) | assumption)
                  have q221 : x13_1 < (l0.length : Int) := of_decide_eq_true (by first | (with_reducible assumption) | assumption)
                  obtain ⟨ad221, e221, hx221_0, hx221_1, hx221_2⟩ := at_T23 HR0.out x13_1 p221 q221
                  cases e221
                  replace p221 := eq_true p221
                  replace q221 := eq_true q221
                  have p222 : 0 ≤ (x13_1 : Int) := of_decide_eq_true (by first | (with_reducible assumption) | assumption)
                  have q222 : x13_1 < (l1.length : Int) := of_decide_eq_true (by first | (with_reducible assumption) | assumption)
                  obtain ⟨ad222, e222, hx222_0, hx222_1, hx222_2⟩ := at_T23 HR1.out x13_1 p222 q222
                  cases e222
                  replace p222 := eq_true p222
                  replace q222 := eq_true q222
                  go_wp2
                  repeat (go_quiet (fail); try go_wp2)
                  go_roundg k1
                  case measure => have := HK1.out; omega
                  case rel => exact ⟨(wrap64 (x13_1 + 1)), (by first | rfl | (simp; done) | (simp [*]; done) | (generalize ByteArray.toList _ = l_; cases l_ <;> rfl)), H', ⟨by have := HK1.out; omega⟩, by repeat (first | exact Drawn0.refl _ | apply Drawn0.step)⟩
              · rw [if_neg c7] at H
                exact absurd H (by simp)
            · rw [if_neg c6] at H
              exact absurd H (by simp)
          · rw [if_neg c5] at H
            exact absurd H (by simp)
        · rw [if_neg c4] at H
          have c4b0 : decide (x13_1 < (l0.length : Int)) = false := decide_eq_false c4
          clear c4
          obtain rfl := Option.some.inj H
          go_wp2
          repeat (go_quiet (fail); try go_wp2)
          go_ret
          exact ⟨by first | rfl | (simp; done) | (simp [*]; done) | (generalize ByteArray.toList _ = l_; cases l_ <;> rfl), by repeat (first | exact Drawn0.refl _ | apply Drawn0.step)⟩
  · rw [if_neg c3] at H
    have c3b0 : ((l0.length : Int) == (l1.length : Int)) = false := beq_eq_false_iff_ne.mpr c3
    (try (have c3bz := c3b0; simp only [beq_true, beq_false, Bool.not_eq_true', Bool.not_eq_false'] at c3bz))
    have c3b1 : ((l0.length : Int) != (l1.length : Int)) = true := bne_iff_ne.mpr c3
    have c3b2 : (l0.length == l1.length) = false := by first | simpa using c3 | (simp at c3 ⊢; omega)
    obtain rfl := Option.some.inj H
    go_enter Tryz.func20, Tryz.ntmps20
    go_wp2
    repeat (go_quiet (fail); try go_wp2)
    go_ret
    exact ⟨by first | rfl | (simp; done) | (simp [*]; done) | (generalize ByteArray.toList _ = l_; cases l_ <;> rfl), by repeat (first | exact Drawn0.refl _ | apply Drawn0.step)⟩

end Go.Proofs.YtmaciepkkianhabGreatDoor.QRows

set_option linter.unusedSimpArgs false
namespace Go.Proofs.YtmaciepkkianhabGreatDoor.M
open Go.RowKit Go.Proofs.YtmaciepkkianhabGreatDoor.H Go.Proofs.YtmaciepkkianhabGreatDoor.QRows Go.Proofs.YtmaciepkkianhabGreatDoorW.PrintWords Go.Proofs.YtmaciepkkianhabGreatDoorW.PrintMore

theorem aInt_bad {o : Option (List UInt8)} (h : (aInt o).2 = none) : (aInt o).1 = 0 := by
  cases o with
  | none => rfl
  | some l =>
    cases hr : rdF 0 0 l with
    | none => rw [aInt_none hr]
    | some p => obtain ⟨v, q⟩ := p; rw [aInt_some hr] at h; cases h
theorem aInt_I (o : Option (List UInt8)) : -9223372036854775808 ≤ (aInt o).1 ∧ (aInt o).1 ≤ 9223372036854775807 := by
  cases o with
  | none => exact ⟨by decide, by decide⟩
  | some l =>
    cases hr : rdF 0 0 l with
    | none => rw [aInt_none hr]; exact ⟨by decide, by decide⟩
    | some p =>
      obtain ⟨v, q⟩ := p; rw [aInt_some hr]
      have := (rdF_lt l 0 0 (by decide) (by decide) _ _ hr).1
      show _ ≤ sgn v ∧ sgn v ≤ _
      unfold sgn
      split <;> omega
/-- A text of a told length. -/
def aCut : Int × Option (List UInt8) → List UInt8 × Option (List UInt8)
  | (_, none) => ([], none)
  | (n, some q) => if n < 0 ∨ (q.length : Int) < n then ([], none) else (q.take n.toNat, some (q.drop n.toNat))
def aStr (o : Option (List UInt8)) := aCut (aInt o)
/-- A count, at most m. -/
def aUpto (m : Int) : Int × Option (List UInt8) → Int × Option (List UInt8)
  | (_, none) => (0, none)
  | (n, some q) => if n < 0 ∨ m < n ∨ (q.length : Int) < n then (0, none) else (n, some q)
def aMany (m : Int) (o : Option (List UInt8)) := aUpto m (aInt o)
theorem St_some {s : ByteArray} {a : Int} {b : Bool} {q : List UInt8} (h : St s a b (some q)) : b = false ∧ ∃ n : Nat, a = n ∧ n ≤ s.size ∧ s.data.toList.drop n = q ∧ q.length = s.size - n := by
  obtain ⟨hb, n, e, hn, hd⟩ := h
  exact ⟨hb, n, e, hn, hd, by rw [← hd, List.length_drop, ← Sz]⟩
theorem cut_B (s : ByteArray) (n m : Nat) (h : n + m ≤ s.size) : s.extract n (n + m) = B ((s.data.toList.drop n).take m) := by
  have _ := h
  apply ByteArray.ext
  rw [ByteArray.data_extract]
  apply Array.ext'
  simp [List.take_drop]
theorem pStr (s : ByteArray) (hs : s.size ≤ 1000000) (a : Int) (b : Bool) (o : Option (List UInt8)) (k : Nat) (hk : 2 * s.size + 40 ≤ k) (h : St s a b o) :
    ∃ (a' : Int) (b' : Bool), pack_Reader_Str.f k s a b = some (B (aStr o).1, s, a', b') ∧ St s a' b' (aStr o).2 := by
  obtain ⟨a1, b1, e1, h1⟩ := pInt s hs a b o k hk h
  unfold pack_Reader_Str.f
  rw [e1, Option.bind_some]
  obtain ⟨k, rfl⟩ : ∃ m, k = m + 1 := ⟨k - 1, by omega⟩
  unfold aStr
  generalize hp : aInt o = p at *
  obtain ⟨n, o1⟩ := p
  simp only at h1 ⊢
  cases o1 with
  | none =>
    rw [if_pos (St_none h1)]
    exact ⟨_, _, rfl, h1⟩
  | some q =>
    obtain ⟨rfl, m, rfl, hm, hd, hl⟩ := St_some h1
    have hI := aInt_I o
    rw [hp] at hI
    simp only at hI
    rw [if_neg (by decide)]
    have hj : (if n < 0 then pack_Reader_Str.j0 (k + 1) n true s m false else pack_Reader_Str.j0 (k + 1) n (decide (n > wrap64 ((s.size : Int) - m))) s m false) = pack_Reader_Str.j0 (k + 1) n (decide (n < 0 ∨ (q.length : Int) < n)) s m false := by
      rw [w64 ((s.size : Int) - m) (by omega)]
      by_cases h0 : n < 0
      · rw [if_pos h0]
        congr 1
        symm; apply decide_eq_true; omega
      · rw [if_neg h0]
        congr 1
        apply decide_eq_decide.mpr; omega
    rw [hj, pack_Reader_Str.j0]
    unfold aCut
    by_cases hf : n < 0 ∨ (q.length : Int) < n
    · rw [decide_eq_true hf, if_pos rfl]
      simp only [if_pos hf]
      exact ⟨_, _, rfl, rfl⟩
    · rw [decide_eq_false hf, if_neg (by decide)]
      simp only [if_neg hf]
      obtain ⟨t, rfl⟩ : ∃ t : Nat, n = t := ⟨n.toNat, by omega⟩
      rw [wadd m t (by omega), if_pos (by omega), if_pos (by omega), if_pos (by omega)]
      refine ⟨_, _, ?_, rfl, m + t, rfl, by omega, ?_⟩
      · rw [Int.toNat_natCast, Int.toNat_natCast, cut_B s m t (by omega), hd, Int.toNat_natCast]
      · rw [← hd, List.drop_drop, Int.toNat_natCast]
theorem rStr (s : ByteArray) (hs : s.size ≤ 1000000) (a : Int) (b : Bool) (o : Option (List UInt8)) (k : Nat) (hk : 2 * s.size + 40 ≤ k) (h : St s a b o) :
    ∃ (a' : Int) (b' : Bool), mortmainref01_Reader_Str.f k s a b = some (B (aStr o).1, s, a', b') ∧ St s a' b' (aStr o).2 := by
  obtain ⟨a1, b1, e1, h1⟩ := rInt s hs a b o k hk h
  unfold mortmainref01_Reader_Str.f
  rw [e1, Option.bind_some]
  obtain ⟨k, rfl⟩ : ∃ m, k = m + 1 := ⟨k - 1, by omega⟩
  unfold aStr
  generalize hp : aInt o = p at *
  obtain ⟨n, o1⟩ := p
  simp only at h1 ⊢
  cases o1 with
  | none =>
    rw [if_pos (St_none h1), mortmainref01_Reader_Str.j0, if_pos rfl]
    exact ⟨_, _, rfl, rfl⟩
  | some q =>
    obtain ⟨rfl, m, rfl, hm, hd, hl⟩ := St_some h1
    have hI := aInt_I o
    rw [hp] at hI
    simp only at hI
    rw [if_neg (by decide)]
    have hj : (if n < 0 then mortmainref01_Reader_Str.j0 (k + 1) n true s m false else mortmainref01_Reader_Str.j0 (k + 1) n (decide (n > wrap64 ((s.size : Int) - m))) s m false) = mortmainref01_Reader_Str.j0 (k + 1) n (decide (n < 0 ∨ (q.length : Int) < n)) s m false := by
      rw [w64 ((s.size : Int) - m) (by omega)]
      by_cases h0 : n < 0
      · rw [if_pos h0]
        congr 1
        symm; apply decide_eq_true; omega
      · rw [if_neg h0]
        congr 1
        apply decide_eq_decide.mpr; omega
    rw [hj, mortmainref01_Reader_Str.j0]
    unfold aCut
    by_cases hf : n < 0 ∨ (q.length : Int) < n
    · rw [decide_eq_true hf, if_pos rfl]
      simp only [if_pos hf]
      exact ⟨_, _, rfl, rfl⟩
    · rw [decide_eq_false hf, if_neg (by decide)]
      simp only [if_neg hf]
      obtain ⟨t, rfl⟩ : ∃ t : Nat, n = t := ⟨n.toNat, by omega⟩
      have e2 : wrap64 (((m + t : Nat) : Int) - (t : Int)) = (m : Int) := by rw [w64 _ (by omega)]; omega
      rw [wadd m t (by omega), e2, if_pos (by omega), if_pos (by omega), if_pos (by omega)]
      refine ⟨_, _, ?_, rfl, m + t, rfl, by omega, ?_⟩
      · rw [Int.toNat_natCast, Int.toNat_natCast, cut_B s m t (by omega), hd, Int.toNat_natCast]
      · rw [← hd, List.drop_drop, Int.toNat_natCast]
theorem pMany (s : ByteArray) (hs : s.size ≤ 1000000) (a : Int) (b : Bool) (o : Option (List UInt8)) (t : Int) (k : Nat) (hk : 2 * s.size + 40 ≤ k) (h : St s a b o) :
    ∃ (a' : Int) (b' : Bool), pack_Reader_Many.f k s a b t = some ((aMany t o).1, s, a', b') ∧ St s a' b' (aMany t o).2 := by
  obtain ⟨a1, b1, e1, h1⟩ := pInt s hs a b o k hk h
  unfold pack_Reader_Many.f
  rw [e1, Option.bind_some]
  obtain ⟨k, rfl⟩ : ∃ m, k = m + 1 := ⟨k - 1, by omega⟩
  unfold aMany
  generalize hp : aInt o = p at *
  obtain ⟨n, o1⟩ := p
  simp only at h1 ⊢
  cases o1 with
  | none =>
    rw [if_pos (St_none h1)]
    exact ⟨_, _, rfl, h1⟩
  | some q =>
    obtain ⟨rfl, m, rfl, hm, hd, hl⟩ := St_some h1
    have hI := aInt_I o
    rw [hp] at hI
    simp only at hI
    rw [if_neg (by decide)]
    have hj : (if n < 0 then pack_Reader_Many.j0 (k + 1) n true s m false else if n > t then pack_Reader_Many.j0 (k + 1) n true s m false else pack_Reader_Many.j0 (k + 1) n (decide (n > wrap64 ((s.size : Int) - m))) s m false) = pack_Reader_Many.j0 (k + 1) n (decide (n < 0 ∨ t < n ∨ (q.length : Int) < n)) s m false := by
      rw [w64 ((s.size : Int) - m) (by omega)]
      by_cases h0 : n < 0
      · rw [if_pos h0]
        congr 1
        symm; apply decide_eq_true; omega
      · rw [if_neg h0]
        by_cases h2 : n > t
        · rw [if_pos h2]
          congr 1
          symm; apply decide_eq_true; omega
        · rw [if_neg h2]
          congr 1
          apply decide_eq_decide.mpr; omega
    rw [hj, pack_Reader_Many.j0]
    unfold aUpto
    by_cases hf : n < 0 ∨ t < n ∨ (q.length : Int) < n
    · rw [decide_eq_true hf, if_pos rfl]
      simp only [if_pos hf]
      exact ⟨_, _, rfl, rfl⟩
    · rw [decide_eq_false hf, if_neg (by decide)]
      simp only [if_neg hf]
      exact ⟨_, _, rfl, h1⟩
theorem rMany (s : ByteArray) (hs : s.size ≤ 1000000) (a : Int) (b : Bool) (o : Option (List UInt8)) (t : Int) (k : Nat) (hk : 2 * s.size + 40 ≤ k) (h : St s a b o) :
    ∃ (a' : Int) (b' : Bool) (n' : Int), mortmainref01_Reader_Many.f k s a b t = some (n', s, a', b') ∧ n' = (aMany t o).1 ∧ St s a' b' (aMany t o).2 := by
  obtain ⟨a1, b1, e1, h1⟩ := rInt s hs a b o k hk h
  unfold mortmainref01_Reader_Many.f
  rw [e1, Option.bind_some]
  obtain ⟨k, rfl⟩ : ∃ m, k = m + 1 := ⟨k - 1, by omega⟩
  unfold aMany
  have hb := @aInt_bad o
  generalize hp : aInt o = p at *
  obtain ⟨n, o1⟩ := p
  simp only at h1 hb ⊢
  cases o1 with
  | none =>
    obtain rfl := hb rfl
    have hx := St_none h1
    subst hx
    have key : ∀ x : Bool, ∃ (a' : Int) (b' : Bool) (n' : Int), mortmainref01_Reader_Many.j0 (k + 1) 0 x s a1 true = some (n', s, a', b') ∧ n' = (aUpto t (0, none)).1 ∧ St s a' b' (aUpto t (0, none)).2 := by
      intro x
      rw [mortmainref01_Reader_Many.j0]
      cases x <;> exact ⟨_, _, _, rfl, rfl, rfl⟩
    by_cases h0 : (0 : Int) < 0
    · omega
    · rw [if_neg h0]
      by_cases h2 : (0 : Int) > t
      · rw [if_pos h2]; exact key _
      · rw [if_neg h2]; exact key _
  | some q =>
    obtain ⟨rfl, m, rfl, hm, hd, hl⟩ := St_some h1
    have hI := aInt_I o
    rw [hp] at hI
    simp only at hI
    have hj : (if n < 0 then mortmainref01_Reader_Many.j0 (k + 1) n true s m false else if n > t then mortmainref01_Reader_Many.j0 (k + 1) n true s m false else mortmainref01_Reader_Many.j0 (k + 1) n (decide (n > wrap64 ((s.size : Int) - m))) s m false) = mortmainref01_Reader_Many.j0 (k + 1) n (decide (n < 0 ∨ t < n ∨ (q.length : Int) < n)) s m false := by
      rw [w64 ((s.size : Int) - m) (by omega)]
      by_cases h0 : n < 0
      · rw [if_pos h0]
        congr 1
        symm; apply decide_eq_true; omega
      · rw [if_neg h0]
        by_cases h2 : n > t
        · rw [if_pos h2]
          congr 1
          symm; apply decide_eq_true; omega
        · rw [if_neg h2]
          congr 1
          apply decide_eq_decide.mpr; omega
    rw [hj, mortmainref01_Reader_Many.j0]
    unfold aUpto
    by_cases hf : n < 0 ∨ t < n ∨ (q.length : Int) < n
    · rw [decide_eq_true hf, if_pos rfl]
      simp only [if_pos hf]
      exact ⟨_, _, _, rfl, rfl, rfl⟩
    · rw [decide_eq_false hf, if_neg (by decide)]
      simp only [if_neg hf]
      exact ⟨_, _, _, rfl, rfl, h1⟩
/-- One value out of bytes: what it is, as long as nothing is at fault. -/
def aTake (o : Option (List UInt8)) : Val × Option (List UInt8) :=
  match (aStr (aInt (aInt o).2).2).2 with
  | none => ((0, 0, []), none)
  | some q => if good ((aInt o).1, (aInt (aInt o).2).1, (aStr (aInt (aInt o).2).2).1) then (((aInt o).1, (aInt (aInt o).2).1, (aStr (aInt (aInt o).2).2).1), some q) else ((0, 0, []), none)
theorem aMany_low {o : Option (List UInt8)} : (aMany (-1) o).2 = none := by
  unfold aMany
  generalize aInt o = p
  obtain ⟨n, o1⟩ := p
  cases o1 with
  | none => rfl
  | some q => simp only [aUpto]; rw [if_pos (by omega)]
theorem pTake (s : ByteArray) (hs : s.size ≤ 1000000) (a : Int) (b : Bool) (o : Option (List UInt8)) (k : Nat) (hk : 2 * s.size + 40 ≤ k) (h : St s a b o) :
    ∃ (x y : Int) (z : ByteArray) (a' : Int) (b' : Bool), value_Take.f k s a b = some (x, y, z, s, a', b') ∧ St s a' b' (aTake o).2 ∧ ((aStr (aInt (aInt o).2).2).2 ≠ none ∨ o = none → V x y z = (aTake o).1) := by
  obtain ⟨a1, b1, e1, h1⟩ := pInt s hs a b o k hk h
  obtain ⟨a2, b2, e2, h2⟩ := pInt s hs a1 b1 _ k hk h1
  obtain ⟨a3, b3, e3, h3⟩ := pStr s hs a2 b2 _ k hk h2
  obtain ⟨a4, b4, e4, h4⟩ := pMany s hs a3 b3 _ (-1) k hk h3
  unfold value_Take.f
  rw [e1, Option.bind_some]
  simp only
  rw [e2, Option.bind_some]
  simp only
  rw [e3, Option.bind_some]
  simp only
  rw [good_f, Option.bind_some]
  rw [aMany_low] at h4
  unfold aTake
  by_cases hg : good (V (aInt o).1 (aInt (aInt o).2).1 (B (aStr (aInt (aInt o).2).2).1))
  · rw [decide_eq_true hg, if_pos rfl]
    refine ⟨_, _, _, _, _, rfl, ?_⟩
    cases hq : (aStr (aInt (aInt o).2).2).2 with
    | none =>
      rw [hq] at h3
      refine ⟨h3, fun h => ?_⟩
      rcases h with h | h
      · exact absurd rfl h
      · subst h; rfl
    | some q =>
      rw [hq] at h3
      simp only
      rw [if_pos hg]
      exact ⟨h3, fun _ => rfl⟩
  · rw [decide_eq_false hg, if_neg (by decide)]
    rw [e4, Option.bind_some]
    refine ⟨_, _, _, _, _, rfl, ?_⟩
    cases hq : (aStr (aInt (aInt o).2).2).2 with
    | none => exact ⟨h4, fun _ => rfl⟩
    | some q =>
      simp only
      rw [if_neg hg]
      exact ⟨h4, fun _ => rfl⟩
theorem rTake (s : ByteArray) (hs : s.size ≤ 1000000) (a : Int) (b : Bool) (o : Option (List UInt8)) (k : Nat) (hk : 2 * s.size + 40 ≤ k) (h : St s a b o) :
    ∃ (a' : Int) (b' : Bool), mortmainref03_Take.f k s a b = some ((aTake o).1.1, (aTake o).1.2.1, B (aTake o).1.2.2, s, a', b') ∧ St s a' b' (aTake o).2 := by
  obtain ⟨a1, b1, e1, h1⟩ := rInt s hs a b o k hk h
  obtain ⟨a2, b2, e2, h2⟩ := rInt s hs a1 b1 _ k hk h1
  obtain ⟨a3, b3, e3, h3⟩ := rStr s hs a2 b2 _ k hk h2
  unfold mortmainref03_Take.f
  rw [e1, Option.bind_some]
  simp only
  rw [e2, Option.bind_some]
  simp only
  rw [e3, Option.bind_some]
  simp only
  obtain ⟨k, rfl⟩ : ∃ m, k = m + 1 := ⟨k - 1, by omega⟩
  unfold aTake
  cases hq : (aStr (aInt (aInt o).2).2).2 with
  | none =>
    rw [hq] at h3
    rw [if_pos (St_none h3), mortmainref03_Take.j0, if_pos rfl]
    exact ⟨_, _, rfl, rfl⟩
  | some q =>
    rw [hq] at h3
    obtain ⟨hb3, _⟩ := id h3
    rw [if_neg (by rw [hb3]; decide), rgood_f, Option.bind_some, mortmainref03_Take.j0]
    simp only
    by_cases hg : good (V (aInt o).1 (aInt (aInt o).2).1 (B (aStr (aInt (aInt o).2).2).1))
    · rw [decide_eq_true hg, if_neg (by decide), if_pos hg]
      exact ⟨_, _, rfl, h3⟩
    · rw [decide_eq_false hg, if_pos (by decide), if_neg hg]
      exact ⟨_, _, rfl, rfl⟩
/-! ### A row -/
theorem row_loop (s : ByteArray) (hs : s.size ≤ 1000000) : ∀ (m n : Nat) (A A' : List S23) (a a' : Int) (b b' : Bool) (o : Option (List UInt8)) (k : Nat), n + m ≤ 6 → A.length = n → A'.length = n → 2 * s.size + 50 + m ≤ k → St s a b o → St s a' b' o → (o ≠ none → A = A') →
    ∃ (L : List S23) (e : Int), value_Read.l0 k A ((n + m : Nat) : Int) (n : Int) s a b = some (L, e) ∧ mortmainref03_Read.l0 k s ((n + m : Nat) : Int) A' (n : Int) s a' b' = some (L, decide (e = 0)) ∧ (e = 0 ∨ e = 4) ∧ L.length ≤ 6
  | 0, n, A, A', a, a', b, b', o, k, hn, hA, hA', hk, h, h', hAA => by
    obtain ⟨k, rfl⟩ : ∃ m, k = m + 2 := ⟨k - 2, by omega⟩
    rw [value_Read.l0, mortmainref03_Read.l0, if_neg (by omega), if_neg (by omega)]
    unfold pack_Reader_End.f
    cases o with
    | none =>
      rw [if_pos (St_none h), if_pos (St_none h'), pack_Reader_End.j0, mortmainref03_Read.j1]
      exact ⟨[], 4, rfl, rfl, .inr rfl, by decide⟩
    | some q =>
      obtain ⟨rfl, u, rfl, hu, hd, hl⟩ := St_some h
      obtain ⟨rfl, u', rfl, hu', hd', hl'⟩ := St_some h'
      obtain rfl := hAA (by simp)
      obtain rfl : u = u' := by omega
      rw [if_neg (by decide), if_neg (by decide), pack_Reader_End.j0, mortmainref03_Read.j1]
      by_cases he : u = s.size
      · rw [show ((u : Int) != (s.size : Int)) = false by rw [he]; simp]
        exact ⟨A, 0, rfl, rfl, .inl rfl, by omega⟩
      · rw [show ((u : Int) != (s.size : Int)) = true by simp; omega]
        exact ⟨[], 4, rfl, rfl, .inr rfl, by decide⟩
  | m + 1, n, A, A', a, a', b, b', o, k, hn, hA, hA', hk, h, h', hAA => by
    obtain ⟨k, rfl⟩ : ∃ m, k = m + 1 := ⟨k - 1, by omega⟩
    obtain ⟨x, y, z, a2, b2, e2, h2, hv⟩ := pTake s hs a b o k (by omega) h
    obtain ⟨a3, b3, e3, h3⟩ := rTake s hs a' b' o k (by omega) h'
    rw [value_Read.l0, mortmainref03_Read.l0, if_pos (by omega), if_pos (by omega), e2, e3, Option.bind_some, Option.bind_some]
    simp only
    rw [if_pos (by omega), if_pos (by omega), show wrap64 ((n : Int) + 1) = ((n + 1 : Nat) : Int) by rw [w64 _ (by omega)]; omega, show n + (m + 1) = n + 1 + m by omega]
    refine row_loop s hs m (n + 1) _ _ a2 a3 b2 b3 _ k (by omega) (by simp [hA]) (by simp [hA']) (by omega) h2 h3 ?_
    intro ho
    have e := hv (.inl (by
      intro hq
      apply ho
      unfold aTake
      rw [hq]))
    have ho2 : o ≠ none := by
      rintro rfl
      exact ho rfl
    rw [hAA ho2]
    congr 2
    rw [← e]
theorem read_f (s : ByteArray) (hs : s.size ≤ 1000000) (k : Nat) (hk : 2 * s.size + 60 ≤ k) :
    ∃ (L : List S23) (e : Int), value_Read.f k s = some (L, e) ∧ mortmainref03_Read.f k s = some (L, decide (e = 0)) ∧ (e = 0 ∨ e = 4) ∧ L.length ≤ 6 := by
  have h0 : St s 0 false (some s.data.toList) := ⟨rfl, 0, rfl, by omega, by simp⟩
  obtain ⟨a1, b1, e1, h1⟩ := pMany s hs 0 false _ 6 k (by omega) h0
  obtain ⟨a2, b2, n2, e2, rfl, h2⟩ := rMany s hs 0 false _ 6 k (by omega) h0
  unfold value_Read.f mortmainref03_Read.f pack_Open.f
  rw [Option.bind_some]
  simp only
  rw [e1, e2, Option.bind_some, Option.bind_some]
  simp only
  have hb : 0 ≤ (aMany 6 (some s.data.toList)).1 ∧ (aMany 6 (some s.data.toList)).1 ≤ 6 := by
    unfold aMany
    generalize aInt _ = p
    obtain ⟨n, o1⟩ := p
    cases o1 with
    | none => exact ⟨Int.le_refl 0, show (0 : Int) ≤ 6 by decide⟩
    | some q =>
      unfold aUpto
      simp only
      split
      · exact ⟨by decide, by decide⟩
      · simp only; omega
  obtain ⟨m, hm⟩ : ∃ m : Nat, (aMany 6 (some s.data.toList)).1 = m := ⟨_, (Int.toNat_of_nonneg hb.1).symm⟩
  rw [hm] at hb ⊢
  have := row_loop s hs m 0 [] [] a1 a2 b1 b2 _ k (by omega) rfl rfl (by omega) h1 h2 (fun _ => rfl)
  rwa [Nat.zero_add] at this
theorem same_l (L : List S23) (hL : L.length ≤ 6) : ∀ (m n k : Nat), n + m = L.length → m + 1 ≤ k → mortmainref03_Same.l0 k L L (L.length : Int) (n : Int) = some true
  | 0, n, k, hn, hk => by
    obtain ⟨k, rfl⟩ : ∃ m, k = m + 1 := ⟨k - 1, by omega⟩
    rw [mortmainref03_Same.l0, if_neg (by omega)]
  | m + 1, n, k, hn, hk => by
    obtain ⟨k, rfl⟩ : ∃ m, k = m + 1 := ⟨k - 1, by omega⟩
    rw [mortmainref03_Same.l0, if_pos (by omega), if_pos (by omega), if_pos (by omega), if_pos (by omega), if_neg (by simp), show wrap64 ((n : Int) + 1) = ((n + 1 : Nat) : Int) by rw [w64 _ (by omega)]; omega]
    exact same_l L hL m (n + 1) k (by omega) (by omega)
theorem same_f (L : List S23) (hL : L.length ≤ 6) (k : Nat) (hk : 8 ≤ k) : mortmainref03_Same.f k L L = some true := by
  unfold mortmainref03_Same.f
  rw [if_pos rfl]
  exact same_l L hL L.length 0 k (by omega) (by omega)
end Go.Proofs.YtmaciepkkianhabGreatDoor.M

namespace Go.Proofs.YtmaciepkkianhabGreatDoor.H
open Go.RowKit Go.Proofs Go.Proofs.YtmaciepkkianhabGreatDoorW.PrintWords Go.Proofs.YtmaciepkkianhabGreatDoorW.PrintLast

theorem info_builder : (Tryz.prog.info? 47).map (·.size) = some 2 := by kernel_rfl
theorem lies_writer : liesAt Tryz.prog Tryz.prog.depth 49 (2 / Tryz.prog.cellsOf 49) 0 47 1 = true := by kernel_rfl
theorem info_byte : (Tryz.prog.info? 5).map (fun i => (i.zero, i.size, i.bytes)) = some (some (.int .u8 0), 1, 1) := by kernel_rfl
theorem cells_byte : Tryz.prog.cellsOf 5 = 1 := by kernel_rfl
theorem ne_writer : (49 : Nat) ≠ 5 := by decide
set_option maxHeartbeats 1000000 in
set_option maxRecDepth 100000 in
theorem cc_used (b : Nat) (w : World) (h0 : w.cell? ⟨b, 0, none⟩ = some (.pointer (some ⟨b, 0, none⟩))) :
    Calls Tryz.prog 97 #[.pointer (some ⟨b, 0, none⟩)] w fun e w' => e = .returned (.tuple #[]) ∧ w' = w := by
  obtain ⟨j, hj, _⟩ := Option.map_eq_some_iff.1 info_builder
  go_enter Tryz.func97, Tryz.ntmps97
  go_wp2
  rw [Lib.run_neq_ptr_same w _ Tryz.underlying44 hj]
  go_wp2
  go_end0
  exact ⟨rfl, rfl⟩
set_option maxHeartbeats 1000000 in
set_option maxRecDepth 100000 in
theorem cc_fresh (b : Nat) (w : World) (h0 : w.cell? ⟨b, 0, none⟩ = some (.pointer none)) (hsh : w.shape? b = some (49, 2)) (hfz : w.frozen? ⟨b, 0, none⟩ = false) :
    Calls Tryz.prog 97 #[.pointer (some ⟨b, 0, none⟩)] w fun e w' => e = .returned (.tuple #[]) ∧ w' = w.setCell ⟨b, 0, none⟩ (.pointer (some ⟨b, 0, none⟩)) := by
  obtain ⟨j, hj, hjs⟩ := Option.map_eq_some_iff.1 info_builder
  go_enter Tryz.func97, Tryz.ntmps97
  go_wp2
  rw [Lib.run_to_unsafe w ⟨b, 0, none⟩ Tryz.underlying44 Tryz.underlying148 hj (by rw [hjs]; decide) hsh (Nat.zero_lt_succ 1)]
  simp only [Result.andThen]
  rw [Oper.upon_value]
  go_wp2
  rw [run_callFunc_extern Tryz.func125 (by kernel_rfl) (by kernel_rfl) (by kernel_rfl) (e := Extern.AbiNoEscape.same) (by kernel_rfl)]
  rw [Lib.run_noEscape]
  simp only [Result.andThen]
  rw [Oper.upon_value]
  go_wp2
  rw [Lib.run_from_unsafe w ⟨b, 0, none⟩ Tryz.underlying148 Tryz.underlying44 hj hsh lies_writer]
  simp only [Result.andThen]
  rw [Oper.upon_value]
  go_wp2
  go_end0
  exact ⟨rfl, rfl⟩
/-- A writer in block b, of the call's own from B on, that holds bytes. -/
abbrev IsW (B b : Nat) (bs : List Value) (w : World) : Prop := Lib.IsBuilderF 49 5 B b bs w
abbrev AtW (B b : Nat) (bs : List Value) (w : World) : Prop := Lib.BuilderAtF 49 5 B b (.pointer (some ⟨b, 0, none⟩)) bs w
theorem cc_any (B b : Nat) (bs : List Value) (w : World) (h : IsW B b bs w) :
    Calls Tryz.prog 97 #[.pointer (some ⟨b, 0, none⟩)] w fun e w' => e = .returned (.tuple #[]) ∧ (AtW B b bs w' ∧ Below B w w' ∧ Lib.OthersKept 5 (some b) w w') := by
  rcases h with h | h
  · refine (cc_fresh b w h.cell0 h.shape h.frozen0).mono ?_
    rintro e w' ⟨rfl, rfl⟩
    exact ⟨rfl, h.used _, (Below.refl B w).setCell (p := ⟨b, 0, none⟩) h.1 _, (Lib.OthersKept.refl _ _ w).setCell ⟨b, 0, none⟩ rfl _⟩
  · refine (cc_used b w h.cell0).mono ?_
    rintro e w' ⟨rfl, rfl⟩
    exact ⟨rfl, h, Below.refl B _, Lib.OthersKept.refl _ _ _⟩
set_option maxHeartbeats 2000000 in
set_option maxRecDepth 100000 in
theorem wb_any (B b : Nat) (bs : List Value) (c : Int) (w : World) (h : IsW B b bs w) (hlen : bs.length + 1 ≤ 140737488355328) (hBw : B ≤ w.heap.size) :
    Calls Tryz.prog 78 #[.pointer (some ⟨b, 0, none⟩), .int .u8 c] w fun e w' => e = .returned .nilIface ∧ (AtW B b (bs ++ [.int .u8 c]) w' ∧ Below B w w' ∧ Lib.OthersKept 5 (some b) w w') := by
  obtain ⟨i0, hi, hz0, hz1, hz2⟩ := info_parts info_byte
  go_enter Tryz.func78, Tryz.ntmps78
  go_wp2_with (go_at_call 97; refine (cc_any B b bs _ h).mono ?_)
  rintro e w1 ⟨rfl, h1, hb1, hk1⟩
  obtain ⟨hB, v, hbk, hown, hne⟩ := h1
  have c0 : w1.cell? ⟨b, 0, none⟩ = some (.pointer (some ⟨b, 0, none⟩)) := by rw [Lib.cell_of_heap hbk]; rfl
  have c1 : w1.cell? ⟨b, 1, none⟩ = some v := by rw [Lib.cell_of_heap hbk]; rfl
  go_wp2_with (at_builtin; refine wpList_append_ownF _ rfl _ _ 45 rfl B 5 i0 (.int .u8 0) 1 1 Tryz.underlying45 hi hz0 hz1 hz2 rfl (by decide) _ _ _ rfl (hown.alloc _) ⟨w1.heap.size, 0, none⟩ 1 1 [.int .u8 c] rfl rfl ?c1 ?c2 ?c3 ?c4 ?c5 ?_)
  case c1 => exact cell_one_new _ _ _
  case c2 => intro u hu; simp at hu; subst hu; rfl
  case c3 => unfold maxLen; omega
  case c4 => omega
  case c5 => have := hb1.size; simp; omega
  intro v' w2 hown' hgrow _
  have hlt : b < w1.heap.size := blk_lt hbk
  have hb2 : w2.heap[b]? = some (.cells #[.pointer (some ⟨b, 0, none⟩), v] 49 (0, 0)) := by
    rw [hgrow.block b (by simp; omega) (fun e => hne e.symm), Lib.alloc_old w1 _ b hlt]
    exact hbk
  have d0 : w2.cell? ⟨b, 0, none⟩ = some (.pointer (some ⟨b, 0, none⟩)) := by rw [Lib.cell_of_heap hb2]; rfl
  have d1 : w2.cell? ⟨b, 1, none⟩ = some v := by rw [Lib.cell_of_heap hb2]; rfl
  have f1 : w2.frozen? ⟨b, 1, none⟩ = false := Lib.frozen_of_heap hb2 1
  obtain ⟨g, cap, rfl⟩ : ∃ g cap, v' = .slice (some ⟨g, 0, none⟩) (bs.length + 1) cap := by
    rcases hown'.2 with ⟨_, h0⟩ | ⟨g, cap, cur, fz, hv, _⟩
    · omega
    · exact ⟨g, cap, hv⟩
  go_wp2
  go_ret
  refine ⟨rfl, ?_, ?_, ((hk1.alloc _).grown hgrow (Lib.ownsRowF_kind (hown.alloc _))).setCell ⟨b, 1, none⟩ rfl _⟩
  · exact Lib.BuilderAtF.put (T := 49) (e := 5) hB hb2 (bs' := bs ++ [.int .u8 c]) (by simpa using hown') ne_writer
  · exact ((hb1.alloc (by have := hb1.size; omega) _).grown hgrow (by have := hb1.size; simp; omega) (fun k hk => (hown.lt k hk).1)).setCell (p := ⟨b, 1, none⟩) hB _
set_option maxHeartbeats 2000000 in
set_option maxRecDepth 100000 in
theorem ws_any (B b : Nat) (bs : List Value) (s : ByteArray) (w : World) (h : IsW B b bs w) (hlen : bs.length + s.size ≤ 140737488355328) (hBw : B ≤ w.heap.size) :
    Calls Tryz.prog 82 #[.pointer (some ⟨b, 0, none⟩), .string s] w fun e w' => e = .returned (.tuple #[.int .i64 s.size, .nilIface]) ∧ (AtW B b (bs ++ Lib.strCells s) w' ∧ Below B w w' ∧ Lib.OthersKept 5 (some b) w w') := by
  obtain ⟨i0, hi, hz0, hz1, hz2⟩ := info_parts info_byte
  go_enter Tryz.func82, Tryz.ntmps82
  go_wp2_with (go_at_call 97; refine (cc_any B b bs _ h).mono ?_)
  rintro e w1 ⟨rfl, h1, hb1, hk1⟩
  obtain ⟨hB, v, hbk, hown, hne⟩ := h1
  have c0 : w1.cell? ⟨b, 0, none⟩ = some (.pointer (some ⟨b, 0, none⟩)) := by rw [Lib.cell_of_heap hbk]; rfl
  have c1 : w1.cell? ⟨b, 1, none⟩ = some v := by rw [Lib.cell_of_heap hbk]; rfl
  go_wp2_with (at_builtin; refine Lib.wpList_append_own_stringF _ rfl _ _ 45 9 rfl B 5 i0 Tryz.underlying45 Tryz.underlying9 hi hz0 hz1 hz2 _ _ _ rfl hown s rfl ?c3 ?c4 ?c5 ?_)
  case c3 => unfold maxLen; omega
  case c4 => omega
  case c5 => have := hb1.size; omega
  intro v' w2 hown' hgrow _
  have hlt : b < w1.heap.size := blk_lt hbk
  have hb2 : w2.heap[b]? = some (.cells #[.pointer (some ⟨b, 0, none⟩), v] 49 (0, 0)) := by
    rw [hgrow.block b hlt (fun e => hne e.symm)]
    exact hbk
  have d0 : w2.cell? ⟨b, 0, none⟩ = some (.pointer (some ⟨b, 0, none⟩)) := by rw [Lib.cell_of_heap hb2]; rfl
  have d1 : w2.cell? ⟨b, 1, none⟩ = some v := by rw [Lib.cell_of_heap hb2]; rfl
  have f1 : w2.frozen? ⟨b, 1, none⟩ = false := Lib.frozen_of_heap hb2 1
  obtain ⟨ao, n', cap, rfl⟩ : ∃ ao n' cap, v' = .slice ao n' cap := by
    rcases hown'.2 with ⟨hv, _⟩ | ⟨g, cap, cur, fz, hv, _⟩
    · exact ⟨_, _, _, hv⟩
    · exact ⟨_, _, _, hv⟩
  go_wp2
  go_ret2
  refine ⟨rfl, ?_, ?_, (hk1.grown hgrow (Lib.ownsRowF_kind hown)).setCell ⟨b, 1, none⟩ rfl _⟩
  · exact Lib.BuilderAtF.put (T := 49) (e := 5) hB hb2 (bs' := bs ++ Lib.strCells s) (by simpa [Lib.strCells_length] using hown') ne_writer
  · exact (hb1.grown hgrow (by have := hb1.size; omega) (fun k hk => (hown.lt k hk).1)).setCell (p := ⟨b, 1, none⟩) hB _
set_option maxHeartbeats 2000000 in
set_option maxRecDepth 100000 in
theorem str_some (B b : Nat) (l : List UInt8) (w : World) (h : IsW B b (Lib.byteCells l) w) (h0 : l ≠ []) :
    Calls Tryz.prog 61 #[.pointer (some ⟨b, 0, none⟩)] w fun e w' => e = .returned (.string ⟨l.toArray⟩) ∧ Below B w w' := by
  obtain ⟨p, hB, v, hbk, hown, hne⟩ : ∃ p, Lib.BuilderAtF 49 5 B b p (Lib.byteCells l) w := by
    rcases h with h | h
    · exact ⟨_, h⟩
    · exact ⟨_, h⟩
  have hl0 : l.length ≠ 0 := by simpa using h0
  rw [Lib.byteCells_length] at hown
  obtain ⟨g, cap, cur, fz, rfl, hbg, hg, hfz, hnc, hcm, hcs, htake⟩ : ∃ g cap cur fz, v = .slice (some ⟨g, 0, none⟩) l.length cap ∧ B ≤ g ∧ w.heap[g]? = some (.cells cur 5 fz) ∧ fz.2 ≤ l.length * 1 ∧ l.length ≤ cap ∧ cap ≤ maxLen ∧ cur.size = cap * 1 ∧ cur.toList.take (l.length * 1) = Lib.byteCells l := by
    rcases hown.2 with ⟨_, hz⟩ | ⟨g, cap, cur, fz, hv, r⟩
    · exact absurd hz hl0
    · exact ⟨g, cap, cur, fz, hv, r⟩
  have c1 : w.drew.cell? ⟨b, 1, none⟩ = some (.slice (some ⟨g, 0, none⟩) l.length cap) := by
    have : w.drew.heap[b]? = some (.cells #[p, .slice (some ⟨g, 0, none⟩) l.length cap] 49 (0, 0)) := hbk
    rw [Lib.cell_of_heap this]; rfl
  have hSD : (Builtin.unsafeSliceData_ #[45] 110 #[.slice (some ⟨g, 0, none⟩) l.length cap]).run Tryz.prog w.drew = .ok (.pointer (some ⟨g, 0, none⟩)) w.drew :=
    Lib.run_unsafeSliceData_row _ _ _ _ _ _ (by omega)
  have hUS : (Builtin.unsafeString_ #[110, 3] 9 #[.pointer (some ⟨g, 0, none⟩), .int .i64 l.length]).run Tryz.prog w.drew = .ok (.string ⟨l.toArray⟩) (w.drew.freeze ⟨g, 0, none⟩ l.length) := by
    refine Lib.run_unsafeString_row w.drew 110 3 9 5 Tryz.underlying110 cells_byte g cur.size (by have hg' : w.drew.heap[g]? = some (.cells cur 5 fz) := hg; simp [World.shape?, hg']) l h0 (by omega) (by unfold maxLen at hcm; omega) ?_
    intro j x hx
    exact hown.cells (g := g) rfl j (.int .u8 x.toNat) (by simp [Lib.byteCells, hx])
  have mixed : Tryz.prog.follows Departure.mixedOrders = true := by kernel_rfl
  go_enter Tryz.func61, Tryz.ntmps61
  go_wp2
  go_region_o
  all_goals (go_wp2; go_ret; exact ⟨rfl, Lib.below_freeze (Below.drew (Below.refl B w)) (p := ⟨g, 0, none⟩) hbg _⟩)
set_option maxHeartbeats 2000000 in
set_option maxRecDepth 100000 in
theorem str_none (B b : Nat) (p : Value) (w : World) (hbk : w.heap[b]? = some (.cells #[p, .slice none 0 0] 49 (0, 0))) :
    Calls Tryz.prog 61 #[.pointer (some ⟨b, 0, none⟩)] w fun e w' => e = .returned (.string ⟨#[]⟩) ∧ Below B w w' := by
  have hUS : ∀ (W : World) (q : Option Addr), (Builtin.unsafeString_ #[110, 3] 9 #[.pointer q, .int .i64 0]).run Tryz.prog W = .ok (.string .empty) W := fun W q => Lib.run_unsafeString_none W _ _ _ q
  have c1 : w.drew.cell? ⟨b, 1, none⟩ = some (.slice none 0 0) := by
    have : w.drew.heap[b]? = some (.cells #[p, .slice none 0 0] 49 (0, 0)) := hbk
    rw [Lib.cell_of_heap this]; rfl
  have hSD : (Builtin.unsafeSliceData_ #[45] 110 #[.slice none 0 0]).run Tryz.prog w.drew = .ok (.pointer none) w.drew := rfl
  have mixed : Tryz.prog.follows Departure.mixedOrders = true := by kernel_rfl
  go_enter Tryz.func61, Tryz.ntmps61
  go_wp2
  go_region_o
  all_goals (go_wp2; go_ret; exact ⟨rfl, Below.drew (Below.refl B w)⟩)
end Go.Proofs.YtmaciepkkianhabGreatDoor.H

namespace Go.Proofs.YtmaciepkkianhabGreatDoor.QZig
open Go.Proofs.YtmaciepkkianhabGreatDoor.H
attribute [local go_sem] ite_signed_u64 ite_signed_u32
open Go.RowKit Go.Proofs.YtmaciepkkianhabGreatDoorW.PrintWords Go.Proofs.YtmaciepkkianhabGreatDoorW.PrintLast Go.Proofs.YtmaciepkkianhabGreatDoorW.PrintMore
attribute [local go_sem] max2_int min2_int max_two min_two max_three min_three max_four min_four   -- for this text's walks alone
set_option linter.unusedVariables false
set_option linter.unusedSimpArgs false



def errW : Option Int → Value
  | none => .nilIface
  | some c => .iface 0 (.int .i64 c)
theorem errW_none : errW none = .nilIface := rfl
theorem errW_some (c : Int) : errW (some c) = .iface 0 (.int .i64 c) := rfl

-- the values' own types

end Go.Proofs.YtmaciepkkianhabGreatDoor.QZig

namespace Go.Proofs.YtmaciepkkianhabGreatDoor.QZig
open Go.Proofs.YtmaciepkkianhabGreatDoor.H
attribute [local go_sem] ite_signed_u64 ite_signed_u32
open Go.RowKit Go.Proofs.YtmaciepkkianhabGreatDoorW.PrintWords Go.Proofs.YtmaciepkkianhabGreatDoorW.PrintLast Go.Proofs.YtmaciepkkianhabGreatDoorW.PrintMore
attribute [local go_sem] max2_int min2_int max_two min_two max_three min_three max_four min_four   -- for this text's walks alone
set_option linter.unusedVariables false
set_option linter.unusedSimpArgs false

/-! ### pack_zig: function 79 -/
def pack_zig.f (a0 : Int) : Option (Int) := some (Go.bits .xor .u64 (IntKind.u64.wrap ((IntKind.u64.wrap (a0)) * 2)) (IntKind.u64.wrap (a0 / 9223372036854775808)))
set_option maxHeartbeats 8000000 in
set_option maxRecDepth 100000 in
theorem pack_zig.calls (a0 : Int) (r : Int) (w : World) (h : pack_zig.f a0 = some r) :
    Calls Tryz.prog 79 #[.int .i64 a0] w fun e w' => e = .returned (.int .u64 r) ∧ Drawn0 w w' := by
  have H : (some (Go.bits .xor .u64 (IntKind.u64.wrap ((IntKind.u64.wrap (a0)) * 2)) (IntKind.u64.wrap (a0 / 9223372036854775808)))) = some r := h
  clear h
  obtain rfl := Option.some.inj H
  go_enter Tryz.func79, Tryz.ntmps79
  go_wp2
  go_ret
  exact ⟨by first | rfl | (simp; done) | (simp [*]; done) | (generalize ByteArray.toList _ = l_; cases l_ <;> rfl), by repeat (first | exact Drawn0.refl _ | apply Drawn0.step)⟩

end Go.Proofs.YtmaciepkkianhabGreatDoor.QZig

namespace Go.Proofs.YtmaciepkkianhabGreatDoor.H
open Go.RowKit Go.Proofs Go.Proofs.YtmaciepkkianhabGreatDoorW.PrintWords Go.Proofs.YtmaciepkkianhabGreatDoorW.PrintLast Go.Proofs.YtmaciepkkianhabGreatDoor.QZig

/-- A number's bytes: seven digits of two a byte, the lowest first. -/
def varF : Nat → Nat → List UInt8
  | 0, u => [UInt8.ofNat u]
  | k + 1, u => if 128 ≤ u then UInt8.ofNat (u % 128 + 128) :: varF k (u / 128) else [UInt8.ofNat u]
def varL (u : Nat) : List UInt8 := varF 9 u
theorem varF_more : ∀ (k u : Nat), u < 128 ^ (k + 1) → varF (k + 1) u = varF k u
  | 0, u, h => by simp [varF]; omega
  | k + 1, u, h => by
    have e := varF_more k (u / 128)
    show (if 128 ≤ u then UInt8.ofNat (u % 128 + 128) :: varF (k + 1) (u / 128) else [UInt8.ofNat u]) = (if 128 ≤ u then UInt8.ofNat (u % 128 + 128) :: varF k (u / 128) else [UInt8.ofNat u])
    rw [e (by rw [Nat.pow_succ] at h; omega)]
theorem varL_step (u : Nat) (h : u < 18446744073709551616) (h1 : 128 ≤ u) : varL u = UInt8.ofNat (u % 128 + 128) :: varL (u / 128) := by
  unfold varL
  rw [varF, if_pos h1, varF_more 8 (u / 128) (by omega)]
theorem varL_last (u : Nat) (h1 : u < 128) : varL u = [UInt8.ofNat u] := by
  unfold varL
  rw [varF, if_neg (by omega)]
/-- A number without its sign. -/
def zigN (n : Int) : Nat := if 0 ≤ n then (2 * n).toNat else (-2 * n - 1).toNat
theorem zigN_lt (n : Int) (h : -9223372036854775808 ≤ n ∧ n ≤ 9223372036854775807) : zigN n < 18446744073709551616 := by unfold zigN; split <;> omega
theorem or128 (u : Nat) : bits .or .u8 ((u : Int) % 256) 128 = ((u % 128 + 128 : Nat) : Int) := by
  have h : ∀ m : Fin 256, bits .or .u8 ((m.val : Nat) : Int) 128 = ((m.val % 128 + 128 : Nat) : Int) := by decide +kernel
  have := h ⟨u % 256, Nat.mod_lt _ (by decide)⟩
  rw [show ((u : Int) % 256) = ((u % 256 : Nat) : Int) by omega, this]
  congr 1
  show u % 256 % 128 + 128 = u % 128 + 128
  omega
theorem varL_len (u : Nat) : (varL u).length ≤ 10 := by
  have h : ∀ (k u : Nat), (varF k u).length ≤ k + 1 := by
    intro k
    induction k with
    | zero => intro u; simp [varF]
    | succ k ih =>
      intro u
      rw [varF]
      split
      · have := ih (u / 128); simp; omega
      · simp
  exact h 9 u
theorem varL_pos (u : Nat) : 1 ≤ (varL u).length := by
  unfold varL; rw [varF]; split <;> simp
theorem byteCells_snoc (l : List UInt8) (m : Nat) (h : m < 256) : Lib.byteCells l ++ [Value.int .u8 (m : Int)] = Lib.byteCells (l ++ [UInt8.ofNat m]) := by
  rw [Lib.byteCells_append]
  congr 1
  show _ = [Value.int .u8 ((UInt8.ofNat m).toNat : Int)]
  rw [UInt8.toNat_ofNat', Nat.mod_eq_of_lt (by simpa using h)]
theorem xor_all (x : Nat) (h : x < 18446744073709551616) : x ^^^ 18446744073709551615 = 18446744073709551615 - x := by
  rw [Nat.xor_comm]
  exact M.xor_max_nat x h
theorem zig_f (n : Int) (h : -9223372036854775808 ≤ n ∧ n ≤ 9223372036854775807) : pack_zig.f n = some (zigN n : Int) := by
  unfold pack_zig.f zigN
  refine congrArg some ?_
  rw [M.wrap_u64, M.wrap_u64, M.wrap_u64, u64_xor _ _ (by omega) (by omega) (by omega) (by omega)]
  by_cases h0 : 0 ≤ n
  · rw [if_pos h0, show (n / 9223372036854775808 % 18446744073709551616).toNat = 0 by omega, Nat.xor_zero]
    omega
  · rw [if_neg h0, show (n / 9223372036854775808 % 18446744073709551616).toNat = 18446744073709551615 by omega, xor_all _ (by omega)]
    omega
theorem cell_row {w : World} {k : Nat} {ns : List Int} (h : w.heap[k]? = some (.cells (ns.map (Value.int .i64)).toArray 3 (0, 0))) (j : Nat) (hj : j < ns.length) : w.cell? ⟨k, j, none⟩ = some (.int .i64 ns[j]) := by
  rw [blk_cell h j]
  simp [hj]
set_option maxHeartbeats 8000000 in
set_option maxRecDepth 100000 in
theorem wInt (B b k : Nat) (l : List UInt8) (ns : List Int) (w : World) (h : IsW B b (Lib.byteCells l) w) (hB : B ≤ w.heap.size)
    (hk : w.heap[k]? = some (.cells (ns.map (Value.int .i64)).toArray 3 (0, 0))) (hkb : k ≠ b) (hn : ∀ n ∈ ns, -9223372036854775808 ≤ n ∧ n ≤ 9223372036854775807) (hl : l.length + 10 * ns.length ≤ 100000000) :
    Calls Tryz.prog 50 #[.pointer (some ⟨b, 0, none⟩), .slice (some ⟨k, 0, none⟩) ns.length ns.length] w fun e w' =>
      e = .returned (.tuple #[]) ∧ IsW B b (Lib.byteCells (l ++ ns.flatMap fun n => varL (zigN n))) w' ∧ Below B w w' ∧ Lib.OthersKept 5 (some b) w w' := by
  have HI := Aside0.mk h
  have HK := Aside0.mk hk
  have HN := Aside0.mk hn
  clear h hk hn
  go_enter Tryz.func50, Tryz.ntmps50
  go_wp2
  go_loopw [9] (fun vi wr => ∃ j : Nat, vi = .int .i64 j ∧ j ≤ ns.length ∧ Aside0 (IsW B b (Lib.byteCells (l ++ (ns.take j).flatMap fun n => varL (zigN n))) wr) ∧ Aside0 (Below B w wr) ∧ Aside0 (Lib.OthersKept 5 (some b) w wr)) (fun vi _ => ns.length - (intOf vi).toNat)
  case atStart => exact ⟨0, rfl, Nat.zero_le _, ⟨by simpa using HI.out⟩, ⟨Below.refl B w⟩, ⟨Lib.OthersKept.refl _ _ w⟩⟩
  case round =>
    obtain ⟨j, rfl, hj, HI2, HB2, HO2⟩ := hrel
    by_cases hlt : j < ns.length
    · have hkk : wr.heap[k]? = some (.cells (ns.map (Value.int .i64)).toArray 3 (0, 0)) := HO2.out k _ HK.out (by simpa using hkb) (fun c fz e => by injection e with _ e; exact absurd e (by decide))
      have hcell : wr.cell? ⟨k, j, none⟩ = some (.int .i64 ns[j]) := cell_row hkk j hlt
      have hb := HN.out _ (List.getElem_mem hlt)
      have hz := Aside0.mk (zig_f ns[j] hb)
      have hzl := Aside0.mk (zigN_lt ns[j] hb)
      obtain ⟨L, hL⟩ : ∃ L, L = l ++ (ns.take j).flatMap fun n => varL (zigN n) := ⟨_, rfl⟩
      have hLl : L.length ≤ 100000000 := by
        have h1 : ((ns.take j).flatMap fun n => varL (zigN n)).length ≤ 10 * (ns.take j).length := by
          generalize ns.take j = q
          induction q with
          | nil => simp
          | cons x q ih => have := varL_len (zigN x); rw [List.flatMap_cons, List.length_append, List.length_cons]; omega
        rw [List.length_take] at h1
        rw [hL, List.length_append]; omega
      rw [← hL] at HI2
      have HL := Aside0.mk hL
      have HLL := Aside0.mk hLl
      have HBs := Aside0.mk HB2.out.size
      clear hL hLl hkk hb
      obtain ⟨n, hn⟩ : ∃ n, n = ns[j] := ⟨_, rfl⟩
      rw [← hn] at hcell hz hzl
      have HNJ := Aside0.mk hn
      clear hn
      go_wp2_with (first | (go_at_call 79; (with_reducible refine (pack_zig.calls n _ _ hz.out).mono ?_); rintro e w' ⟨rfl, ⟨nd, rfl⟩⟩))
      clear hcell
      have HI3 := Aside0.mk (show IsW B b (Lib.byteCells L) (wr.drewN nd) from HI2.out)
      have HB3 := Aside0.mk (show Below B w (wr.drewN nd) from ⟨HB2.out.os, HB2.out.tape, HB2.out.output, HB2.out.size, HB2.out.block⟩)
      have HO3 := Aside0.mk (show Lib.OthersKept 5 (some b) w (wr.drewN nd) from HO2.out)
      clear HI2 HB2 HO2
      obtain ⟨z, hzz⟩ : ∃ z, z = zigN n := ⟨_, rfl⟩
      rw [← hzz] at hz hzl ⊢
      have HZ := Aside0.mk hzz
      clear hz hzz
      generalize wr.drewN nd = wq at *
      go_loopw [6] (fun vu w2 => ∃ (u : Nat) (q : List UInt8), vu = .int .u64 u ∧ Aside0 (u < 18446744073709551616) ∧ Aside0 (q ++ varL u = varL z) ∧ Aside0 (IsW B b (Lib.byteCells (L ++ q)) w2) ∧ Aside0 (Below B w w2) ∧ Aside0 (Lib.OthersKept 5 (some b) w w2)) (fun vu _ => (intOf vu).toNat)
      case atStart => exact ⟨z, [], rfl, hzl, ⟨rfl⟩, ⟨by rw [List.append_nil]; exact HI3.out⟩, HB3, HO3⟩
      case round =>
        obtain ⟨u, q, rfl, hu, hq, hI, hB4, hO4⟩ := hrel
        have hql := Aside0.mk (show (L ++ q).length + 1 ≤ 140737488355328 by
          have h1 := congrArg List.length hq.out
          have h2 := varL_len z
          have h3 := varL_pos u
          have h4 := HLL.out
          rw [List.length_append] at h1 ⊢
          omega)
        have hbw := Aside0.mk (Nat.le_trans hB hB4.out.size)
        by_cases h128 : 128 ≤ u
        · go_wp2_with (first | (go_at_call 78; (with_reducible refine (wb_any B b _ _ _ hI.out (by rw [Lib.byteCells_length]; exact hql.out) hbw.out).mono ?_); rintro e w5 ⟨rfl, h5, hb5, ho5⟩))
          go_roundw
          case rel =>
            refine ⟨u / 128, q ++ [UInt8.ofNat (u % 128 + 128)], by go_num, ⟨by have := hu.out; omega⟩, ⟨?_⟩, ⟨?_⟩, ⟨hB4.out.trans hb5⟩, ⟨hO4.out.trans ho5⟩⟩
            · rw [List.append_assoc, List.singleton_append, ← varL_step u hu.out h128]; exact hq.out
            · rw [or128, byteCells_snoc _ _ (by omega), List.append_assoc] at h5
              exact .inr h5
          case measure => simp [intOf]; omega
        · go_wp2_with (first | (go_at_call 78; (with_reducible refine (wb_any B b _ _ _ hI.out (by rw [Lib.byteCells_length]; exact hql.out) hbw.out).mono ?_); rintro e w5 ⟨rfl, h5, hb5, ho5⟩))
          go_roundw
          case rel =>
            refine ⟨j + 1, by go_num, by omega, ⟨?_⟩, ⟨hB4.out.trans hb5⟩, ⟨hO4.out.trans ho5⟩⟩
            rw [byteCells_snoc _ _ (by omega), List.append_assoc, ← varL_last u (by omega), hq.out, HL.out, HZ.out, HNJ.out] at h5
            rw [List.take_succ_eq_append_getElem hlt, List.flatMap_append, ← List.append_assoc]
            simp only [List.flatMap_cons, List.flatMap_nil, List.append_nil]
            exact .inr h5
          case measure => simp [intOf]; omega
    · go_wp2
      go_end0
      have e : ns.take j = ns := List.take_of_length_le (by omega)
      have hI := HI2.out
      rw [e] at hI
      exact ⟨rfl, hI, HB2.out, HO2.out⟩
end Go.Proofs.YtmaciepkkianhabGreatDoor.H

namespace Go.Proofs.YtmaciepkkianhabGreatDoor.H
open Go.RowKit Go.Proofs Go.Proofs.YtmaciepkkianhabGreatDoorW.PrintWords Go.Proofs.YtmaciepkkianhabGreatDoorW.PrintLast

theorem isW_alloc {B b : Nat} {bs : List Value} {w : World} (h : IsW B b bs w) (o : Obj) : IsW B b bs (w.alloc o) := by
  rcases h with h | h
  · exact .inl (h.alloc _)
  · exact .inr (h.alloc _)
theorem isW_lt {B b : Nat} {bs : List Value} {w : World} (h : IsW B b bs w) : B ≤ b ∧ b < w.heap.size := by
  rcases h with ⟨h, v, hb, _⟩ | ⟨h, v, hb, _⟩
  · exact ⟨h, blk_lt hb⟩
  · exact ⟨h, blk_lt hb⟩
theorem new_ints (w : World) (ns : List Int) : (w.alloc (.cells (ns.map (Value.int .i64)).toArray 3)).heap[w.heap.size]? = some (.cells (ns.map (Value.int .i64)).toArray 3 (0, 0)) := heap_alloc_new w _
set_option maxHeartbeats 8000000 in
set_option maxRecDepth 100000 in
theorem wStr (B b k : Nat) (l : List UInt8) (s : ByteArray) (w : World) (h : IsW B b (Lib.byteCells l) w) (hB : B ≤ w.heap.size) (hb : b < w.heap.size)
    (hk : w.heap[k]? = some (.cells #[.string s] 9 (0, 0))) (hkb : k ≠ b) (hs : s.size ≤ 10000000) (hl : l.length ≤ 50000000) :
    Calls Tryz.prog 55 #[.pointer (some ⟨b, 0, none⟩), .slice (some ⟨k, 0, none⟩) 1 1] w fun e w' =>
      e = .returned (.tuple #[]) ∧ IsW B b (Lib.byteCells (l ++ varL (zigN s.size) ++ s.data.toList)) w' ∧ Below B w w' ∧ Lib.OthersKept 5 (some b) w w' := by
  have HI := Aside0.mk h
  have HK := Aside0.mk hk
  have hc0 : w.cell? ⟨k, 0, none⟩ = some (.string s) := (blk_cell hk 0).trans rfl
  clear h hk
  go_enter Tryz.func55, Tryz.ntmps55
  go_wp2
  refine wp_loop_rounds 2 ?_
  rw [rounds_succ]
  go_wp2_with fail
  refine (wInt B b w.heap.size l [(s.size : Int)] _ (isW_alloc HI.out _) (by simp; omega) (new_ints w [(s.size : Int)]) (by omega) (by intro n hn; simp at hn; omega) (by simp; omega)).mono ?_
  rintro e W1 ⟨rfl, h1, hb1, ho1⟩
  have H1 := Aside0.mk h1
  have HB1 := Aside0.mk (show Below B w W1 from ((Below.refl B w).alloc hB _).trans hb1)
  have HO1 := Aside0.mk (show Lib.OthersKept 5 (some b) w W1 from ((Lib.OthersKept.refl _ _ w).alloc _).trans ho1)
  clear h1 hb1 ho1
  have hlen := Aside0.mk (show (Lib.byteCells (l ++ [(s.size : Int)].flatMap fun n => varL (zigN n))).length + s.size ≤ 140737488355328 by
    have := varL_len (zigN s.size)
    rw [Lib.byteCells_length, List.length_append]
    simp only [List.flatMap_cons, List.flatMap_nil, List.append_nil]
    omega)
  have hbw := Aside0.mk (Nat.le_trans hB HB1.out.size)
  go_wp2_with (first | (go_at_call 82; (with_reducible refine (ws_any B b _ s _ H1.out hlen.out hbw.out).mono ?_); rintro e W2 ⟨rfl, h2, hb2, ho2⟩))
  have hc2 : W2.heap[k]? = some (.cells #[.string s] 9 (0, 0)) := ho2 k _ (HO1.out k _ HK.out (by simpa using hkb) (fun c fz e => by injection e with _ e; exact absurd e (by decide))) (by simpa using hkb) (fun c fz e => by injection e with _ e; exact absurd e (by decide))
  have H2 := Aside0.mk h2
  have HB2 := Aside0.mk (HB1.out.trans hb2)
  have HO2 := Aside0.mk (HO1.out.trans ho2)
  clear h2 hb2 ho2 hc2
  rw [rounds_succ]
  go_wp2
  go_end0
  refine ⟨rfl, ?_, HB2.out, HO2.out⟩
  have h := H2.out
  simp only [List.flatMap_cons, List.flatMap_nil, List.append_nil] at h
  rw [show Lib.strCells s = Lib.byteCells s.data.toList from rfl, ← Lib.byteCells_append] at h
  exact .inr h
/-- A value's bytes. -/
def putB (d n : Int) (t : List UInt8) : List UInt8 := varL (zigN d) ++ varL (zigN n) ++ (varL (zigN t.length) ++ t)
theorem putB_len (d n : Int) (t : List UInt8) : (putB d n t).length ≤ 30 + t.length := by
  have h1 := varL_len (zigN d)
  have h2 := varL_len (zigN n)
  have h3 := varL_len (zigN t.length)
  unfold putB
  simp only [List.length_append]; omega
set_option maxHeartbeats 8000000 in
set_option maxRecDepth 100000 in
theorem wPut (B b : Nat) (l : List UInt8) (d n : Int) (s : ByteArray) (w : World) (h : IsW B b (Lib.byteCells l) w) (hB : B ≤ w.heap.size) (hs : s.size ≤ 10000000) (hl : l.length ≤ 40000000)
    (hd : -9223372036854775808 ≤ d ∧ d ≤ 9223372036854775807) (hn : -9223372036854775808 ≤ n ∧ n ≤ 9223372036854775807) :
    Calls Tryz.prog 21 #[.pointer (some ⟨b, 0, none⟩), .agg #[.int .i64 d, .int .i64 n, .string s]] w fun e w' =>
      e = .returned (.tuple #[]) ∧ IsW B b (Lib.byteCells (l ++ putB d n s.data.toList)) w' ∧ Below B w w' ∧ Lib.OthersKept 5 (some b) w w' := by
  have hu := Tryz.underlying23
  have HI := Aside0.mk h
  have hlt := (isW_lt h).2
  clear h
  go_enter Tryz.func21, Tryz.ntmps21
  go_wp2_with fail
  have hblk0 : ((w.alloc (.cells #[.int .i64 d, .int .i64 n, .string s] 23)).alloc (.cells #[.int .i64 d, .int .i64 n] 3)).heap[w.heap.size]? = some (.cells #[.int .i64 d, .int .i64 n, .string s] 23 (0, 0)) := by
    rw [Lib.alloc_old _ _ _ (by simp)]
    exact heap_alloc_new w _
  refine (wInt B b (w.heap.size + 1) l [d, n] _ (isW_alloc (isW_alloc HI.out _) _) (by simp; omega) (by have := new_ints (w.alloc (.cells #[.int .i64 d, .int .i64 n, .string s] 23)) [d, n]; simpa using this) (by omega) (by intro m hm; simp at hm; rcases hm with rfl | rfl <;> assumption) (by simp; omega)).mono ?_
  rintro e W1 ⟨rfl, h1, hb1, ho1⟩
  have hv : W1.heap[w.heap.size]? = some (.cells #[.int .i64 d, .int .i64 n, .string s] 23 (0, 0)) := ho1 _ _ hblk0 (by simp; omega) (fun c fz e => by injection e with _ e; exact absurd e (by decide))
  have hv2 : W1.cell? ⟨w.heap.size, 2, none⟩ = some (.string s) := (blk_cell hv 2).trans rfl
  have H1 := Aside0.mk h1
  have HB1 := Aside0.mk (show Below B w W1 from (((Below.refl B w).alloc hB _).alloc (by simp; omega) _).trans hb1)
  have HO1 := Aside0.mk (show Lib.OthersKept 5 (some b) w W1 from (((Lib.OthersKept.refl _ _ w).alloc _).alloc _).trans ho1)
  clear h1 hb1 ho1 hv hblk0
  have hlt1 := Aside0.mk (isW_lt H1.out).2
  have hbw := Aside0.mk (Nat.le_trans hB HB1.out.size)
  go_wp2_with fail
  refine (wStr B b W1.heap.size _ s _ (isW_alloc H1.out _) (by have := hbw.out; simp; omega) (by have := hlt1.out; simp; omega) (heap_alloc_new W1 _) (by have := hlt1.out; omega) hs (by
    have h1 := varL_len (zigN d)
    have h2 := varL_len (zigN n)
    simp only [List.flatMap_cons, List.flatMap_nil, List.append_nil, List.length_append]
    omega)).mono ?_
  rintro e W2 ⟨rfl, h2, hb2, ho2⟩
  have H2 := Aside0.mk h2
  have HB2 := Aside0.mk (HB1.out.trans (((Below.refl B W1).alloc hbw.out _).trans hb2))
  have HO2 := Aside0.mk (HO1.out.trans (((Lib.OthersKept.refl _ _ W1).alloc _).trans ho2))
  clear h2 hb2 ho2
  go_wp2
  go_end0
  refine ⟨rfl, ?_, HB2.out, HO2.out⟩
  have h := H2.out
  simp only [List.flatMap_cons, List.flatMap_nil, List.append_nil] at h
  have e : l ++ putB d n s.data.toList = l ++ (varL (zigN d) ++ varL (zigN n)) ++ varL (zigN s.size) ++ s.data.toList := by
    unfold putB
    rw [show s.data.toList.length = s.size from Array.length_toList]
    simp only [List.append_assoc]
  rw [e]
  exact h
end Go.Proofs.YtmaciepkkianhabGreatDoor.H

namespace Go.Proofs.YtmaciepkkianhabGreatDoor.H
open Go.RowKit Go.Proofs Go.Proofs.YtmaciepkkianhabGreatDoorW.PrintWords Go.Proofs.YtmaciepkkianhabGreatDoorW.PrintLast Go.Proofs.YtmaciepkkianhabGreatDoor.QRows

abbrev putS (x : S23) : List UInt8 := putB x.f0 x.f1 x.f2.data.toList
def rowsB (l : List S23) : List UInt8 := l.flatMap putS
/-- The values of a row are small: what the law lets in. -/
def small (l : List S23) : Prop := l.length ≤ 30 ∧ ∀ x ∈ l, x.f2.size ≤ 200 ∧ (-9223372036854775808 ≤ x.f0 ∧ x.f0 ≤ 9223372036854775807) ∧ (-9223372036854775808 ≤ x.f1 ∧ x.f1 ≤ 9223372036854775807)
theorem rowsB_len (l : List S23) (h : ∀ x ∈ l, x.f2.size ≤ 200) : (rowsB l).length ≤ 230 * l.length := by
  induction l with
  | nil => simp [rowsB]
  | cons x q ih =>
    have h1 : (putS x).length ≤ 30 + x.f2.data.toList.length := putB_len x.f0 x.f1 x.f2.data.toList
    have h2 := h x (by simp)
    have h3 := ih (fun y hy => h y (by simp [hy]))
    have h4 : x.f2.data.toList.length = x.f2.size := Array.length_toList
    show (putS x ++ rowsB q).length ≤ 230 * (q.length + 1)
    rw [List.length_append]
    omega
theorem rowsB_take (l : List S23) (j : Nat) (h : j < l.length) : rowsB (l.take (j + 1)) = rowsB (l.take j) ++ putS l[j] := by
  rw [List.take_succ_eq_append_getElem h]
  unfold rowsB
  rw [List.flatMap_append]; simp
theorem rd_at_ (l : List S23) (i : Nat) (h : i < l.length) : rd_T23 l (i : Int) = l[i] := by
  unfold rd_T23
  rw [Int.toNat_natCast, List.getD_eq_getElem?_getD, List.getElem?_eq_getElem h]
  rfl
set_option maxHeartbeats 1000000 in
set_option maxRecDepth 100000 in
theorem wBytes (B b : Nat) (l : List UInt8) (w : World) (h : IsW B b (Lib.byteCells l) w) (h0 : l ≠ []) :
    Calls Tryz.prog 26 #[.pointer (some ⟨b, 0, none⟩)] w fun e w' => e = .returned (.string ⟨l.toArray⟩) ∧ Below B w w' := by
  have HI := Aside0.mk h
  clear h
  go_enter Tryz.func26, Tryz.ntmps26
  go_wp2_with (first | (go_at_call 61; (with_reducible refine (str_some B b l _ HI.out h0).mono ?_); rintro e w1 ⟨rfl, hb⟩))
  go_ret
  exact ⟨rfl, hb⟩
set_option maxHeartbeats 8000000 in
set_option maxRecDepth 100000 in
theorem wRow (A : Option Addr) (c : Nat) (l : List S23) (w : World) (hr : Kd.C k23 w A l.length l) (hs : small l) :
    Calls Tryz.prog 16 #[.slice A l.length c] w fun e w' => e = .returned (.string ⟨(varL (zigN l.length) ++ rowsB l).toArray⟩) ∧ Below w.heap.size w w' := by
  have hu := Tryz.underlying23
  have hu2 := Tryz.underlying49
  have HR := Aside0.mk hr
  have HS := Aside0.mk hs
  have hl30 : l.length ≤ 30 := hs.1
  clear hr hs
  go_enter Tryz.func16, Tryz.ntmps16
  go_wp2_with fail
  have hw0 : IsW w.heap.size w.heap.size (Lib.byteCells []) (w.alloc (.cells #[.pointer none, .slice none 0 0] 49)) := Lib.IsBuilderF.of (by show Lib.IsBuilder 49 5 _ _ [] _; exact Lib.fresh_isBuilder 49 5 w)
  refine (wInt w.heap.size w.heap.size (w.heap.size + 1) [] [(l.length : Int)] _ (isW_alloc hw0 _) (by simp; omega) (by have := new_ints (w.alloc (.cells #[.pointer none, .slice none 0 0] 49)) [(l.length : Int)]; simpa using this) (by omega) (by intro m hm; have := HS.out.1; simp at hm; omega) (by simp)).mono ?_
  rintro e W1 ⟨rfl, h1, hb1, -⟩
  have H1 := Aside0.mk (show IsW w.heap.size w.heap.size (Lib.byteCells (varL (zigN l.length) ++ rowsB (l.take 0))) W1 from by simpa [rowsB] using h1)
  have HB1 := Aside0.mk (show Below w.heap.size w W1 from (((Below.refl _ w).alloc (Nat.le_refl _) _).alloc (by simp) _).trans hb1)
  clear h1 hb1 hw0
  go_wp2
  go_loopw [15] (fun vi wr => ∃ j : Nat, vi = .int .i64 j ∧ j ≤ l.length ∧ Aside0 (IsW w.heap.size w.heap.size (Lib.byteCells (varL (zigN l.length) ++ rowsB (l.take j))) wr) ∧ Aside0 (Below w.heap.size w wr)) (fun vi _ => l.length - (intOf vi).toNat)
  case atStart => exact ⟨0, rfl, Nat.zero_le _, H1, HB1⟩
  case round =>
    obtain ⟨j, rfl, hj, HI, HB⟩ := hrel
    by_cases hlt : j < l.length
    · obtain ⟨ad, hA, k0, k1, k2⟩ := at_T23 (Kd.C_below HR.out HB.out) (j : Int) (by omega) (by omega)
      rw [rd_at_ l j hlt, Int.toNat_natCast] at k0 k1 k2
      have hx := HS.out.2 _ (List.getElem_mem hlt)
      have HE := Aside0.mk (rowsB_take l j hlt)
      obtain ⟨x, hx0⟩ : ∃ x, x = l[j] := ⟨_, rfl⟩
      rw [← hx0] at k0 k1 k2 hx
      have HX := Aside0.mk hx
      have HX0 := Aside0.mk hx0
      have HA := Aside0.mk hA
      clear hx hx0
      subst hA
      have hbw := Aside0.mk HB.out.size
      have hll := Aside0.mk (show (varL (zigN l.length) ++ rowsB (l.take j)).length ≤ 40000000 by
        have h1 := varL_len (zigN l.length)
        have h2 := rowsB_len (l.take j) (fun y hy => (HS.out.2 y (List.mem_of_mem_take hy)).1)
        have h3 := HS.out.1
        rw [List.length_take] at h2
        rw [List.length_append]; omega)
      go_wp2_with fail
      refine (wPut w.heap.size w.heap.size _ x.f0 x.f1 x.f2 _ (isW_alloc HI.out _) (by have := hbw.out; simp; omega) (by have := HX.out.1; omega) hll.out HX.out.2.1 HX.out.2.2).mono ?_
      rintro e W2 ⟨rfl, h2, hb2, -⟩
      have H2 := Aside0.mk h2
      have HB2 := Aside0.mk (show Below w.heap.size w W2 from (HB.out.alloc hbw.out _).trans hb2)
      clear h2 hb2 k0 k1 k2
      go_wp2
      go_roundw
      case rel =>
        refine ⟨j + 1, by go_num, by omega, ⟨?_⟩, HB2⟩
        rw [HE.out, ← HX0.out, ← List.append_assoc]
        exact H2.out
      case measure => simp [intOf]; omega
    · have e : l.take j = l := List.take_of_length_le (by omega)
      rw [e] at HI
      have h0 := Aside0.mk (show varL (zigN l.length) ++ rowsB l ≠ [] by
        intro e0
        have := congrArg List.length e0
        have h1 := varL_pos (zigN l.length)
        rw [List.length_append, List.length_nil] at this
        omega)
      go_wp2_with (first | (go_at_call 26; (with_reducible refine (wBytes w.heap.size w.heap.size _ _ HI.out h0.out).mono ?_); rintro e w1 ⟨rfl, hb⟩))
      go_ret
      exact ⟨rfl, HB.out.trans hb⟩
end Go.Proofs.YtmaciepkkianhabGreatDoor.H

namespace Go.Proofs.YtmaciepkkianhabGreatDoor.QRows
open Go.Proofs.YtmaciepkkianhabGreatDoor.H
attribute [local go_sem] ite_signed_u64 ite_signed_u32
open Go.RowKit Go.Proofs.YtmaciepkkianhabGreatDoorW.PrintWords Go.Proofs.YtmaciepkkianhabGreatDoorW.PrintLast Go.Proofs.YtmaciepkkianhabGreatDoorW.PrintMore
attribute [local go_sem] max2_int min2_int max_two min_two max_three min_three max_four min_four   -- for this text's walks alone
set_option linter.unusedVariables false
set_option linter.unusedSimpArgs false

/-! ### mortmainlaw03_great: function 10 -/
def mortmainlaw03_great.l0 : Nat → List (S23) → List (S23) → Int → Int → Option (Bool)
  | 0, _, _, _, _ => none
  | k + 1, x0, x5, x6, x7 => if x7 < x6 then (if 0 ≤ x7 then (if x7 < (x5.length : Int) then (if (((rd_T23 x5 x7).f2).size : Int) > 200 then (some true) else (mortmainlaw03_great.l0 k x0 x5 x6 (wrap64 (x7 + 1)))) else (none)) else (none)) else (some (decide ((x0.length : Int) > 30)))
def mortmainlaw03_great.f (k : Nat) (l0 : List (S23)) : Option (Bool) := mortmainlaw03_great.l0 k l0 l0 (l0.length : Int) 0
set_option maxHeartbeats 8000000 in
set_option maxRecDepth 100000 in
theorem mortmainlaw03_great.calls (k : Nat) (A0 : Option Addr) (c0 : Nat) (l0 : List (S23)) (r : Bool) (w : World) (hr0 : Kd.C k23 w A0 l0.length l0) (hc0 : l0.length ≤ c0) (h : mortmainlaw03_great.f k l0 = some r) :
    Calls Tryz.prog 10 #[.slice A0 l0.length c0] w fun e w' => e = .returned (.bool r) ∧ Below w.heap.size w w' := by
  have hu23 := Tryz.underlying23
  have HR0 := Aside0.mk hr0
  have HC0 := Aside0.mk hc0
  clear hr0 hc0
  have HB := Aside0.mk (Below.refl w.heap.size w)
  have H : (mortmainlaw03_great.l0 k l0 l0 (l0.length : Int) 0) = some r := h
  clear h
  have H' := Aside0.mk H
  clear H
  go_enter Tryz.func10, Tryz.ntmps10
  go_wp2
  go_loopg [7] k (fun kq v7 w' => ∃ (x7_1 : Int), v7 = .int .i64 x7_1 ∧ Aside0 (mortmainlaw03_great.l0 kq l0 l0 (l0.length : Int) x7_1 = some r) ∧ Aside0 (kq ≤ k) ∧ Aside0 (Below w.heap.size w w'))
  case atStart => exact ⟨(0), (by first | rfl | (simp; done) | (simp [*]; done) | (generalize ByteArray.toList _ = l_; cases l_ <;> rfl)), H', ⟨Nat.le_refl _⟩, ⟨by repeat (first | (with_reducible first | exact HB.out | apply below_alloc | apply pw_below_drewN | apply below_drew1) | exact HB.out)⟩⟩
  case round =>
    clear H'
    try clear c1
    obtain ⟨x7_1, rfl, HA, HK1, HB⟩ := hrel
    cases gk with
    | zero => exact absurd HA.out (by simp [mortmainlaw03_great.l0])
    | succ k1 =>
      have H := HA.out
      clear HA
      simp only [mortmainlaw03_great.l0] at H
      by_cases c2 : x7_1 < (l0.length : Int)
      · rw [if_pos c2] at H
        have c2b0 : decide (x7_1 < (l0.length : Int)) = true := decide_eq_true c2
        clear c2
        by_cases c3 : 0 ≤ x7_1
        · rw [if_pos c3] at H
          have c3b0 : decide (0 ≤ x7_1) = true := decide_eq_true c3
          clear c3
          by_cases c4 : x7_1 < (l0.length : Int)
          · rw [if_pos c4] at H
            have c4b0 : decide (x7_1 < (l0.length : Int)) = true := decide_eq_true c4
            clear c4
            by_cases c5 : (((rd_T23 l0 x7_1).f2).size : Int) > 200
            · rw [if_pos c5] at H
              have c5b0 : decide (200 < (((rd_T23 l0 x7_1).f2).size : Int)) = true := decide_eq_true c5
              have c5b1 : decide (200 < ((rd_T23 l0 x7_1).f2).size) = true := decide_eq_true (by omega)
              clear c5
              obtain rfl := Option.some.inj H
              have p273 : 0 ≤ (x7_1 : Int) := of_decide_eq_true (by first | (with_reducible assumption) | assumption)
              have q273 : x7_1 < (l0.length : Int) := of_decide_eq_true (by first | (with_reducible assumption) | assumption)
              obtain ⟨ad273, e273, hx273_0, hx273_1, hx273_2⟩ := at_T23 HR0.out x7_1 p273 q273
              cases e273
              replace hx273_0 := (HB.out.cell (World.block_lt_of_cell? w _ hx273_0)).trans hx273_0
              replace hx273_1 := (HB.out.cell (World.block_lt_of_cell? w _ hx273_1)).trans hx273_1
              replace hx273_2 := (HB.out.cell (World.block_lt_of_cell? w _ hx273_2)).trans hx273_2
              replace p273 := eq_true p273
              replace q273 := eq_true q273
              go_wp2_with (first | ((with_reducible refine gate_dst (N := 4) rfl ?_); refine box_event ?hg (N := 4) ?hd (cs := #[.int .i64 0, .int .i64 0, .string (⟨#[]⟩ : ByteArray)]) (t := 23) ?hr ?_; (case hd => rfl); (case hg => rfl); (case hr => first | (go_simp; done) | (go_simp; rfl)); intro gb274 hg w6 hbox hb; have n0_ := Aside0.mk (below_step (by repeat (first | (with_reducible first | exact HB.out | apply below_alloc | apply pw_below_drewN | apply below_drew1) | exact HB.out)) hb); have n1_ := Aside0.mk (hbox); have n2_ := Aside0.mk ((by rw [hg]; exact (below_size (by repeat (first | (with_reducible first | exact HB.out | apply below_alloc | apply pw_below_drewN | apply below_drew1) | exact HB.out))) : w.heap.size ≤ gb274)); have n3_ := Aside0.mk ((by rw [hg]; exact (below_size (by repeat (first | (with_reducible first | exact HB.out | apply below_alloc | apply pw_below_drewN | apply below_drew1) | exact HB.out))) : w.heap.size ≤ gb274)); clear HB; have HB := n0_; have BK274 := n1_; have GW274 := n2_; have GE274 := n3_; clear n0_ n1_ n2_ n3_; clear hb hbox hg; have hcz7_0 : w6.cell? ⟨gb274, 0, none⟩ = some (.int .i64 0) := (blk_cell BK274.out 0).trans rfl; have hcz7_1 : w6.cell? ⟨gb274, 1, none⟩ = some (.int .i64 0) := (blk_cell BK274.out 1).trans rfl; have hcz7_2 : w6.cell? ⟨gb274, 2, none⟩ = some (.string (⟨#[]⟩ : ByteArray)) := (blk_cell BK274.out 2).trans rfl; have hfz7_0 := blk_frozen BK274.out 0; have hfz7_1 := blk_frozen BK274.out 1; have hfz7_2 := blk_frozen BK274.out 2))
              go_ret
              exact ⟨by first | rfl | (simp [errW_none, errW_some] <;> rfl) | (simp [*, errW_none, errW_some] <;> rfl), by repeat (first | (with_reducible first | exact HB.out | apply below_alloc | apply pw_below_drewN | apply below_drew1 | refine below_set ?_ GE274.out) | exact HB.out)⟩
            · rw [if_neg c5] at H
              have c5b0 : decide (200 < (((rd_T23 l0 x7_1).f2).size : Int)) = false := decide_eq_false c5
              have c5b1 : decide (200 < ((rd_T23 l0 x7_1).f2).size) = false := decide_eq_false (by omega)
              clear c5
              have H' := Aside0.mk H
              clear H
              have p273 : 0 ≤ (x7_1 : Int) := of_decide_eq_true (by first | (with_reducible assumption) | assumption)
              have q273 : x7_1 < (l0.length : Int) := of_decide_eq_true (by first | (with_reducible assumption) | assumption)
              obtain ⟨ad273, e273, hx273_0, hx273_1, hx273_2⟩ := at_T23 HR0.out x7_1 p273 q273
              cases e273
              replace hx273_0 := (HB.out.cell (World.block_lt_of_cell? w _ hx273_0)).trans hx273_0
              replace hx273_1 := (HB.out.cell (World.block_lt_of_cell? w _ hx273_1)).trans hx273_1
              replace hx273_2 := (HB.out.cell (World.block_lt_of_cell? w _ hx273_2)).trans hx273_2
              replace p273 := eq_true p273
              replace q273 := eq_true q273
              go_wp2_with (first | ((with_reducible refine gate_dst (N := 4) rfl ?_); refine box_event ?hg (N := 4) ?hd (cs := #[.int .i64 0, .int .i64 0, .string (⟨#[]⟩ : ByteArray)]) (t := 23) ?hr ?_; (case hd => rfl); (case hg => rfl); (case hr => first | (go_simp; done) | (go_simp; rfl)); intro gb274 hg w8 hbox hb; have n0_ := Aside0.mk (below_step (by repeat (first | (with_reducible first | exact HB.out | apply below_alloc | apply pw_below_drewN | apply below_drew1) | exact HB.out)) hb); have n1_ := Aside0.mk (hbox); have n2_ := Aside0.mk ((by rw [hg]; exact (below_size (by repeat (first | (with_reducible first | exact HB.out | apply below_alloc | apply pw_below_drewN | apply below_drew1) | exact HB.out))) : w.heap.size ≤ gb274)); have n3_ := Aside0.mk ((by rw [hg]; exact (below_size (by repeat (first | (with_reducible first | exact HB.out | apply below_alloc | apply pw_below_drewN | apply below_drew1) | exact HB.out))) : w.heap.size ≤ gb274)); clear HB; have HB := n0_; have BK274 := n1_; have GW274 := n2_; have GE274 := n3_; clear n0_ n1_ n2_ n3_; clear hb hbox hg; have hcz9_0 : w8.cell? ⟨gb274, 0, none⟩ = some (.int .i64 0) := (blk_cell BK274.out 0).trans rfl; have hcz9_1 : w8.cell? ⟨gb274, 1, none⟩ = some (.int .i64 0) := (blk_cell BK274.out 1).trans rfl; have hcz9_2 : w8.cell? ⟨gb274, 2, none⟩ = some (.string (⟨#[]⟩ : ByteArray)) := (blk_cell BK274.out 2).trans rfl; have hfz9_0 := blk_frozen BK274.out 0; have hfz9_1 := blk_frozen BK274.out 1; have hfz9_2 := blk_frozen BK274.out 2))
              go_roundg k1
              case measure => have := HK1.out; omega
              case rel => exact ⟨(wrap64 (x7_1 + 1)), (by first | rfl | (simp; done) | (simp [*]; done) | (generalize ByteArray.toList _ = l_; cases l_ <;> rfl)), H', ⟨by have := HK1.out; omega⟩, ⟨by repeat (first | (with_reducible first | exact HB.out | apply below_alloc | apply pw_below_drewN | apply below_drew1 | refine below_set ?_ GE274.out) | exact HB.out)⟩⟩
          · rw [if_neg c4] at H
            exact absurd H (by simp)
        · rw [if_neg c3] at H
          exact absurd H (by simp)
      · rw [if_neg c2] at H
        have c2b0 : decide (x7_1 < (l0.length : Int)) = false := decide_eq_false c2
        clear c2
        obtain rfl := Option.some.inj H
        go_wp2
        go_ret
        exact ⟨by first | rfl | (simp [errW_none, errW_some] <;> rfl) | (simp [*, errW_none, errW_some] <;> rfl), by repeat (first | (with_reducible first | exact HB.out | apply below_alloc | apply pw_below_drewN | apply below_drew1) | exact HB.out)⟩

end Go.Proofs.YtmaciepkkianhabGreatDoor.QRows

set_option linter.unusedSimpArgs false
namespace Go.Proofs.YtmaciepkkianhabGreatDoor.M
open Go.RowKit Go.Proofs.YtmaciepkkianhabGreatDoor.H Go.Proofs.YtmaciepkkianhabGreatDoor.QRows Go.Proofs.YtmaciepkkianhabGreatDoorW.PrintWords Go.Proofs.YtmaciepkkianhabGreatDoorW.PrintMore

theorem ob (x : Nat) (h : x < 256) : (UInt8.ofNat x).toNat = x := by simp; omega
theorem rd_var (r : List UInt8) : ∀ (k i acc u : Nat), k + i = 9 → u * 128 ^ i < 18446744073709551616 → (i = 0 ∨ 0 < u) → rdF i acc (varF k u ++ r) = some (acc + u * 128 ^ i, r)
  | 0, i, acc, u, hk, hu, h0 => by
    obtain rfl : i = 9 := by omega
    have h1 : u ≤ 1 := by
      have e : (128 : Nat) ^ 9 = 9223372036854775808 := by decide
      omega
    rw [varF, List.singleton_append, rdF, ob u (by omega), if_neg (by omega), if_neg (by omega), if_pos (by omega), if_neg (by omega), Nat.mod_eq_of_lt (by omega)]
  | k + 1, i, acc, u, hk, hu, h0 => by
    rw [varF]
    by_cases h : 128 ≤ u
    · rw [if_pos h, List.cons_append, rdF, ob _ (by omega), if_neg (by omega), if_neg (by omega), if_neg (by omega)]
      have e : u / 128 * 128 ^ (i + 1) + u % 128 * 128 ^ i = u * 128 ^ i := by
        rw [Nat.pow_succ, Nat.mul_comm (128 ^ i) 128, ← Nat.mul_assoc, ← Nat.add_mul]
        congr 1; omega
      rw [rd_var r k (i + 1) _ (u / 128) (by omega) (by omega) (.inr (by omega)), show (u % 128 + 128) % 128 = u % 128 by omega]
      congr 2
      omega
    · rw [if_neg h, List.singleton_append, rdF, ob u (by omega), if_neg (by omega), if_neg (by omega), if_pos (by omega), if_neg (by omega), Nat.mod_eq_of_lt (by omega)]
theorem sgn_zig (n : Int) : sgn (zigN n) = n := by unfold sgn zigN; split <;> split <;> omega
theorem aInt_zig (n : Int) (h : I n) (r : List UInt8) : aInt (some (varL (zigN n) ++ r)) = (n, some r) := by
  have h1 := rd_var r 9 0 0 (zigN n) rfl (by have := zigN_lt n h; simpa using this) (.inl rfl)
  rw [Nat.pow_zero, Nat.mul_one, Nat.zero_add] at h1
  show aInt (some (varF 9 (zigN n) ++ r)) = _
  rw [aInt_some h1, sgn_zig]
theorem aStr_zig (t r : List UInt8) (h : t.length ≤ 100000) : aStr (some (varL (zigN t.length) ++ (t ++ r))) = (t, some r) := by
  unfold aStr
  rw [aInt_zig _ ⟨by omega, by omega⟩]
  unfold aCut
  simp only
  rw [if_neg (by rw [List.length_append]; omega), Int.toNat_natCast, List.take_left, List.drop_left]
abbrev vS (x : S23) : Val := V x.f0 x.f1 x.f2
def okS (x : S23) : Prop := x.f2.size ≤ 200 ∧ I x.f0 ∧ I x.f1
theorem aTake_put (x : S23) (h : okS x) (r : List UInt8) : aTake (some (putS x ++ r)) = if good (vS x) then (vS x, some r) else ((0, 0, []), none) := by
  obtain ⟨h1, h2, h3⟩ := h
  have hs : x.f2.data.toList.length ≤ 100000 := by rw [← Sz]; omega
  have e0 : putS x ++ r = varL (zigN x.f0) ++ (varL (zigN x.f1) ++ (varL (zigN x.f2.data.toList.length) ++ (x.f2.data.toList ++ r))) := by
    unfold putS putB
    simp only [List.append_assoc]
  rw [e0]
  unfold aTake
  rw [aInt_zig _ h2]
  simp only
  rw [aInt_zig _ h3]
  simp only
  rw [aStr_zig _ _ hs]
theorem by1 (x : Int) (h0 : 0 ≤ x) (h1 : x < 256) : strOfNums [x % 256] = B [UInt8.ofNat x.toNat] := by
  rw [Int.emod_eq_of_lt h0 h1]; rfl
theorem int_l : ∀ (j u k : Nat) (acc : List UInt8), u < 128 ^ (j + 1) → u < 18446744073709551616 → j ≤ 9 → j + 1 ≤ k → acc.length + j ≤ 1000000 →
    mortmainref01_Int.l0 k (u : Int) (B acc) = some (B (acc ++ varF j u))
  | 0, u, k, acc, hu, hm, hj, hk, ha => by
    obtain ⟨k, rfl⟩ : ∃ m, k = m + 1 := ⟨k - 1, by omega⟩
    rw [mortmainref01_Int.l0, if_neg (by omega), Option.bind_some, by1 _ (by omega) (by omega), B_size, B_size, if_pos (by simp; omega), B_append, varF, Int.toNat_natCast]
  | j + 1, u, k, acc, hu, hm, hj, hk, ha => by
    obtain ⟨k, rfl⟩ : ∃ m, k = m + 1 := ⟨k - 1, by omega⟩
    rw [mortmainref01_Int.l0, varF]
    by_cases h : 128 ≤ u
    · have e1 : IntKind.u64.wrap (128 + Int.tmod (u : Int) 128) = ((u % 128 + 128 : Nat) : Int) := by
        rw [wrap_u64, Int.tmod_eq_emod_of_nonneg (by omega)]; omega
      have e2 : IntKind.u64.wrap (Int.tdiv (u : Int) 128) = ((u / 128 : Nat) : Int) := by
        rw [wrap_u64, Int.tdiv_eq_ediv_of_nonneg (by omega)]; omega
      rw [if_pos (by omega), Option.bind_some, e1, e2, by1 _ (by omega) (by omega), B_size, B_size, if_pos (by simp; omega), B_append, if_pos h, Int.toNat_natCast]
      rw [int_l j (u / 128) k _ (by rw [Nat.pow_succ] at hu; omega) (by omega) (by omega) (by omega) (by simp; omega)]
      rw [List.append_assoc]; rfl
    · rw [if_neg (by omega), Option.bind_some, by1 _ (by omega) (by omega), B_size, B_size, if_pos (by simp; omega), B_append, if_neg h, Int.toNat_natCast]
theorem plain_f (n : Int) (h : I n) : mortmainref01_Plain.f n = some (zigN n : Int) := by
  unfold mortmainref01_Plain.f zigN
  have ⟨h1, h2⟩ := h
  by_cases h0 : 0 ≤ n
  · rw [if_pos h0, if_pos h0, wrap_u64, wrap_u64]
    congr 1; omega
  · rw [if_neg (by omega), if_neg h0, w64 (n + 1) (by omega), w64 _ (by omega), wrap_u64, wrap_u64, wrap_u64]
    congr 1; omega
theorem int_f (n : Int) (h : I n) (k : Nat) (hk : 20 ≤ k) : mortmainref01_Int.f k n = some (B (varL (zigN n))) := by
  unfold mortmainref01_Int.f
  have hz := zigN_lt n h
  rw [plain_f n h, Option.bind_some]
  exact int_l 9 (zigN n) k [] (Nat.lt_of_lt_of_le hz (by decide)) hz (by decide) (by omega) (by decide)
theorem str_f (t : ByteArray) (h : t.size ≤ 1000000) (k : Nat) (hk : 20 ≤ k) : mortmainref01_Str.f k t = some (B (varL (zigN t.data.toList.length) ++ t.data.toList)) := by
  unfold mortmainref01_Str.f
  have hz := Sz t
  have hv := varL_len (zigN t.data.toList.length)
  rw [hz, int_f _ ⟨by omega, by omega⟩ k hk, Option.bind_some, B_size, if_pos (by omega)]
  exact congrArg some (B_append _ t.data.toList)
theorem bytes_f (x : S23) (h : okS x) (k : Nat) (hk : 20 ≤ k) : mortmainref03_Bytes.f k x.f0 x.f1 x.f2 = some (B (putS x)) := by
  obtain ⟨h1, h2, h3⟩ := h
  unfold mortmainref03_Bytes.f
  have v0 := varL_len (zigN x.f0)
  have v1 := varL_len (zigN x.f1)
  have v2 := varL_len (zigN x.f2.data.toList.length)
  have hz := Sz x.f2
  rw [int_f _ h2 k hk, Option.bind_some, int_f _ h3 k hk, Option.bind_some, B_size, B_size, if_pos (by omega), str_f _ (by omega) k hk, Option.bind_some, B_size, if_pos (by rw [List.length_append]; omega), B_append, B_append]
  rfl
theorem small_ok {l : List S23} (h : small l) : ∀ x ∈ l, okS x := h.2
theorem row_l (l : List S23) (h : small l) (H : List UInt8) (hH : H.length ≤ 100) : ∀ (m i k : Nat), i + m = l.length → m + 22 ≤ k →
    mortmainref03_Row.l0 k (B (H ++ rowsB (l.take i))) l (l.length : Int) (i : Int) = some (B (H ++ rowsB l))
  | 0, i, k, hi, hk => by
    obtain ⟨k, rfl⟩ : ∃ m, k = m + 1 := ⟨k - 1, by omega⟩
    rw [mortmainref03_Row.l0, if_neg (by omega), List.take_of_length_le (by omega)]
  | m + 1, i, k, hi, hk => by
    obtain ⟨k, rfl⟩ : ∃ m, k = m + 1 := ⟨k - 1, by omega⟩
    have hx := small_ok h _ (List.getElem_mem (show i < l.length by omega))
    have h1 := rowsB_len (l.take i) (fun y hy => (h.2 y (List.mem_of_mem_take hy)).1)
    have h2 : (putS l[i]).length ≤ 30 + (l[i]).f2.data.toList.length := putB_len _ _ _
    have h3 := hx.1
    have h4 := h.1
    rw [Sz] at h3
    rw [List.length_take] at h1
    rw [mortmainref03_Row.l0, if_pos (by omega), if_pos (by omega), if_pos (by omega), rd_at_ l i (by omega), bytes_f _ hx k (by omega), Option.bind_some, B_size, B_size, if_pos (by rw [List.length_append]; omega), B_append, List.append_assoc, ← rowsB_take l i (by omega), w64 _ (by omega)]
    exact row_l l h H hH m (i + 1) k (by omega) (by omega)
theorem row_f (l : List S23) (h : small l) (k : Nat) (hk : 60 ≤ k) : mortmainref03_Row.f k l = some (B (varL (zigN l.length) ++ rowsB l)) := by
  unfold mortmainref03_Row.f
  have h4 := h.1
  have hv := varL_len (zigN l.length)
  rw [int_f _ ⟨by omega, by omega⟩ k (by omega), Option.bind_some]
  have := row_l l h (varL (zigN l.length)) (by omega) l.length 0 k (by omega) (by omega)
  rw [List.take_zero, show rowsB ([] : List S23) = [] from rfl, List.append_nil] at this
  exact this
theorem great_l (l : List S23) (hl : l.length ≤ 9223372036854775807) : ∀ (m i k : Nat), i + m = l.length → m + 1 ≤ k →
    mortmainlaw03_great.l0 k l l (l.length : Int) (i : Int) = some ((l.drop i).any (fun x => decide ((x.f2.size : Int) > 200)) || decide ((l.length : Int) > 30))
  | 0, i, k, hi, hk => by
    obtain ⟨k, rfl⟩ : ∃ j, k = j + 1 := ⟨k - 1, by omega⟩
    rw [mortmainlaw03_great.l0, if_neg (by omega), List.drop_of_length_le (by omega)]
    simp
  | m + 1, i, k, hi, hk => by
    obtain ⟨k, rfl⟩ : ∃ j, k = j + 1 := ⟨k - 1, by omega⟩
    rw [mortmainlaw03_great.l0, if_pos (by omega), if_pos (by omega), if_pos (by omega), rd_at_ l i (by omega), List.drop_eq_getElem_cons (by omega), List.any_cons]
    by_cases h : ((l[i]).f2.size : Int) > 200
    · rw [if_pos h, decide_eq_true h]; simp
    · rw [if_neg h, decide_eq_false h, Bool.false_or, w64 _ (by omega)]
      exact great_l l hl m (i + 1) k (by omega) (by omega)
theorem great_f (k : Nat) (l : List S23) (hl : l.length ≤ 9223372036854775807) (hk : l.length + 1 ≤ k) : mortmainlaw03_great.f k l = some (l.any (fun x => decide ((x.f2.size : Int) > 200)) || decide ((l.length : Int) > 30)) := by
  unfold mortmainlaw03_great.f
  have := great_l l hl l.length 0 k (by omega) hk
  rw [List.drop_zero] at this
  exact this
theorem great_small {l : List S23} (h : (l.any (fun x => decide ((x.f2.size : Int) > 200)) || decide ((l.length : Int) > 30)) = false) (hi : ∀ x ∈ l, I x.f1 ∧ I x.f0) : small l := by
  rw [Bool.or_eq_false_iff] at h
  obtain ⟨h1, h2⟩ := h
  rw [List.any_eq_false] at h1
  have h2 := of_decide_eq_false h2
  refine ⟨by omega, fun x hx => ⟨?_, (hi x hx).2, (hi x hx).1⟩⟩
  have := h1 x hx
  simp only [decide_eq_true_eq] at this
  omega
end Go.Proofs.YtmaciepkkianhabGreatDoor.M
