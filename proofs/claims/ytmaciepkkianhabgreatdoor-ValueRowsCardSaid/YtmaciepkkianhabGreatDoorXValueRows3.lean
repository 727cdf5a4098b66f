/- The law mortmainlaw03.ValueRows: its row and its card, out of the walk (printed) and the plain fact that it answers true. Written by rowgen.py, this claim's own program. Lean checks it. -/
import Derived.Test.YtmaciepkkianhabGreatDoorXValueRows0
import Derived.Test.YtmaciepkkianhabGreatDoorXValueRows1
import Derived.Test.YtmaciepkkianhabGreatDoorXValueRows2
import Derived.Deep.QuietTactic
import Derived.BigQuiet
import Derived.WalkSpells
import Derived.Deep.RegionHeld3
import Derived.Deep.RegionWith
import Derived.Shaped
import Derived.Lay
import Derived.Deep.DeepHandedRow
import Derived.Deep.Slices
import Derived.OpenShut
import Derived.Lib.SmallJoins
import Derived.ProofKit
import Derived.Test.YtmaciepkkianhabGreatDoorCards
import Derived.Test.YtmaciepkkianhabGreatDoorTie
import Derived.WalkKit
import Derived.ShutString
import Derived.ChangeOld
import Derived.Below
import Derived.SizedLaws
import Derived.Carry
import Derived.Lib.LaidTab
import Derived.Shelf.Vars
import Derived.Lib.LaidU8
import Derived.Laws.Cover2
namespace Go.Proofs.YtmaciepkkianhabGreatDoor.M
open Go.RowKit Go.Proofs.YtmaciepkkianhabGreatDoor.H Go.Proofs.YtmaciepkkianhabGreatDoor.QRows Go.Proofs.YtmaciepkkianhabGreatDoorW.PrintWords Go.Proofs.YtmaciepkkianhabGreatDoorW.PrintLast Go.Proofs.YtmaciepkkianhabGreatDoorW.PrintMore

set_option maxHeartbeats 8000000 in
set_option maxRecDepth 100000 in
theorem vrows_great (A : Option Addr) (c : Nat) (l : List S23) (s : ByteArray) (w : World) (hT : Tabs w) (hr : Kd.C k23 w A l.length l) (hc : l.length ≤ c) (hl : l.length ≤ 9223372036854775807)
    (hg : (l.any (fun x => decide ((x.f2.size : Int) > 200)) || decide ((l.length : Int) > 30)) = true ∨ (s.size : Int) > 1024) :
    Calls Tryz.prog 6 #[.slice A l.length c, .string s] w fun e w' => e = .returned (.bool true) ∧ Below w.heap.size w w' := by
  have HT := Aside0.mk hT
  have HR := Aside0.mk hr
  have HC := Aside0.mk hc
  have HA := Aside0.mk (alive3_f 0)
  obtain ⟨g, hgr⟩ : ∃ g, g = (l.any (fun x => decide ((x.f2.size : Int) > 200)) || decide ((l.length : Int) > 30)) := ⟨_, rfl⟩
  have HG := Aside0.mk (show mortmainlaw03_great.f (l.length + 1) l = some g by rw [great_f _ l hl (Nat.le_refl _), hgr])
  rw [← hgr] at hg
  clear hT hr hc hl hgr
  cases g with
  | true =>
    clear hg
    go_enter Tryz.func6, Tryz.ntmps6
    go_wp2_with (first | (go_at_call 9; (with_reducible refine (mortmainlaw03_alive.calls 0 true _ HT.out HA.out).mono ?_); rintro e W1 ⟨rfl, hb1⟩) | (go_at_call 10; (with_reducible refine (mortmainlaw03_great.calls _ A c l true _ (Kd.C_below HR.out hb1) HC.out HG.out).mono ?_); rintro e W2 ⟨rfl, hb2⟩))
    go_ret
    exact ⟨rfl, below_step hb1 hb2⟩
  | false =>
    have hs : (s.size : Int) > 1024 := by rcases hg with h | h; (· cases h); exact h
    clear hg
    go_enter Tryz.func6, Tryz.ntmps6
    go_wp2_with (first | (go_at_call 9; (with_reducible refine (mortmainlaw03_alive.calls 0 true _ HT.out HA.out).mono ?_); rintro e W1 ⟨rfl, hb1⟩) | (go_at_call 10; (with_reducible refine (mortmainlaw03_great.calls _ A c l false _ (Kd.C_below HR.out hb1) HC.out HG.out).mono ?_); rintro e W2 ⟨rfl, hb2⟩))
    go_ret
    exact ⟨rfl, below_step hb1 hb2⟩
theorem isW_below {B b : Nat} {bs : List Value} {w w' : World} (h : IsW B b bs w) (hb : Below w.heap.size w w') : IsW B b bs w' := by
  have hlt := (isW_lt h).2
  rcases h with ⟨hB, v, hv, hown, hne⟩ | ⟨hB, v, hv, hown, hne⟩
  · exact .inl ⟨hB, v, (hb.block b hlt).trans hv, hown.kept (row := none) (grown_of_below hb none) (Classical.em _), hne⟩
  · exact .inr ⟨hB, v, (hb.block b hlt).trans hv, hown.kept (row := none) (grown_of_below hb none) (Classical.em _), hne⟩
set_option maxHeartbeats 1000000 in
set_option maxRecDepth 100000 in
theorem wBytes0 (B b : Nat) (p : Value) (w : World) (h : w.heap[b]? = some (.cells #[p, .slice none 0 0] 49 (0, 0))) :
    Calls Tryz.prog 26 #[.pointer (some ⟨b, 0, none⟩)] w fun e w' => e = .returned (.string ⟨#[]⟩) ∧ Below B w w' := by
  have HI := Aside0.mk h
  clear h
  go_enter Tryz.func26, Tryz.ntmps26
  go_wp2_with (first | (go_at_call 61; (with_reducible refine (str_none B b p _ HI.out).mono ?_); rintro e w1 ⟨rfl, hb⟩))
  go_ret
  exact ⟨rfl, hb⟩
/-- What the writer gives back at the end. -/
theorem bytes_end (B0 b : Nat) (L : List UInt8) (w W : World) (h : IsW B0 b (Lib.byteCells L) w) (hb : Below w.heap.size w W) (h0 : L = [] → w.heap[b]? = some (.cells #[.pointer none, .slice none 0 0] 49 (0, 0))) :
    Calls Tryz.prog 26 #[.pointer (some ⟨b, 0, none⟩)] W fun e w' => e = .returned (.string (B L)) ∧ Below B0 W w' := by
  by_cases hL : L = []
  · have h1 := h0 hL
    have h2 := wBytes0 B0 b (.pointer none) W ((hb.block b (blk_lt h1)).trans h1)
    rw [hL]; exact h2
  · exact wBytes B0 b L W (isW_below h hb) hL
theorem take_step {l : List S23} {T s : ByteArray} (hs : small l) (hT : T.size ≤ 10000) (a1 a2 : Int) (b1 b2 : Bool) (o : Option (List UInt8)) (j : Nat) (hj : j < l.length)
    (h1 : St T a1 b1 o) (h2 : St T a2 b2 o) (ho : o = none ∨ o = some (rowsB (l.drop j) ++ s.data.toList)) :
    ∃ (x y : Int) (z : ByteArray) (a1' a2' : Int) (b1' b2' : Bool) (o' : Option (List UInt8)), value_Take.f 30000 T a1 b1 = some (x, y, z, T, a1', b1') ∧ mortmainref03_Take.f 30000 T a2 b2 = some (x, y, z, T, a2', b2') ∧
      St T a1' b1' o' ∧ St T a2' b2' o' ∧ (o' = none ∨ o' = some (rowsB (l.drop (j + 1)) ++ s.data.toList)) := by
  obtain ⟨x, y, z, a1', b1', e1, k1, hv⟩ := pTake T (by omega) a1 b1 o 30000 (by omega) h1
  obtain ⟨a2', b2', e2, k2⟩ := rTake T (by omega) a2 b2 o 30000 (by omega) h2
  have hx := small_ok hs _ (List.getElem_mem hj)
  have hd : rowsB (l.drop j) ++ s.data.toList = putS l[j] ++ (rowsB (l.drop (j + 1)) ++ s.data.toList) := by
    rw [List.drop_eq_getElem_cons hj]
    unfold rowsB
    rw [List.flatMap_cons, List.append_assoc]
  rw [hd] at ho
  have hq : (aStr (aInt (aInt o).2).2).2 ≠ none ∨ o = none := by
    rcases ho with h | h
    · exact .inr h
    · refine .inl fun hc => ?_
      have e0 : putS l[j] ++ (rowsB (l.drop (j + 1)) ++ s.data.toList) = varL (zigN l[j].f0) ++ (varL (zigN l[j].f1) ++ (varL (zigN l[j].f2.data.toList.length) ++ (l[j].f2.data.toList ++ (rowsB (l.drop (j + 1)) ++ s.data.toList)))) := by
        unfold putS putB
        simp only [List.append_assoc]
      rw [h, e0, aInt_zig _ hx.2.1] at hc
      simp only at hc
      rw [aInt_zig _ hx.2.2] at hc
      simp only at hc
      rw [aStr_zig _ _ (by rw [← Sz]; have := hx.1; omega)] at hc
      cases hc
  have hz := hv hq
  have hz1 : (aTake o).1.1 = x := by rw [← hz]
  have hz2 : (aTake o).1.2.1 = y := by rw [← hz]
  have hz3 : B (aTake o).1.2.2 = z := by rw [← hz]
  rw [hz1, hz2, hz3] at e2
  refine ⟨x, y, z, a1', a2', b1', b2', _, e1, e2, k1, k2, ?_⟩
  rcases ho with h | h
  · left; rw [h]; rfl
  · rw [h, aTake_put _ hx]
    split
    · exact .inr rfl
    · exact .inl rfl
theorem meas_ {L j : Nat} (h : j < L) : L - (j + 1) < L - j := by omega
theorem read_case (t : ByteArray) (h : t.size ≤ 7000) : ∃ (L : List S23) (e : Int) (ok : Bool), value_Read.f 20000 t = some (L, e) ∧ mortmainref03_Read.f 20000 t = some (L, ok) ∧ ((e = 0 ∧ ok = true) ∨ (e = 4 ∧ ok = false)) ∧ mortmainref03_Same.f 8 L L = some true := by
  obtain ⟨L, e, h1, h2, he, hL⟩ := read_f t (by omega) 20000 (by omega)
  refine ⟨L, e, decide (e = 0), h1, h2, ?_, same_f L hL 8 (Nat.le_refl _)⟩
  rcases he with rfl | rfl
  · exact .inl ⟨rfl, rfl⟩
  · exact .inr ⟨rfl, rfl⟩
theorem at_two (b s : ByteArray) (hb : b.size ≤ 7000) (hs : s.size ≤ 7000) (j : Nat) (h : j < 2) : ∃ t : ByteArray, t.size ≤ 7000 ∧ ∀ w, (Instr.index 37 (.agg #[.string b, .string s]) (.int .i64 (j : Int))).run Tryz.prog w = .ok (.string t) w := by
  by_cases h0 : j = 0
  · subst h0
    exact ⟨b, hb, fun _ => by kernel_rfl⟩
  · obtain rfl : j = 1 := by omega
    exact ⟨s, hs, fun _ => by kernel_rfl⟩
set_option maxHeartbeats 8000000 in
set_option maxRecDepth 100000 in
theorem vrows_walk (A : Option Addr) (c : Nat) (l : List S23) (s : ByteArray) (w : World) (hT : Tabs w) (hr : Kd.C k23 w A l.length l) (hc : l.length ≤ c) (hsm : small l) (hs : ¬ (s.size : Int) > 1024)
    (hgr : mortmainlaw03_great.f (l.length + 1) l = some false) :
    Calls Tryz.prog 6 #[.slice A l.length c, .string s] w fun e w' => e = .returned (.bool true) ∧ Below w.heap.size w w' := by
  have HT := Aside0.mk hT
  have HR := Aside0.mk hr
  have HC := Aside0.mk hc
  have HA := Aside0.mk (alive3_f 0)
  have HG := Aside0.mk hgr
  have HS := Aside0.mk hsm
  have hz := hs
  have HZ := Aside0.mk hz
  obtain ⟨b, hb⟩ : ∃ b : ByteArray, b = ⟨(varL (zigN l.length) ++ rowsB l).toArray⟩ := ⟨_, rfl⟩
  have HF := Aside0.mk (show mortmainref03_Row.f 60 l = some b by rw [row_f l hsm 60 (Nat.le_refl _), hb])
  have HBs := Aside0.mk (show b.size ≤ 7000 by
    have h1 := varL_len (zigN l.length)
    have h2 := rowsB_len l (fun x hx => (hsm.2 x hx).1)
    have h3 := hsm.1
    rw [hb, B_size, List.length_append]; omega)
  have HBe := Aside0.mk hb
  clear hT hr hc hgr hsm hz hb
  go_enter Tryz.func6, Tryz.ntmps6
  go_wp2_with (first | (go_at_call 9; (with_reducible refine (mortmainlaw03_alive.calls 0 true _ HT.out HA.out).mono ?_); rintro e W1 ⟨rfl, hb1⟩) | (go_at_call 10; (with_reducible refine (mortmainlaw03_great.calls _ A c l false _ (Kd.C_below HR.out hb1) HC.out HG.out).mono ?_); rintro e W2 ⟨rfl, hb2⟩) | (go_at_call 16; (with_reducible refine (wRow A c l _ (Kd.C_below HR.out (below_step hb1 hb2)) HS.out).mono ?_); rw [← HBe.out]; rintro e W3 ⟨rfl, hb3⟩) | (go_at_call 17; (with_reducible refine (mortmainref03_Row.calls 60 A c l b _ (Kd.C_below HR.out (below_step (below_step hb1 hb2) hb3)) HC.out HF.out).mono ?_); rintro e W4 ⟨rfl, hb4⟩))
  have HB0 := Aside0.mk (below_step (below_step (below_step hb1 hb2) hb3) hb4)
  clear hb1 hb2 hb3 hb4
  go_loopw [36] (fun vi wr => ∃ j : Nat, vi = .int .i64 j ∧ j ≤ 2 ∧ Aside0 (Below w.heap.size w wr)) (fun vi _ => 2 - (intOf vi).toNat)
  case atStart => exact ⟨0, rfl, by decide, HB0⟩
  case round =>
    obtain ⟨j, rfl, hj, HB⟩ := hrel
    by_cases hlt : j < 2
    · obtain ⟨t, ht, hi⟩ := at_two b s HBs.out (by have := HZ.out; omega) j hlt
      obtain ⟨L, e, ok, h1, h2, hc, h3⟩ := read_case t ht
      have H1 := Aside0.mk h1
      have H2 := Aside0.mk h2
      have H3 := Aside0.mk h3
      clear h1 h2 h3
      rcases hc with ⟨rfl, rfl⟩ | ⟨rfl, rfl⟩
      all_goals
        go_wp2_with (first | (go_at_call 18; (with_reducible refine (value_Read.calls 20000 t L _ _ H1.out).mono ?_); rintro e X1 ⟨v1, rfl, hr1, hx1⟩; obtain ⟨A1, c1, rfl, hc1, hk1⟩ := Kd.R_reads hr1; clear hr1) | (go_at_call 19; (with_reducible refine (mortmainref03_Read.calls 20000 t L _ _ H2.out).mono ?_); rintro e X2 ⟨v2, rfl, hr2, hx2⟩; obtain ⟨A2, c2, rfl, hc2, hk2⟩ := Kd.R_reads hr2; clear hr2) | (go_at_call 20; (with_reducible refine (mortmainref03_Same.calls 8 A1 c1 L A2 c2 L true _ (Kd.C_below hk1 hx2) hc1 hk2 hc2 H3.out).mono ?_); rintro e X3 ⟨rfl, ⟨n3, rfl⟩⟩))
        go_roundw
        case rel => exact ⟨j + 1, by go_num, by omega, ⟨pw_below_drewN (below_step (below_step HB.out hx1) hx2) _⟩⟩
        case measure => simp [intOf]; omega
    · obtain rfl : j = 2 := by omega
      obtain ⟨W5, e5⟩ : ∃ W5, W5 = wr := ⟨_, rfl⟩
      subst e5
      go_wp2_with fail
      have hw0 : IsW W5.heap.size W5.heap.size (Lib.byteCells (rowsB (l.take 0))) (W5.alloc (.cells #[.pointer none, .slice none 0 0] 49)) := Lib.IsBuilderF.of (by show Lib.IsBuilder 49 5 _ _ [] _; exact Lib.fresh_isBuilder 49 5 W5)
      have HW0 := Aside0.mk hw0
      clear hw0
      go_loopw [13, 72] (fun vq vi w2 => ∃ (q : ByteArray) (j : Nat), vq = .string q ∧ vi = .int .i64 j ∧ j ≤ l.length ∧ Aside0 (q = B (rowsB (l.take j))) ∧ Aside0 (IsW W5.heap.size W5.heap.size (Lib.byteCells (rowsB (l.take j))) w2) ∧ Aside0 (Below W5.heap.size W5 w2)
        ∧ Aside0 (j = 0 → w2.heap[W5.heap.size]? = some (.cells #[.pointer none, .slice none 0 0] 49 (0, 0)))) (fun _ vi _ => l.length - (intOf vi).toNat)
      case atStart => exact ⟨_, 0, rfl, rfl, Nat.zero_le _, ⟨rfl⟩, HW0, ⟨(Below.refl _ W5).alloc (Nat.le_refl _) _⟩, ⟨fun _ => heap_alloc_new W5 _⟩⟩
      case round =>
        obtain ⟨q, j, rfl, rfl, hj, HQ, HI, HB6, HN⟩ := hrel
        have hql := Aside0.mk (show (rowsB (l.take j)).length ≤ 7000 by
          have h2 := rowsB_len (l.take j) (fun y hy => (HS.out.2 y (List.mem_of_mem_take hy)).1)
          have h3 := HS.out.1
          rw [List.length_take] at h2; omega)
        have hqs : q.size ≤ 7000 := by rw [HQ.out, B_size]; exact hql.out
        by_cases hlt : j < l.length
        · obtain ⟨ad, hA, k0, k1, k2⟩ := at_T23 (Kd.C_below HR.out (below_step HB.out HB6.out)) (j : Int) (by omega) (by omega)
          rw [rd_at_ l j hlt, Int.toNat_natCast] at k0 k1 k2
          have hx := HS.out.2 _ (List.getElem_mem hlt)
          have HE := Aside0.mk (rowsB_take l j hlt)
          obtain ⟨x, hx0⟩ : ∃ x, x = l[j] := ⟨_, rfl⟩
          rw [← hx0] at k0 k1 k2 hx
          have HX := Aside0.mk (show okS x from hx)
          have HX0 := Aside0.mk hx0
          clear hx hx0
          subst hA
          have hstep : wrap64 ((j : Int) + 1) = ((j + 1 : Nat) : Int) := by
            have := HS.out.1
            rw [w64 _ (by omega)]; omega
          have hbw := Aside0.mk HB6.out.size
          have hlw := Aside0.mk (isW_lt HI.out).2
          have hps := Aside0.mk (show (putS x).length ≤ 230 by
            have h1 : (putS x).length ≤ 30 + x.f2.data.toList.length := putB_len _ _ _
            have h2 := HX.out.1
            rw [Sz] at h2; omega)
          have HP := Aside0.mk (bytes_f x HX.out 20 (Nat.le_refl _))
          obtain ⟨p, hp⟩ : ∃ p, p = B (putS x) := ⟨_, rfl⟩
          rw [← hp] at HP
          have hpz : p.size ≤ 230 := by rw [hp, B_size]; exact hps.out
          have hsum : q.size + p.size ≤ 9223372036854775807 := by omega
          have hsum1 : decide (q.size + p.size ≤ 9223372036854775807) = true := decide_eq_true hsum
          have hsum2 : (9223372036854775807 < q.size + p.size) = False := eq_false (Nat.not_lt.2 hsum)
          have HPE := Aside0.mk hp
          clear hp hpz hqs
          go_wp2_with fail
          have hblk : (wr.alloc (.cells #[.int .i64 x.f0, .int .i64 x.f1, .string x.f2] 23)).heap[wr.heap.size]? = some (.cells #[.int .i64 x.f0, .int .i64 x.f1, .string x.f2] 23 (0, 0)) := heap_alloc_new wr _
          refine (wPut W5.heap.size W5.heap.size _ x.f0 x.f1 x.f2 _ (isW_alloc HI.out _) (by have := hbw.out; simp; omega) (by have := HX.out.1; omega) (by have := hql.out; omega) HX.out.2.1 HX.out.2.2).mono ?_
          rintro e X2 ⟨rfl, h2, hb2, ho2⟩
          have hv : X2.heap[wr.heap.size]? = some (.cells #[.int .i64 x.f0, .int .i64 x.f1, .string x.f2] 23 (0, 0)) := ho2 _ _ hblk (by have := hlw.out; simp; omega) (fun c fz e => by injection e with _ e; exact absurd e (by decide))
          have hv0 : X2.cell? ⟨wr.heap.size, 0, none⟩ = some (.int .i64 x.f0) := (blk_cell hv 0).trans rfl
          have hv1 : X2.cell? ⟨wr.heap.size, 1, none⟩ = some (.int .i64 x.f1) := (blk_cell hv 1).trans rfl
          have hv2 : X2.cell? ⟨wr.heap.size, 2, none⟩ = some (.string x.f2) := (blk_cell hv 2).trans rfl
          have H2 := Aside0.mk h2
          have HB2 := Aside0.mk (show Below W5.heap.size W5 X2 from (HB6.out.alloc hbw.out _).trans hb2)
          clear h2 hb2 ho2 hv hblk k0 k1 k2
          go_wp2_with (first | (go_at_call 22; (with_reducible refine (mortmainref03_Bytes.calls 20 x.f0 x.f1 x.f2 p _ HP.out).mono ?_); rintro e X3 ⟨rfl, hx3⟩))
          rw [hstep]
          refine ⟨⟨_, _, _, _, _, _, _, _, _, _, _, _, _, _, ?rel, rfl⟩, ?measure⟩
          case rel =>
            refine ⟨_, j + 1, rfl, rfl, by omega, ⟨?_⟩, ⟨?_⟩, ⟨below_step HB2.out hx3⟩, ⟨fun h => absurd h (by omega)⟩⟩
            · rw [HE.out, ← HX0.out, HQ.out, HPE.out, B_append]
            · rw [HE.out, ← HX0.out]
              exact isW_below H2.out hx3
          case measure =>
            show l.length - (((j + 1 : Nat) : Int)).toNat < l.length - ((j : Int)).toNat
            exact meas_ hlt
        · have e : l.take j = l := List.take_of_length_le (by omega)
          rw [e] at HI HQ hql
          obtain ⟨W6, e6⟩ : ∃ W6, W6 = wr := ⟨_, rfl⟩
          subst e6
          have hqs2 : q.size + s.size ≤ 9223372036854775807 := by have := HZ.out; omega
          have hqs3 : decide (q.size + s.size ≤ 9223372036854775807) = true := decide_eq_true hqs2
          have hqs4 : (9223372036854775807 < q.size + s.size) = False := eq_false (Nat.not_lt.2 hqs2)
          go_wp2_with (first | (go_at_call 23; (with_reducible refine (pack_Open.calls (q ++ s) (q ++ s) 0 false W6 _ (Below.refl _ _) rfl).mono ?_); rintro e X4 ⟨g, rfl, hi4, hb4, -⟩))
          obtain ⟨g2, hg2⟩ : ∃ g2, g2 = X4.heap.size := ⟨_, rfl⟩
          obtain ⟨T, hTe⟩ : ∃ T, T = q ++ s := ⟨_, rfl⟩
          have hTs := Aside0.mk (show T.size ≤ 10000 by have := HZ.out; rw [hTe, ByteArray.size_append]; omega)
          have hl0 : 0 ≤ T.size := Nat.zero_le _
          have hst : St T 0 false (some (rowsB (l.drop 0) ++ s.data.toList)) := ⟨rfl, 0, rfl, hl0, by rw [hTe, HQ.out]; simp⟩
          have HST := Aside0.mk hst
          have HI4 := Aside0.mk (show IsS89 W6 (X4.alloc (.cells #[.string T, .int .i64 0, .bool false] 55)) g T 0 false from by rw [hTe]; exact hi4.alloc _)
          have HI5 := Aside0.mk (show IsS55 W6 (X4.alloc (.cells #[.string T, .int .i64 0, .bool false] 55)) g2 T 0 false from by rw [hg2]; exact ⟨heap_alloc_new X4 _, hb4.size⟩)
          have HB4 := Aside0.mk (show Below W6.heap.size W6 (X4.alloc (.cells #[.string T, .int .i64 0, .bool false] 55)) from hb4.alloc hb4.size _)
          rw [← hTe, ← hg2]
          clear hi4 hb4 hst hl0 hqs2 hqs3 hqs4 hqs hg2 hTe
          have hj0 := Aside0.mk (show rowsB l = [] → W6.heap[W5.heap.size]? = some (.cells #[.pointer none, .slice none 0 0] 49 (0, 0)) by
            intro h0
            refine HN.out ?_
            rcases Nat.eq_zero_or_pos j with h | h
            · exact h
            · exfalso
              obtain ⟨x, y, rfl⟩ : ∃ x y, l = x :: y := by
                cases l with
                | nil => simp at hj; omega
                | cons x y => exact ⟨x, y, rfl⟩
              have h1 := congrArg List.length h0
              have h2 := varL_pos (zigN x.f0)
              simp only [rowsB, List.flatMap_cons, putS, putB, List.length_append, List.length_nil] at h1
              omega)
          clear HN
          go_loopw [95] (fun vi w3 => ∃ (j : Nat) (a1 a2 : Int) (b1 b2 : Bool) (o : Option (List UInt8)), vi = .int .i64 j ∧ j ≤ l.length ∧ Aside0 (St T a1 b1 o) ∧ Aside0 (St T a2 b2 o) ∧ Aside0 (o = none ∨ o = some (rowsB (l.drop j) ++ s.data.toList)) ∧
            Aside0 (IsS89 W6 w3 g T a1 b1) ∧ Aside0 (IsS55 W6 w3 g2 T a2 b2) ∧ Aside0 (Below W6.heap.size W6 w3)) (fun vi _ => l.length - (intOf vi).toNat)
          case atStart => exact ⟨0, 0, 0, false, false, _, rfl, Nat.zero_le _, HST, HST, ⟨.inr rfl⟩, HI4, HI5, HB4⟩
          case round =>
            obtain ⟨j, a1, a2, b1, b2, o, rfl, hj, HS1, HS2, HO, HI1, HI2, HB7⟩ := hrel
            by_cases hlt : j < l.length
            · obtain ⟨x, y, z, a1', a2', b1', b2', o', e1, e2, k1, k2, ho'⟩ := take_step HS.out hTs.out a1 a2 b1 b2 o j hlt HS1.out HS2.out HO.out
              have E1 := Aside0.mk e1
              have E2 := Aside0.mk e2
              have K1 := Aside0.mk k1
              have K2 := Aside0.mk k2
              have HO2 := Aside0.mk ho'
              have hstep : wrap64 ((j : Int) + 1) = ((j + 1 : Nat) : Int) := by
                have := HS.out.1
                rw [w64 _ (by omega)]; omega
              clear e1 e2 k1 k2 ho'
              go_wp2_with (first | (go_at_call 24; (with_reducible refine (value_Take.calls 30000 g T a1 b1 x y z T a1' b1' W6 _ HI1.out HB7.out E1.out).mono ?_); rintro e X8 ⟨rfl, hi1, hb1, hk1⟩; have hi5 : IsS55 W6 X8 g2 T a2 b2 := ⟨hk1.blk HI2.out.1 (blk_ne HI2.out.1 HI1.out.1 (by decide)) (by simp), HI2.out.2⟩) | (go_at_call 25; (with_reducible refine (mortmainref03_Take.calls 30000 g2 T a2 b2 x y z T a2' b2' W6 _ hi5 hb1 E2.out).mono ?_); rintro e X9 ⟨rfl, hi2, hb2, hk2⟩))
              rw [hstep]
              refine ⟨⟨j + 1, a1', a2', b1', b2', o', rfl, by omega, K1, K2, HO2, ⟨⟨hk2.blk hi1.1 (blk_ne hi1.1 hi5.1 (by decide)) (by simp), hi1.2⟩⟩, ⟨hi2⟩, ⟨hb2⟩⟩, ?_⟩
              show l.length - (((j + 1 : Nat) : Int)).toNat < l.length - ((j : Int)).toNat
              exact meas_ hlt
            · have HBy := Aside0.mk (bytes_end W5.heap.size W5.heap.size (rowsB l) W6 wr HI.out HB7.out hj0.out)
              rw [← HQ.out] at HBy
              go_wp2_with (first | (go_at_call 26; (with_reducible refine HBy.out.mono ?_); rintro e X10 ⟨rfl, hb10⟩))
              go_ret
              exact ⟨rfl, below_step HB.out ((HB6.out.trans (HB7.out.mono HB6.out.size)).trans hb10)⟩
end Go.Proofs.YtmaciepkkianhabGreatDoor.M
namespace Go.Proofs.YtmaciepkkianhabGreatDoor.QRows
open Go.Proofs.YtmaciepkkianhabGreatDoor.H Go.RowKit Go.Proofs.YtmaciepkkianhabGreatDoorW.PrintWords
/-- What the law answers, as its walk tells. -/
def mortmainlaw03_ValueRows.f (_k : Nat) (l0 : List S23) (_a0 : ByteArray) : Option Bool := if l0.length ≤ 9223372036854775807 ∧ ∀ x ∈ l0, M.I x.f1 ∧ M.I x.f0 then some true else none
theorem mortmainlaw03_ValueRows.calls (k : Nat) (A0 : Option Addr) (c0 : Nat) (l0 : List S23) (a0 : ByteArray) (r : Bool) (w : World) (hr0 : Kd.C k23 w A0 l0.length l0) (hc0 : l0.length ≤ c0) (hT : Tabs w) (_hr : Aside0 (r = true)) (h : mortmainlaw03_ValueRows.f k l0 a0 = some r) :
    Calls Tryz.prog 6 #[.slice A0 l0.length c0, .string a0] w fun e w' => e = .returned (.bool r) ∧ Below w.heap.size w w' := by
  unfold mortmainlaw03_ValueRows.f at h
  split at h
  · rename_i hc
    obtain rfl := Option.some.inj h
    obtain ⟨hl, hi⟩ := hc
    by_cases hg : (l0.any (fun x => decide ((x.f2.size : Int) > 200)) || decide ((l0.length : Int) > 30)) = true
    · exact M.vrows_great A0 c0 l0 a0 w hT hr0 hc0 hl (.inl hg)
    · by_cases hs : (a0.size : Int) > 1024
      · exact M.vrows_great A0 c0 l0 a0 w hT hr0 hc0 hl (.inr hs)
      · have hg2 := Bool.eq_false_iff.mpr hg
        exact M.vrows_walk A0 c0 l0 a0 w hT hr0 hc0 (M.great_small hg2 hi) hs (by rw [M.great_f _ l0 hl (Nat.le_refl _), hg2])
  · cases h
end Go.Proofs.YtmaciepkkianhabGreatDoor.QRows
namespace Go.Proofs.YtmaciepkkianhabGreatDoor.M
theorem vrows_true (k : Nat) (l : List Go.Proofs.YtmaciepkkianhabGreatDoor.QRows.S23) (a0 : ByteArray) (hl : l.length ≤ 9223372036854775807) (hi : ∀ x ∈ l, I x.f1 ∧ I x.f0) (_hz : Z a0) : QRows.mortmainlaw03_ValueRows.f k l a0 = some true := if_pos ⟨hl, hi⟩
end Go.Proofs.YtmaciepkkianhabGreatDoor.M

namespace Go.Proofs.YtmaciepkkianhabGreatDoor.V
theorem witness_row_zip {H : Type} {enc : TypeId × Value → H} {C : Checked} {os : Os} {f : FuncId} {fn : Func} {s : OpenSpec} {conds : List PathCond} {apart : Bool} {laid : List (String × DataW Unit)} (modest : Bool) (w0 : World) (args : Array Value) (hos : w0.os = os)
    (hv : (w0.forCall (fun _ _ => 0) ⟨#[], args, []⟩).variablesZipB C.prog = true)
    (hr : ((w0.forCall (fun _ _ => 0) ⟨#[], args, []⟩).heap.toList.drop C.prog.globals.size).take ((begin C.prog (fun _ _ => 0) default).world.heap.size - C.prog.globals.size) =
      (begin C.prog (fun _ _ => 0) default).world.heap.toList.drop C.prog.globals.size)
    (hok : Input.okWideB C.prog (w0.forCall (fun _ _ => 0) ⟨#[], args, []⟩) f ⟨#[], args, []⟩ = true)
    (hrow : s.preRow enc C.prog fn conds apart laid (w0.forCall (fun _ _ => 0) ⟨#[], args, []⟩).memory args) :
    ∃ (w : World) (tape : Tape) (i : Input), w.os = os ∧ (w.forCall tape i).Shaped C.prog ∧ i.vars = [] ∧ Input.okWide C.prog (w.forCall tape i) .any w.heap.size f i ∧
      s.preRow enc C.prog fn conds apart laid (w.forCall tape i).memory i.args ∧ ({ modest := modest } : Assume).holds C.prog (lone (Frame.enter C.prog f i.args .normal) [] (w.forCall tape i)) :=
  ⟨w0, fun _ _ => 0, ⟨#[], args, []⟩, hos, World.shaped_of_ZipB hv hr, (Input.okWide_of_okWideB (base := 0) hok).1, (Input.okWide_of_okWideB hok).2, hrow, by
    simp only [Assume.holds]
    exact ⟨by simp, by simp, fun _ => Modest.zero, by simp, by simp⟩⟩
end Go.Proofs.YtmaciepkkianhabGreatDoor.V

namespace Go.Proofs.YtmaciepkkianhabGreatDoor.O
open Go.ChangeShapes Go.WideShapes Go.RowKit Go.Deep Go.Proofs.YtmaciepkkianhabGreatDoor.QRows Go.Proofs.YtmaciepkkianhabGreatDoorW.PrintWords

theorem cells_i : Tryz.prog.cellsOf 3 = 1 := by kernel_rfl
theorem cells_s : Tryz.prog.cellsOf 9 = 1 := by kernel_rfl
theorem cells_v : Tryz.prog.cellsOf 23 = 3 := by kernel_rfl
set_option maxRecDepth 100000 in
theorem elem_open {H : Type} {enc : TypeId × Value → H} {w : World} {base : Nat} {sp : Nat → Bool} {held : Bool} {fuel : Nat} {cs : List Value} {x : DataW H × List MemPlace}
    (h : DataW.trod enc Tryz.prog w base sp held fuel 23 cs = some x) :
    ∃ y : S23, cs = [.int .i64 y.f0, .int .i64 y.f1, .string y.f2] ∧ (-9223372036854775808 ≤ y.f1 ∧ y.f1 ≤ 9223372036854775807) ∧ (-9223372036854775808 ≤ y.f0 ∧ y.f0 ≤ 9223372036854775807) ∧ y.f2.size ≤ maxLen := by
  obtain ⟨xs, m, rfl, hx, hl, hxl, hall⟩ := DataW.trod_struct Tryz.underlying23 h
  rw [cells_v] at hl
  match cs, hl with
  | [c0, c1, c2], _ =>
    have hs : xs.length = 3 := hxl
    match xs, hs with
    | [x0, x1, x2], _ =>
      have h0 : DataW.trod enc Tryz.prog w base sp held m 3 (([c0, c1, c2].drop 0).take (Tryz.prog.cellsOf 3)) = some x0 := hall 0 _ rfl
      have h1 : DataW.trod enc Tryz.prog w base sp held m 3 (([c0, c1, c2].drop 1).take (Tryz.prog.cellsOf 3)) = some x1 := hall 1 _ rfl
      have h2 : DataW.trod enc Tryz.prog w base sp held m 9 (([c0, c1, c2].drop 2).take (Tryz.prog.cellsOf 9)) = some x2 := hall 2 _ rfl
      rw [cells_i] at h0 h1
      rw [cells_s] at h2
      obtain ⟨a0, e0, _, w0⟩ := DataW.trod_int Tryz.underlying3 h0
      obtain ⟨a1, e1, _, w1⟩ := DataW.trod_int Tryz.underlying3 h1
      obtain ⟨a2, e2, _, w2⟩ := DataW.trod_string Tryz.underlying9 h2
      simp only [List.drop_zero, List.drop_succ_cons, List.take_succ_cons, List.take_zero, List.cons.injEq, and_true] at e0 e1 e2
      subst e0 e1 e2
      have b (n : Int) (hw : (Lit.int .i64 n).wf = true) : -9223372036854775808 ≤ n ∧ n ≤ 9223372036854775807 := by
        simp only [Lit.wf, IntKind.min, IntKind.max, IntKind.signed, IntKind.bits, Bool.and_eq_true, decide_eq_true_eq, if_true] at hw
        omega
      exact ⟨⟨a0, a1, a2⟩, rfl, b a1 w1, b a0 w0, w2⟩
set_option maxRecDepth 100000 in
/-- A row of values. -/
theorem open_values {H : Type} {enc : TypeId × Value → H} {w : World} {base b0 : Nat} {r : Reach} {sp : Nat → Bool} {held : Bool} {v : Value} {d : DataW H} {p : List MemPlace}
    (hval : Value.okWide Tryz.prog w r b0 34 v) (h : DataW.Trod enc Tryz.prog w base sp held 34 v d p) :
    ∃ (ad : Option Addr) (c : Nat) (l : List S23), v = .slice ad l.length c ∧ l.length ≤ c ∧ Kd.C k23 w ad l.length l ∧ l.length ≤ maxLen ∧
      ∀ x ∈ l, (-9223372036854775808 ≤ x.f1 ∧ x.f1 ≤ 9223372036854775807) ∧ (-9223372036854775808 ≤ x.f0 ∧ x.f0 ≤ 9223372036854775807) ∧ x.f2.size ≤ maxLen := by
  obtain ⟨a0, len, cap, rfl⟩ := okWide_slice Tryz.underlying34 hval
  obtain ⟨fuel, hf⟩ := h
  rcases open_slice Tryz.underlying34 hf with ⟨hcs, _⟩ | ⟨a, len', cap', m, n, D, Pl, hcs, _, hl, hm, hmm, _, hel⟩
  · simp only [Value.cells, List.cons.injEq, Value.slice.injEq, and_true] at hcs
    obtain ⟨rfl, rfl, rfl⟩ := hcs
    exact ⟨none, 0, [], rfl, Nat.le_refl _, ⟨rfl, by decide, fun h => absurd h (by decide)⟩, by decide, fun x hx => by cases hx⟩
  · simp only [Value.cells, List.cons.injEq, Value.slice.injEq, and_true] at hcs
    obtain ⟨rfl, rfl, rfl⟩ := hcs
    have hlm : len ≤ m := by rw [hmm]; split <;> omega
    haveI : Inhabited S23 := ⟨z23⟩
    obtain ⟨V, hV⟩ := choose_lt (α := S23) (n := len) (p := fun i y => (∀ j u, [Value.int .i64 y.f0, .int .i64 y.f1, .string y.f2][j]? = some u → w.cell? (a.add (i * 3 + j)) = some u) ∧ (-9223372036854775808 ≤ y.f1 ∧ y.f1 ≤ 9223372036854775807) ∧ (-9223372036854775808 ≤ y.f0 ∧ y.f0 ≤ 9223372036854775807) ∧ y.f2.size ≤ maxLen) (fun i hi => by
      obtain ⟨cs', h1, h2⟩ := hel i (by omega)
      rw [cells_v] at h1
      obtain ⟨_, _, hc⟩ := World.cells?_some h1
      obtain ⟨y, rfl, hy⟩ := elem_open h2
      refine ⟨y, fun j u hj => ?_, hy⟩
      have hj3 : j < 3 := by
        rcases Nat.lt_or_ge j 3 with h | h
        · exact h
        · rw [List.getElem?_eq_none (by simpa using h)] at hj; cases hj
      have := hc j hj3
      rw [hj] at this
      rw [← this]
      have e : a.add (i * 3 + j) = (a.add (i * 3)).add j := by
        by_cases h1 : i * 3 = 0
        · rw [h1, Nat.zero_add]; rfl
        · by_cases h2 : j = 0
          · subst h2; rfl
          · unfold Addr.add
            rw [if_neg h1, if_neg h2, if_neg (by omega)]
            simp only [Nat.add_assoc]
      rw [e])
    refine ⟨some a, cap, (List.range len).map V, by simp, by simpa using hl, ⟨by simp, ?_, fun _ => ⟨a, rfl, fun j x hj => ?_⟩⟩, by simpa using Nat.le_trans hl hm, fun x hx => ?_⟩
    · have := hm
      unfold maxLen at this
      simp; omega
    · have hj2 : j < len := by
        rcases Nat.lt_or_ge j len with h | h
        · exact h
        · rw [List.getElem?_eq_none (by simpa using h)] at hj; cases hj
      simp only [List.getElem?_map, List.getElem?_range hj2, Option.map_some, Option.some.injEq] at hj
      subst hj
      exact ⟨[.int .i64 (V j).f0, .int .i64 (V j).f1, .string (V j).f2], rfl, k23_mk w (V j), (hV j hj2).1⟩
    · simp only [List.mem_map, List.mem_range] at hx
      obtain ⟨j, hj, rfl⟩ := hx
      exact (hV j hj).2
end Go.Proofs.YtmaciepkkianhabGreatDoor.O

namespace Go.Proofs.YtmaciepkkianhabGreatDoor.valueRows
open Go.ChangeShapes Go.WideShapes Go.ChangeAt Go.RowKit Go.Joins
open Go.ChangeMaps (open_string shut_string)
set_option linter.unusedVariables false
theorem own : ownKnob Tryz.prog.godebug = none := by kernel_rfl
theorem laidOut : laidOutB Tryz.prog = true := by kernel_rfl
/-- What every world of the row holds that the walk asks for. -/
theorem tens_eq : (Rows.laid_internal_strconv_uint64pow10 : DataW Unit) = Lib.tabData .u64 Lib.pow10Tab := by kernel_rfl
theorem tabs {W : World} (h : W.ShapedOpen Tryz.prog) (hL : laidMet Tryz.prog Rows.valueRowsRow.laid W) : H.Tabs W := by
  have hm : ∃ m, W.cell? ⟨5, 0, none⟩ = some (.int .i64 m) := cell_of_shapedOpen_int (g := 5) (t := 3) (zero := #[.int .i64 0]) (k := .i64) h (of_decide_eq_true (by kernel_rfl)) (by kernel_rfl) rfl (by kernel_rfl) (by kernel_rfl) (by kernel_rfl)
  have h1 := (Lib.laidMet.reads hL (n := "internal/strconv.uint64pow10") (d := Rows.laid_internal_strconv_uint64pow10) (List.mem_of_getElem? (i := 3) rfl))
  rw [tens_eq] at h1
  have h2 := (Lib.laidMet.reads hL (n := "internal/strconv.pow10Tab") (d := Rows.laid_internal_strconv_pow10Tab) (List.mem_of_getElem? (i := 6) rfl))
  exact ⟨hm, T.tabIs_of_reads (g := 2) (t := 163) (e := 75) (n := 20) (by kernel_rfl) (by kernel_rfl) Tryz.underlying163 Tryz.underlying75 (by kernel_rfl) (by kernel_rfl) h1,
    fun i x hx => T.pairs_cell (g := 8) (t := 185) (e := 184) (n := 696) (k := .u64) (zs := Go.Pinned.pow10Rows) (by kernel_rfl) (by kernel_rfl) Tryz.underlying185 Tryz.underlying184 (fun i f hf => match i, hf with | 0, h => by (obtain rfl := Option.some.inj h; exact ⟨Tryz.underlying75, rfl, by kernel_rfl⟩) | 1, h => by (obtain rfl := Option.some.inj h; exact ⟨Tryz.underlying75, rfl, by kernel_rfl⟩) | n + 2, h => by (simp at h)) rfl (by kernel_rfl) h2 i x hx⟩
theorem int_in {n : Int} (h : (Lit.int .i64 n).wf = true) : M.I n := by
  have h2 : -9223372036854775808 ≤ n ∧ n ≤ 9223372036854775807 := by
    simp only [Lit.wf, IntKind.min, IntKind.max, IntKind.signed, IntKind.bits, Bool.and_eq_true, decide_eq_true_eq, if_true] at h
    omega
  exact h2
set_option maxHeartbeats 1600000 in
set_option maxRecDepth 100000 in
theorem contract (H : Type) (enc : TypeId × Value → H) (W : World) (base : Nat) (args : Array Value) (ds gs : List (DataW H)) (before : List MemPlace)
    (hval0 : ∀ (j : Nat) t v, Tryz.f6.params[j]? = some t → args[j]? = some v → Value.okWide Tryz.prog W .any base t v)
    (hW : DataW.Whole enc Tryz.prog Tryz.f6.params.toList Rows.valueRowsSpec.vars false W args.toList ds gs before)
    (hsz0 : (DataW.weightsEach Tryz.prog (Tryz.f6.params.toList ++ Rows.valueRowsSpec.plain.varTypes Tryz.prog) (ds ++ gs)).all (· ≤ reachBytes) = true)
    (hsh : W.ShapedOpen Tryz.prog) (hL : laidMet Tryz.prog Rows.valueRowsRow.laid W) :
    Calls Tryz.prog 6 args W fun e W' => ∃ v, e = .returned v ∧ Rows.valueRowsSpec.post enc Tryz.prog Tryz.f6 false true false false W args v W' := by
  have hT := tabs hsh hL
  have hsz : (DataW.weightsEach Tryz.prog (Tryz.f6.params.toList ++ Rows.valueRowsSpec.plain.varTypes Tryz.prog) (ds ++ gs)).all (· ≤ reachBytes) = true := hsz0
  have hval : ∀ (j : Nat) t v, Tryz.f6.params[j]? = some t → args[j]? = some v → Value.okWide Tryz.prog W .any base t v := hval0
  have hW' := hW
  obtain ⟨p, q, hA0, hV, rfl, hfz, hnd⟩ := hW
  have hA : DataW.TrodAll enc Tryz.prog W 0 (fun _ => true) true Tryz.f6.params.toList args.toList ds p := hA0
  rw [Tryz.params6] at hA hval hsz
  obtain ⟨v0, vs0, d0, ds0, p0, q0, hargs, rfl, rfl, h0, r0⟩ := trodAll_cons hA
  obtain ⟨v1, vs1, d1, ds1, p1, q1, rfl, rfl, rfl, h1, r1⟩ := trodAll_cons r0
  obtain ⟨rfl, rfl, rfl⟩ := trodAll_nil r1
  obtain rfl : args = #[v0, v1] := by cases args; simp_all
  obtain ⟨rfl, rfl⟩ := trodVars_none hV
  have k0 := h0
  have lt0 : ∀ x ∈ p0, x.block < W.heap.size := by obtain ⟨m, hm⟩ := k0; exact DataW.trod_lt m _ _ _ hm
  obtain ⟨ad0, c0, l0, rfl, hc0, hr0, hm0, hin0⟩ := O.open_values (hval 0 34 v0 rfl rfl) h0
  have hl0 : l0.length ≤ 9223372036854775807 := hm0
  obtain ⟨a1, rfl, rfl, rfl, y1⟩ := open_string Tryz.underlying9 (hval 1 9 v1 rfl rfl) h1
  have w1 : M.Z a1 := by
    have z := sized_string hsz (j := 1) (t := 9) rfl rfl
    rw [Array.length_toList] at z
    have z2 : a1.size ≤ 140737488351232 := z
    unfold M.Z; omega
  clear hA0 hval0 hsz0 hsz
  have pure_ := M.vrows_true 0 l0 a1 hl0 (fun x hx => ⟨(hin0 x hx).1, (hin0 x hx).2.1⟩) w1
  refine (QRows.mortmainlaw03_ValueRows.calls _ ad0 c0 l0 a1 true W hr0 hc0 hT ⟨rfl⟩ pure_).mono fun e W' ⟨he, bel⟩ => ?_
  subst he
  exact ⟨_, rfl, _, _, _, [], _, [], hW', trodAll_mk1 (shut_bool Tryz.underlying4 _), (trodAll_cons_mk (Below.trod laidOut (by kernel_rfl) (of_decide_eq_true (by kernel_rfl)) k0 bel lt0) (trodAll_cons_mk (shut_string Tryz.underlying9 y1) trodAll_mk0)), rfl, bel.frame _, fun h => by cases h⟩
noncomputable def laidWorld (os : Os) : World := World.laidAll Tryz.prog os Rows.valueRowsRow.laid
theorem laid_met (os : Os) : laidMet Tryz.prog Rows.valueRowsRow.laid ((laidWorld os).forCall (fun _ _ => 0) ⟨#[], #[.slice none 0 0, .string ⟨#[]⟩], []⟩).memory :=
  laidMet_laidAll _ (by kernel_rfl) (by kernel_rfl)
theorem reads (os : Os) {H : Type} (enc : TypeId × Value → H) : ∃ places, DataW.whole enc Tryz.prog ((laidWorld os).forCall (fun _ _ => 0) ⟨#[], #[.slice none 0 0, .string ⟨#[]⟩], []⟩).memory Tryz.f6.params.toList Rows.valueRowsSpec.vars false (#[.slice none 0 0, .string ⟨#[]⟩] : Array Value).toList 8 = some ([.nil, .lit (.string [])], [], places) :=
  ⟨[], by kernel_rfl⟩
set_option maxRecDepth 100000 in
theorem lifted (os : Os) (started : os.Started) (H : Type) (enc : TypeId × Value → H) (F : Stop.Interp) :
    ReturnsInHanded {} Tryz.checked os 6 .any ((OpenSpec.ofChange Rows.valueRowsSpec).preRow enc Tryz.prog Tryz.f6 Rows.valueRowsRow.domain false Rows.valueRowsRow.laid) (((OpenSpec.ofChange Rows.valueRowsSpec).at F).post enc Tryz.prog Tryz.f6 false true false false) := by
  obtain ⟨places, hx⟩ := reads os enc
  refine returnsInHanded_of_row (C := Tryz.checked) (s := OpenSpec.ofChange Rows.valueRowsSpec) own started (by kernel_rfl) Tryz.func6
    (V.witness_row_zip (enc := enc) (C := Tryz.checked) false (laidWorld os) #[.slice none 0 0, .string ⟨#[]⟩] (World.laidAll_os _ _ _) (by kernel_rfl) (by kernel_rfl) (by kernel_rfl)
      (OpenSpec.preRow_of_cond 8 hx (by kernel_rfl) (fun k hk => by cases hk) (by kernel_rfl) (laid_met os))) ?_
  intro W base args ds gs before hval hW _ _ hsz hL hsh _
  exact contract H enc W base args ds gs before hval hW hsz hsh hL
theorem said : Rows.ValueRowsSaid :=
  OpenClaim.holds_of_cond 6 Tryz.f6 rfl rfl rfl rfl rfl rfl rfl ⟨rfl, rfl, rfl, rfl, rfl⟩ rfl rfl rfl rfl rfl (by kernel_rfl) Tryz.func6 (by kernel_rfl)
    (of_decide_eq_true (by kernel_rfl)) (by unfold Func.isWrapper; first | (rw [if_pos (by decide +kernel)]; kernel_rfl) | (rw [if_neg (by decide +kernel)]; exact ⟨rfl, rfl⟩))
    (fun os started H enc _ F => by rw [OpenClaim.pre_eq_preRow]; exact lifted os started H enc F)
theorem plain (f : FuncId) (fn : Func) (hf : Tryz.pinned.checked.prog.funcNamed "mortmain/mortmainlaw03.ValueRows" = some f) (hfn : Tryz.pinned.checked.prog.funcs[f]? = some fn) :
    true = Tryz.pinned.checked.prog.looks [] ∧ ∀ (j : Nat) t, fn.params[j]? = some t → Tryz.pinned.checked.prog.wantsStandIn t = false := by
  obtain rfl : f = 6 := Option.some.inj ((show Tryz.prog.funcNamed "mortmain/mortmainlaw03.ValueRows" = some 6 by kernel_rfl).symm.trans hf) |>.symm
  obtain rfl : fn = Tryz.f6 := (Option.some.inj (Tryz.func6.symm.trans hfn)).symm
  refine ⟨by kernel_rfl, fun j t ht => ?_⟩
  rw [Tryz.params6] at ht
  have hm := Array.mem_of_getElem? ht
  have h2 := Array.mem_toList_iff.mpr hm
  change t ∈ ([34, 9] : List Nat) at h2
  simp only [List.mem_cons, List.not_mem_nil, or_false] at h2
  rcases h2 with rfl | rfl
  · exact (show Tryz.prog.wantsStandIn 34 = false by kernel_rfl)
  · exact (show Tryz.prog.wantsStandIn 9 = false by kernel_rfl)
/-- The card. -/
theorem card : Rows.ValueRowsCardSaid :=
  Claim7.holds_tied_plain_at .later [] _ _ _ _ said (fun _ h => by cases h) (by kernel_rfl) (fun _ h => by cases h) valueRows_row_tie rfl ⟨rfl, rfl⟩ (by kernel_rfl) rfl plain (by kernel_rfl)
#print axioms card
end Go.Proofs.YtmaciepkkianhabGreatDoor.valueRows
