/- The law mortmainlaw03.ValueRowKeys: its row and its card, out of the walk (printed) and the plain fact that it answers true. Written by rowgen.py, this claim's own program. Lean checks it. -/
import Derived.Test.YtmaciepkkianhabGreatDoorXValueRowKeys0
import Derived.Test.YtmaciepkkianhabGreatDoorXValueRowKeys1
import Derived.Test.YtmaciepkkianhabGreatDoorCards
import Derived.Test.YtmaciepkkianhabGreatDoorTie
import Derived.WalkKit
import Derived.ProofKit
import Derived.OpenShut
import Derived.ShutString
import Derived.ChangeOld
import Derived.Below
import Derived.SizedLaws
import Derived.Carry
import Derived.Deep.DeepHandedRow
import Derived.Lib.LaidTab
import Derived.Lib.SmallJoins
import Derived.Shelf.Vars
import Derived.Lib.LaidU8
import Derived.Laws.Cover2
import Derived.Lay
namespace Go.Proofs.YtmaciepkkianhabGreatDoor.valueRowKeys
open Go.ChangeShapes Go.WideShapes Go.ChangeAt Go.RowKit Go.Joins
open Go.ChangeMaps (open_string shut_string)
set_option linter.unusedVariables false
theorem own : ownKnob Tryz.prog.godebug = none := by kernel_rfl
theorem laidOut : laidOutB Tryz.prog = true := by kernel_rfl
/-- What every world of the row holds that the walk asks for. -/
theorem tens_eq : (Rows.laid_internal_strconv_uint64pow10 : DataW Unit) = Lib.tabData .u64 Lib.pow10Tab := by kernel_rfl
theorem tabs {W : World} (h : W.ShapedOpen Tryz.prog) (hL : laidMet Tryz.prog Rows.valueRowKeysRow.laid W) : H.Tabs W := by
  have hm : ∃ m, W.cell? ⟨5, 0, none⟩ = some (.int .i64 m) := cell_of_shapedOpen_int (g := 5) (t := 3) (zero := #[.int .i64 0]) (k := .i64) h (of_decide_eq_true (by kernel_rfl)) (by kernel_rfl) rfl (by kernel_rfl) (by kernel_rfl) (by kernel_rfl)
  have h1 := (Lib.laidMet.reads hL (n := "internal/strconv.uint64pow10") (d := Rows.laid_internal_strconv_uint64pow10) (List.mem_of_getElem? (i := 3) rfl))
  rw [tens_eq] at h1
  have h2 := (Lib.laidMet.reads hL (n := "internal/strconv.pow10Tab") (d := Rows.laid_internal_strconv_pow10Tab) (List.mem_of_getElem? (i := 6) rfl))
  exact ⟨hm, T.tabIs_of_reads (g := 2) (t := 163) (e := 75) (n := 20) (by kernel_rfl) (by kernel_rfl) Tryz.underlying163 Tryz.underlying75 (by kernel_rfl) (by kernel_rfl) h1,
    fun i x hx => T.pairs_cell (g := 8) (t := 185) (e := 184) (n := 696) (k := .u64) (zs := Go.Pinned.pow10Rows) (by kernel_rfl) (by kernel_rfl) Tryz.underlying185 Tryz.underlying184 (fun i f hf => match i, hf with | 0, h => by (obtain rfl := Option.some.inj h; exact ⟨Tryz.underlying75, rfl, by kernel_rfl⟩) | 1, h => by (obtain rfl := Option.some.inj h; exact ⟨Tryz.underlying75, rfl, by kernel_rfl⟩) | n + 2, h => by (simp at h)) rfl (by kernel_rfl) h2 i x hx⟩
theorem int_in {n : Int} (h : (Lit.int .i64 n).wf = true) : M.I n := by
  have h2 : -9223372036854775808 ≤ n ∧ n ≤ 9223372036854775807 := by
    simp only [Lit.wf, IntKind.min, IntKind.max, IntKind.signed, IntKind.bits, Bool.and_eq_true, decide_eq_true_eq, if_true] at h
    omega
  exact h2
set_option maxHeartbeats 1600000 in
set_option maxRecDepth 100000 in
theorem contract (H : Type) (enc : TypeId × Value → H) (W : World) (base : Nat) (args : Array Value) (ds gs : List (DataW H)) (before : List MemPlace)
    (hval0 : ∀ (j : Nat) t v, Tryz.f5.params[j]? = some t → args[j]? = some v → Value.okWide Tryz.prog W .any base t v)
    (hW : DataW.Whole enc Tryz.prog Tryz.f5.params.toList Rows.valueRowKeysSpec.vars false W args.toList ds gs before)
    (hsz0 : (DataW.weightsEach Tryz.prog (Tryz.f5.params.toList ++ Rows.valueRowKeysSpec.plain.varTypes Tryz.prog) (ds ++ gs)).all (· ≤ reachBytes) = true)
    (hsh : W.ShapedOpen Tryz.prog) (hL : laidMet Tryz.prog Rows.valueRowKeysRow.laid W) :
    Calls Tryz.prog 5 args W fun e W' => ∃ v, e = .returned v ∧ Rows.valueRowKeysSpec.post enc Tryz.prog Tryz.f5 false true false false W args v W' := by
  have hT := tabs hsh hL
  have hsz : (DataW.weightsEach Tryz.prog (Tryz.f5.params.toList ++ Rows.valueRowKeysSpec.plain.varTypes Tryz.prog) (ds ++ gs)).all (· ≤ reachBytes) = true := hsz0
  have hval : ∀ (j : Nat) t v, Tryz.f5.params[j]? = some t → args[j]? = some v → Value.okWide Tryz.prog W .any base t v := hval0
  have hW' := hW
  obtain ⟨p, q, hA0, hV, rfl, hfz, hnd⟩ := hW
  have hA : DataW.TrodAll enc Tryz.prog W 0 (fun _ => true) true Tryz.f5.params.toList args.toList ds p := hA0
  rw [Tryz.params5] at hA hval hsz
  obtain ⟨v0, vs0, d0, ds0, p0, q0, hargs, rfl, rfl, h0, r0⟩ := trodAll_cons hA
  obtain ⟨rfl, rfl, rfl⟩ := trodAll_nil r0
  obtain rfl : args = #[v0] := by cases args; simp_all
  obtain ⟨rfl, rfl⟩ := trodVars_none hV
  have k0 := h0
  have lt0 : ∀ x ∈ p0, x.block < W.heap.size := by obtain ⟨m, hm⟩ := k0; exact DataW.trod_lt m _ _ _ hm
  obtain ⟨ad0, c0, l0, rfl, hc0, hr0, hm0, hin0⟩ := O.open_values (hval 0 34 v0 rfl rfl) h0
  have hl0 : l0.length ≤ 9223372036854775807 := hm0
  clear hA0 hval0 hsz0 hsz
  have pure_ := M.vrowkeys_true l0 hl0 (fun x hx => (hin0 x hx).1)
  refine (QVal.mortmainlaw03_ValueRowKeys.calls _ ad0 c0 l0 true W hr0 hc0 hT ⟨rfl⟩ pure_).mono fun e W' ⟨he, bel⟩ => ?_
  subst he
  exact ⟨_, rfl, _, _, _, [], _, [], hW', trodAll_mk1 (shut_bool Tryz.underlying4 _), (trodAll_cons_mk (Below.trod laidOut (by kernel_rfl) (of_decide_eq_true (by kernel_rfl)) k0 bel lt0) trodAll_mk0), rfl, bel.frame _, fun h => by cases h⟩
noncomputable def laidWorld (os : Os) : World := World.laidAll Tryz.prog os Rows.valueRowKeysRow.laid
theorem laid_met (os : Os) : laidMet Tryz.prog Rows.valueRowKeysRow.laid ((laidWorld os).forCall (fun _ _ => 0) ⟨#[], #[.slice none 0 0], []⟩).memory :=
  laidMet_laidAll _ (by kernel_rfl) (by kernel_rfl)
theorem reads (os : Os) {H : Type} (enc : TypeId × Value → H) : ∃ places, DataW.whole enc Tryz.prog ((laidWorld os).forCall (fun _ _ => 0) ⟨#[], #[.slice none 0 0], []⟩).memory Tryz.f5.params.toList Rows.valueRowKeysSpec.vars false (#[.slice none 0 0] : Array Value).toList 8 = some ([.nil], [], places) :=
  ⟨[], by kernel_rfl⟩
set_option maxRecDepth 100000 in
theorem lifted (os : Os) (started : os.Started) (H : Type) (enc : TypeId × Value → H) (F : Stop.Interp) :
    ReturnsInHanded {} Tryz.checked os 5 .any ((OpenSpec.ofChange Rows.valueRowKeysSpec).preRow enc Tryz.prog Tryz.f5 Rows.valueRowKeysRow.domain false Rows.valueRowKeysRow.laid) (((OpenSpec.ofChange Rows.valueRowKeysSpec).at F).post enc Tryz.prog Tryz.f5 false true false false) := by
  obtain ⟨places, hx⟩ := reads os enc
  refine returnsInHanded_of_row (C := Tryz.checked) (s := OpenSpec.ofChange Rows.valueRowKeysSpec) own started (by kernel_rfl) Tryz.func5
    (V.witness_row_zip (enc := enc) (C := Tryz.checked) false (laidWorld os) #[.slice none 0 0] (World.laidAll_os _ _ _) (by kernel_rfl) (by kernel_rfl) (by kernel_rfl)
      (OpenSpec.preRow_of_cond 8 hx (by kernel_rfl) (fun k hk => by cases hk) (by kernel_rfl) (laid_met os))) ?_
  intro W base args ds gs before hval hW _ _ hsz hL hsh _
  exact contract H enc W base args ds gs before hval hW hsz hsh hL
theorem said : Rows.ValueRowKeysSaid :=
  OpenClaim.holds_of_cond 5 Tryz.f5 rfl rfl rfl rfl rfl rfl rfl ⟨rfl, rfl, rfl, rfl, rfl⟩ rfl rfl rfl rfl rfl (by kernel_rfl) Tryz.func5 (by kernel_rfl)
    (of_decide_eq_true (by kernel_rfl)) (by unfold Func.isWrapper; first | (rw [if_pos (by decide +kernel)]; kernel_rfl) | (rw [if_neg (by decide +kernel)]; exact ⟨rfl, rfl⟩))
    (fun os started H enc _ F => by rw [OpenClaim.pre_eq_preRow]; exact lifted os started H enc F)
theorem plain (f : FuncId) (fn : Func) (hf : Tryz.pinned.checked.prog.funcNamed "mortmain/mortmainlaw03.ValueRowKeys" = some f) (hfn : Tryz.pinned.checked.prog.funcs[f]? = some fn) :
    true = Tryz.pinned.checked.prog.looks [] ∧ ∀ (j : Nat) t, fn.params[j]? = some t → Tryz.pinned.checked.prog.wantsStandIn t = false := by
  obtain rfl : f = 5 := Option.some.inj ((show Tryz.prog.funcNamed "mortmain/mortmainlaw03.ValueRowKeys" = some 5 by kernel_rfl).symm.trans hf) |>.symm
  obtain rfl : fn = Tryz.f5 := (Option.some.inj (Tryz.func5.symm.trans hfn)).symm
  refine ⟨by kernel_rfl, fun j t ht => ?_⟩
  rw [Tryz.params5] at ht
  have hm := Array.mem_of_getElem? ht
  have h2 := Array.mem_toList_iff.mpr hm
  change t ∈ ([34] : List Nat) at h2
  simp only [List.mem_cons, List.not_mem_nil, or_false] at h2
  rcases h2 with rfl
  · exact (show Tryz.prog.wantsStandIn 34 = false by kernel_rfl)
/-- The card. -/
theorem card : Rows.ValueRowKeysCardSaid :=
  Claim7.holds_tied_plain_at .later [] _ _ _ _ said (fun _ h => by cases h) (by kernel_rfl) (fun _ h => by cases h) valueRowKeys_row_tie rfl ⟨rfl, rfl⟩ (by kernel_rfl) rfl plain (by kernel_rfl)
#print axioms card
end Go.Proofs.YtmaciepkkianhabGreatDoor.valueRowKeys
