-- Parts of the proof, joined by pack.py, this claim's own program.
import Derived.Laws.BitsAllLaws
import Derived.Laws.FloatBits
import Derived.WalkKit
import Derived.Lib.LaidU8
import Derived.OpenShut
import GoSem.PinnedTables
import Derived.Test.YtmaciepkkianhabGreatDoorWWords
import Derived.Test.YtmaciepkkianhabGreatDoorWLast
import Derived.Test.YtmaciepkkianhabGreatDoorWMore
import Derived.Test.YtmaciepkkianhabGreatDoorProg
import Derived.KernelRfl
import Derived.Lib.LaidTab
import Derived.Lib.ItoaNum
import Derived.Laws.Externs
import Derived.BigCall
import Derived.IntWalk
import Derived.Outline
import Derived.Deep.RegionWith
import Derived.WalkLawsBesides
import Derived.Below
import Derived.Deep.Draws
import Derived.Deep.AppendLies
import Derived.Maps.AppendAt
import Derived.OwnWalk
import Derived.Laws.BytesArg
import Derived.Laws.MakeOwn
import Derived.Laws.OwnMore
import Derived.Deep.OwnRows
import Derived.Tactics
import Derived.Lib.ConvBytes
import Derived.Laws.Slices
import Derived.RowKit3
import Derived.Deep.LoopGhost
import Derived.Deep.QuietTactic
import Derived.BigQuiet
import Derived.WideLaws
import Derived.Deep.DeepCutAuto
import Derived.Deep.CutBlock
import Derived.Deep.RegionHeld3
import Derived.Laws.Rows
import Derived.Lib.AppendStr
import Derived.ArgAppend
import Derived.Laws.IdiomCopy
import Derived.OrdersHeld
import Derived.Laws.BitsLemmas
import Derived.RowKit
import Derived.Test.YtmaciepkkianhabGreatDoorWTab
import Derived.Test.YtmaciepkkianhabGreatDoorWQPut
import Derived.Test.YtmaciepkkianhabGreatDoorWApart
import Derived.Test.YtmaciepkkianhabGreatDoorWArr
import Derived.Test.YtmaciepkkianhabGreatDoorWZeros
import Derived.Test.YtmaciepkkianhabGreatDoorWFoot
import Derived.Test.YtmaciepkkianhabGreatDoorWKept
import Derived.Test.YtmaciepkkianhabGreatDoorWShare
import Derived.Test.YtmaciepkkianhabGreatDoorWN
import Derived.Test.YtmaciepkkianhabGreatDoorWEqStruct
import Derived.Test.YtmaciepkkianhabGreatDoorWRepsOne
import Derived.Test.YtmaciepkkianhabGreatDoorWInv
import Derived.Test.YtmaciepkkianhabGreatDoorWGuard
import Derived.Test.YtmaciepkkianhabGreatDoorWNEv
import Derived.Shelf.Strings.Builder1
import Derived.Shelf.Strings.Builder2
import Derived.Shelf.Strings.BuilderF
import Derived.Shelf.Strings.BuilderK
import Derived.Shelf.Utf8.RuneCount
import Derived.Shelf.Strconv.Itoa0
import Derived.Shelf.Strconv.Itoa1
import Derived.Shelf.LaysM
import Derived.Shelf.Strconv.Itoa2
import Derived.Shelf.Strconv.Itoa3
import Derived.Shelf.Strings.Search1
import Derived.Shelf.Strings.Search2
import Derived.Shelf.Strings.Search3
import Derived.Shelf.Strings.Count
import Derived.Shelf.Strings.Shaped
import Derived.Shelf.Strconv.AppendUint10
import Derived.Shelf.Strconv.AppendInt10
import Derived.Shelf.Strings.Split
import Derived.Shelf.Strings.Replace
import Derived.Shelf.Strings.SplitShaped
import Derived.Shelf.Unicode.Decode
import Derived.Shelf.Strings.RuneCount
import Derived.Shelf.Bits.Mul64
import Derived.Shelf.Unicode.DecodeSlow
import Derived.Shelf.Unicode.DecodeAny
import Derived.WalkSpells
import Derived.Laws.Strings
import Derived.Lib.AppendIntMem
namespace Go.Proofs.YtmaciepkkianhabGreatDoor.M
open Go.RowKit

theorem xor_max_nat (a : Nat) (h : a < 18446744073709551616) : 18446744073709551615 ^^^ a = 18446744073709551615 - a := by
  apply Nat.eq_of_testBit_eq
  intro i
  rw [Nat.testBit_xor, show 18446744073709551615 - a = 2 ^ 64 - (a + 1) by omega, Nat.testBit_two_pow_sub_succ (by simpa using h), show (18446744073709551615 : Nat) = 2 ^ 64 - 1 from rfl, Nat.testBit_two_pow_sub_one]
  by_cases hi : i < 64
  · simp [hi]
  · rw [Nat.testBit_lt_two_pow (Nat.lt_of_lt_of_le (by simpa using h : a < 2 ^ 64) (Nat.pow_le_pow_right (by decide) (by omega)))]
    simp [hi]
theorem wrap_u64 (n : Int) : IntKind.u64.wrap n = n % 18446744073709551616 := IntKind.wrap_u64 n
theorem u64_range (n : Int) : 0 ≤ IntKind.u64.wrap n ∧ IntKind.u64.wrap n < 18446744073709551616 := by rw [wrap_u64]; omega

/-! ### Floats by their bits -/
abbrev F := FloatKind.f64.format
/-- The magnitude that a rung has, in units of the least one. -/
def mval (r : Nat) : Nat := if r < 4503599627370496 then r else (4503599627370496 + r % 4503599627370496) * 2 ^ (r / 4503599627370496 - 1)
theorem mval_step (r : Nat) : mval r < mval (r + 1) := by
  unfold mval
  by_cases h : r + 1 < 4503599627370496
  · rw [if_pos h, if_pos (by omega)]; omega
  · rw [if_neg h]
    by_cases h2 : r < 4503599627370496
    · obtain rfl : r = 4503599627370495 := by omega
      decide
    · rw [if_neg h2]
      by_cases h3 : r % 4503599627370496 = 4503599627370495
      · have e1 : (r + 1) / 4503599627370496 - 1 = (r / 4503599627370496 - 1) + 1 := by omega
        have e2 : (r + 1) % 4503599627370496 = 0 := by omega
        rw [e1, e2, h3, Nat.pow_succ]
        have := Nat.two_pow_pos (r / 4503599627370496 - 1)
        generalize 2 ^ (r / 4503599627370496 - 1) = p at *
        omega
      · have e1 : (r + 1) / 4503599627370496 - 1 = r / 4503599627370496 - 1 := by omega
        have e2 : (r + 1) % 4503599627370496 = r % 4503599627370496 + 1 := by omega
        rw [e1, e2]
        exact Nat.mul_lt_mul_of_pos_right (by omega) (Nat.two_pow_pos _)
theorem mval_lt {r s : Nat} (h : r < s) : mval r < mval s := by
  induction s with
  | zero => omega
  | succ s ih =>
    rcases Nat.lt_or_ge r s with hl | hg
    · exact Nat.lt_trans (ih hl) (mval_step s)
    · obtain rfl : r = s := by omega
      exact mval_step r
theorem mval_lt_iff {r s : Nat} : mval r < mval s ↔ r < s := by
  constructor
  · intro h
    rcases Nat.lt_trichotomy r s with hl | he | hg
    · exact hl
    · subst he; omega
    · have := mval_lt hg; omega
  · exact mval_lt

/-- What is no number; what a float is ordered by. -/
def isNan (u : Nat) : Bool := decide (u % 9223372036854775808 > 9218868437227405312)
def skey (u : Nat) : Int := if u < 9223372036854775808 then (u : Int) else -((u - 9223372036854775808 : Nat) : Int)

theorem read_eq (u : Nat) : F.read u =
    (let neg := u / 9223372036854775808 % 2 == 1
     let r := u % 9223372036854775808
     if r < 4503599627370496 then .number neg r (-1074)
     else if r < 9218868437227405312 then .number neg (4503599627370496 + r % 4503599627370496) (-1074 + (r / 4503599627370496 - 1 : Nat))
     else if r = 9218868437227405312 then .infinity neg
     else .nan neg (r - 9218868437227405312)) := by
  rfl

def sg (s : Bool) (n : Nat) : Int := if s then -(n : Int) else n
theorem cmp_congr {a b c d : Int} (h1 : a < b ↔ c < d) (h2 : a = b ↔ c = d) : compare a b = compare c d := by
  simp only [compare, compareOfLessAndEq, h1, h2]
theorem sg_lt {f : Nat → Nat} (hf : ∀ {r s : Nat}, f r < f s ↔ r < s) (h0 : f 0 = 0) (s t : Bool) (a b : Nat) : sg s (f a) < sg t (f b) ↔ sg s a < sg t b := by
  have h1 := @hf a b
  have h2 := @hf b a
  have h3 := @hf 0 a
  have h4 := @hf 0 b
  rw [h0] at h3 h4
  cases s <;> cases t <;> simp only [sg] <;> simp <;> omega
theorem sg_eq {f : Nat → Nat} (hf : ∀ {r s : Nat}, f r < f s ↔ r < s) (h0 : f 0 = 0) (s t : Bool) (a b : Nat) : sg s (f a) = sg t (f b) ↔ sg s a = sg t b := by
  have h1 := @hf a b
  have h2 := @hf b a
  have h3 := @hf 0 a
  have h4 := @hf 0 b
  rw [h0] at h3 h4
  cases s <;> cases t <;> simp only [sg] <;> simp <;> omega
theorem signed_sg (s : Bool) (m up : Nat) : Ieee.signed s m up = sg s (m * 2 ^ up) := by
  unfold Ieee.signed sg
  rw [Nat.shiftLeft_eq]
theorem sg_mul (s : Bool) (m p : Nat) : sg s (m * p) = sg s m * (p : Int) := by
  cases s <;> simp [sg, Int.neg_mul]
theorem cmp_scale (s t : Bool) (m n e1 e2 : Nat) :
    compare (Ieee.signed s m ((-1074 + (e1 : Int)) - min (-1074 + (e1 : Int)) (-1074 + (e2 : Int))).toNat) (Ieee.signed t n ((-1074 + (e2 : Int)) - min (-1074 + (e1 : Int)) (-1074 + (e2 : Int))).toNat) = compare (sg s (m * 2 ^ e1)) (sg t (n * 2 ^ e2)) := by
  rw [signed_sg, signed_sg]
  have q1 : ((-1074 + (e1 : Int)) - min (-1074 + (e1 : Int)) (-1074 + (e2 : Int))).toNat = e1 - min e1 e2 := by omega
  have q2 : ((-1074 + (e2 : Int)) - min (-1074 + (e1 : Int)) (-1074 + (e2 : Int))).toNat = e2 - min e1 e2 := by omega
  rw [q1, q2]
  have p1 : m * 2 ^ e1 = m * 2 ^ (e1 - min e1 e2) * 2 ^ min e1 e2 := by rw [Nat.mul_assoc, ← Nat.pow_add]; congr 2; omega
  have p2 : n * 2 ^ e2 = n * 2 ^ (e2 - min e1 e2) * 2 ^ min e1 e2 := by rw [Nat.mul_assoc, ← Nat.pow_add]; congr 2; omega
  rw [p1, p2, sg_mul s (m * 2 ^ (e1 - min e1 e2)), sg_mul t (n * 2 ^ (e2 - min e1 e2))]
  have hp : (0 : Int) < ((2 ^ min e1 e2 : Nat) : Int) := by exact_mod_cast Nat.two_pow_pos _
  generalize ((2 ^ min e1 e2 : Nat) : Int) = p at *
  apply cmp_congr
  · exact (Int.mul_lt_mul_right hp).symm
  · exact ⟨fun h => by rw [h], fun h => Int.eq_of_mul_eq_mul_right (by omega) h⟩

def neg (u : Nat) : Bool := u / 9223372036854775808 % 2 == 1
theorem skey_sg (u : Nat) (hu : u < 18446744073709551616) : skey u = sg (neg u) (u % 9223372036854775808) := by
  unfold skey sg neg
  by_cases h : u < 9223372036854775808
  · rw [if_pos h, if_neg (by simp; omega)]; omega
  · rw [if_neg h, if_pos (by simp; omega)]; omega
/-- A finite float's datum: the magnitude of its rung, in units of the least one. -/
theorem read_fin (u : Nat) (h : u % 9223372036854775808 < 9218868437227405312) :
    ∃ m e : Nat, F.read u = .number (neg u) m (-1074 + (e : Int)) ∧ m * 2 ^ e = mval (u % 9223372036854775808) := by
  rw [read_eq]
  by_cases h1 : u % 9223372036854775808 < 4503599627370496
  · exact ⟨u % 9223372036854775808, 0, by simp only [if_pos h1]; rfl, by unfold mval; rw [if_pos h1]; simp⟩
  · exact ⟨_, _, by simp only [if_neg h1, if_pos h]; rfl, by unfold mval; rw [if_neg h1]⟩
theorem read_inf (u : Nat) (h : u % 9223372036854775808 = 9218868437227405312) : F.read u = .infinity (neg u) := by
  rw [read_eq]
  simp only [h]; rfl
theorem read_nan (u : Nat) (h : isNan u = true) : ∃ t, F.read u = .nan (neg u) t := by
  have h' : u % 9223372036854775808 > 9218868437227405312 := by simpa [isNan] using h
  rw [read_eq]
  exact ⟨_, by simp only [if_neg (show ¬ u % 9223372036854775808 < 4503599627370496 by omega), if_neg (show ¬ u % 9223372036854775808 < 9218868437227405312 by omega), if_neg (show ¬ u % 9223372036854775808 = 9218868437227405312 by omega)]; rfl⟩

theorem cmp_eq_iff (a b : Int) : compare a b = .eq ↔ a = b := by
  simp only [compare, compareOfLessAndEq]
  split
  · constructor
    · intro h; cases h
    · intro h; omega
  · split <;> simp_all
theorem cmp_lt_iff (a b : Int) : compare a b = .lt ↔ a < b := by
  simp only [compare, compareOfLessAndEq]
  split
  · simp_all
  · split <;> simp_all
theorem cmp_gt_iff (a b : Int) : compare a b = .gt ↔ b < a := by
  simp only [compare, compareOfLessAndEq]
  split
  · constructor
    · intro h; cases h
    · intro h; omega
  · split
    · constructor
      · intro h; cases h
      · intro h; omega
    · constructor
      · intro _; omega
      · intro _; rfl
theorem sg_bound (s : Bool) (r : Nat) (h : r < 9218868437227405312) : sg s r < sg false 9218868437227405312 ∧ sg true 9218868437227405312 < sg s r := by
  simp only [sg, if_true, Bool.false_eq_true, if_false]
  cases s <;> simp <;> omega
/-- The order of two floats that are numbers. -/
theorem order_num (u v : Nat) (hu : u < 18446744073709551616) (hv : v < 18446744073709551616) (nu : isNan u = false) (nv : isNan v = false) :
    F.order u v = some (compare (skey u) (skey v)) := by
  have au : u % 9223372036854775808 ≤ 9218868437227405312 := by simpa [isNan] using nu
  have av : v % 9223372036854775808 ≤ 9218868437227405312 := by simpa [isNan] using nv
  rw [skey_sg u hu, skey_sg v hv]
  show (F.read u).order (F.read v) = _
  by_cases fu : u % 9223372036854775808 < 9218868437227405312
  · obtain ⟨m, e, ru, mu⟩ := read_fin u fu
    rw [ru]
    by_cases fv : v % 9223372036854775808 < 9218868437227405312
    · obtain ⟨n, f, rv, mv⟩ := read_fin v fv
      rw [rv]
      simp only [Ieee.Datum.order]
      rw [cmp_scale, mu, mv]
      exact congrArg some (cmp_congr (sg_lt mval_lt_iff (by decide) _ _ _ _) (sg_eq mval_lt_iff (by decide) _ _ _ _))
    · have rv := read_inf v (by omega)
      rw [rv]
      simp only [Ieee.Datum.order]
      have ev : v % 9223372036854775808 = 9218868437227405312 := by omega
      rw [ev]
      have hb := sg_bound (neg u) _ fu
      generalize sg (neg u) (u % 9223372036854775808) = q at *
      congr 1
      cases neg v
      · exact ((cmp_lt_iff _ _).mpr hb.1).symm
      · exact ((cmp_gt_iff _ _).mpr hb.2).symm
  · have ru := read_inf u (by omega)
    rw [ru]
    have eu : u % 9223372036854775808 = 9218868437227405312 := by omega
    rw [eu]
    by_cases fv : v % 9223372036854775808 < 9218868437227405312
    · obtain ⟨n, f, rv, mv⟩ := read_fin v fv
      rw [rv]
      simp only [Ieee.Datum.order]
      have hb := sg_bound (neg v) _ fv
      generalize sg (neg v) (v % 9223372036854775808) = q at *
      congr 1
      cases neg u
      · exact ((cmp_gt_iff _ _).mpr hb.1).symm
      · exact ((cmp_lt_iff _ _).mpr hb.2).symm
    · have rv := read_inf v (by omega)
      rw [rv]
      have ev : v % 9223372036854775808 = 9218868437227405312 := by omega
      rw [ev]
      simp only [Ieee.Datum.order]
      generalize neg u = s
      generalize neg v = t
      cases s <;> cases t <;> decide
theorem order_nan_l (u v : Nat) (h : isNan u = true) : F.order u v = none := by
  obtain ⟨t, hr⟩ := read_nan u h
  show (F.read u).order (F.read v) = _
  rw [hr]; rfl
theorem ne_self (u : Nat) (hu : u < 18446744073709551616) : (F.order u u != some Ordering.eq) = isNan u := by
  cases h : isNan u
  · rw [order_num u u hu hu h h, (cmp_eq_iff _ _).mpr rfl]; rfl
  · rw [order_nan_l u u h]; rfl
theorem eq_zero (u : Nat) (hu : u < 18446744073709551616) (h : isNan u = false) : (F.order u 0 == some Ordering.eq) = decide (u % 9223372036854775808 = 0) := by
  rw [order_num u 0 hu (by omega) h (by decide)]
  have e : compare (skey u) (skey 0) = .eq ↔ u % 9223372036854775808 = 0 := by
    rw [cmp_eq_iff, skey_sg u hu]
    show sg (neg u) _ = 0 ↔ _
    cases neg u <;> simp [sg] <;> omega
  by_cases q : u % 9223372036854775808 = 0
  · rw [e.mpr q]; simp [q]
  · simp only [q, decide_false]
    have : compare (skey u) (skey 0) ≠ .eq := fun h => q (e.mp h)
    cases hc : compare (skey u) (skey 0) <;> simp_all
/-- The bits by which a float is kept. -/
def kept (u : Nat) : Int := if isNan u = true then 9221120237041090560 else if u % 9223372036854775808 = 0 then 0 else wrap64 (u : Int)
/-- The bits that an int's are. -/
def ub (n : Int) : Nat := (IntKind.u64.wrap n).toNat
theorem ub_lt (n : Int) : ub n < 18446744073709551616 := by unfold ub; have := u64_range n; omega
end Go.Proofs.YtmaciepkkianhabGreatDoor.M

namespace Go.Proofs.YtmaciepkkianhabGreatDoor.T
open Go.Lib

/-- An array of structs of two numbers each, that reads as these pairs, holds them. -/
theorem pairs_of_array {H : Type} {enc : TypeId × Value → H} {P : Program} {w : World} {base : Nat} {sp : Nat → Bool} {held : Bool} {fuel : Nat} {t e : TypeId} {n : Nat} {fs : Array Field} {k : IntKind} {cs : List Value} {zs : List (Nat × Nat)} {p : List MemPlace}
    (ht : P.underlying t = some (.array n e)) (he : P.underlying e = some (.struct fs)) (hf : ∀ (i : Nat) (f : Field), fs[i]? = some f → P.underlying f.type = some (.int k) ∧ f.offset = i ∧ P.cellsOf f.type = 1)
    (hfs : fs.size = 2) (hce : P.cellsOf e = 2)
    (h : DataW.trod enc P w base sp held fuel t cs = some (.agg (zs.map fun x => .agg [.lit (.int k x.1), .lit (.int k x.2)]), p)) (i : Nat) (x : Nat × Nat) (hx : zs[i]? = some x) :
    cs[2 * i]? = some (.int k x.1) ∧ cs[2 * i + 1]? = some (.int k x.2) := by
  obtain ⟨xs, m, rfl, hd, hl, hn, hall⟩ := DataW.trod_array ht h
  have hxs : xs.map (·.1) = zs.map fun x => (.agg [.lit (.int k x.1), .lit (.int k x.2)] : DataW H) := by
    have := congrArg Prod.fst hd
    simpa using this.symm
  have hi : i < zs.length := by
    rcases Nat.lt_or_ge i zs.length with h | h
    · exact h
    · rw [List.getElem?_eq_none h] at hx; cases hx
  have hzl : zs.length = n := by
    have := congrArg List.length hxs
    simp at this
    omega
  have h1 := hall i (by omega)
  obtain ⟨b, hb⟩ : ∃ b, xs[i]? = some b := ⟨xs[i]'(by omega), List.getElem?_eq_getElem (by omega)⟩
  have h2 : (xs.map (·.1))[i]? = some b.1 := by simp [hb]
  rw [hxs, List.getElem?_map, hx] at h2
  have hb1 : b.1 = .agg [.lit (.int k x.1), .lit (.int k x.2)] := (Option.some.inj h2).symm
  rw [hb, hce] at h1
  have h3 := ints_of_struct (enc := enc) (P := P) (w := w) (base := base) (sp := sp) (held := held) (zs := [(x.1 : Int), (x.2 : Int)]) (p := b.2) he hf (by rw [hce, hfs]) (by rw [h1]; exact congrArg some (Prod.ext hb1 rfl))
  constructor
  · have := congrArg (·[0]?) h3
    simpa [List.getElem?_take, List.getElem?_drop, Nat.mul_comm] using this
  · have := congrArg (·[1]?) h3
    simpa [List.getElem?_take, List.getElem?_drop, Nat.mul_comm] using this
/-- What a walk reads of such a variable. -/
theorem pairs_cell {P : Program} {w : World} {name : String} {g : Nat} {t e : TypeId} {n : Nat} {fs : Array Field} {k : IntKind} {zs : List (Nat × Nat)}
    (hg : P.globalNamed name = some g) (hty : (P.globals[g]?).map (·.type) = some t)
    (ht : P.underlying t = some (.array n e)) (he : P.underlying e = some (.struct fs)) (hf : ∀ (i : Nat) (f : Field), fs[i]? = some f → P.underlying f.type = some (.int k) ∧ f.offset = i ∧ P.cellsOf f.type = 1)
    (hfs : fs.size = 2) (hce : P.cellsOf e = 2)
    (h : VarReads P w name (.agg (zs.map fun x => .agg [.lit (.int k x.1), .lit (.int k x.2)]))) (i : Nat) (x : Nat × Nat) (hx : zs[i]? = some x) :
    w.cell? ⟨g, i * 2, none⟩ = some (.int k x.1) ∧ w.cell? ⟨g, i * 2 + 1, none⟩ = some (.int k x.2) := by
  obtain ⟨g', t', cs, fuel, p, hg', ht', hvar, hd⟩ := h
  obtain rfl := Option.some.inj (hg.symm.trans hg')
  obtain rfl := Option.some.inj (hty.symm.trans ht')
  obtain ⟨h1, h2⟩ := pairs_of_array ht he hf hfs hce hd i x hx
  rw [Nat.mul_comm] at h1 h2
  have r := World.var?_cell hg hvar
  constructor
  · rw [r]; simpa using h1
  · rw [r]; simpa using h2
/-- A table of numbers, wherever it stands on the list. -/
theorem tabIs_of_reads {P : Program} {W : World} {name : String} {k : IntKind} {zs : List Int} {g : Nat} {t e : TypeId} {n : Nat}
    (hg : P.globalNamed name = some g) (hty : (P.globals[g]?).map (·.type) = some t) (ht : P.underlying t = some (.array n e)) (he : P.underlying e = some (.int k)) (hce : P.cellsOf e = 1) (hct : P.cellsOf t = n)
    (h : VarReads P W name (tabData k zs)) : TabIs P W name k zs := by
  obtain ⟨g', t', cs, fuel, p, hg', ht', hvar, hd⟩ := h
  obtain rfl := Option.some.inj (hg.symm.trans hg')
  obtain rfl := Option.some.inj (hty.symm.trans ht')
  unfold TabIs
  rw [hvar, ← cells_of_tab ht he hce hct hd]
end Go.Proofs.YtmaciepkkianhabGreatDoor.T

namespace Go.Proofs.YtmaciepkkianhabGreatDoor.H
open Go.RowKit Go.Proofs Go.Proofs.YtmaciepkkianhabGreatDoorW.PrintWords Go.Proofs.YtmaciepkkianhabGreatDoorW.PrintLast

theorem ite_signed_u64 (a b : Int) : (if IntKind.u64.signed = true then a else b) = b := if_neg (by decide)
theorem ite_signed_u32 (a b : Int) : (if IntKind.u32.signed = true then a else b) = b := if_neg (by decide)

/-- What the library's tables hold. -/
structure Tabs (w : World) : Prop where
  max : ∃ m, w.cell? ⟨5, 0, none⟩ = some (.int .i64 m)
  tens : Lib.TabIs Tryz.prog w "internal/strconv.uint64pow10" .u64 Lib.pow10Tab
  pows : ∀ (i : Nat) (x : Nat × Nat), Go.Pinned.pow10Rows[i]? = some x → w.cell? ⟨8, i * 2, none⟩ = some (.int .u64 x.1) ∧ w.cell? ⟨8, i * 2 + 1, none⟩ = some (.int .u64 x.2)
theorem g_tens : Tryz.prog.globalNamed "internal/strconv.uint64pow10" = some 2 := by kernel_rfl
theorem Tabs.below {w W : World} (h : Tabs w) (hb : Below w.heap.size w W) : Tabs W := by
  obtain ⟨m, hm⟩ := h.max
  refine ⟨⟨m, pw_cell_below hb hm⟩, ?_, fun i x hx => ⟨pw_cell_below hb (h.pows i x hx).1, pw_cell_below hb (h.pows i x hx).2⟩⟩
  have hc := h.tens.cell g_tens 0 (by decide)
  exact var?_below hb g_tens (World.block_lt_of_cell? w _ hc) h.tens
theorem Tabs.drewN {w : World} (h : Tabs w) (n : Nat) : Tabs (w.drewN n) := ⟨h.max, h.tens, h.pows⟩
theorem run_f64bits (P : Program) {f : FuncId} {fn : Func} (hf : P.funcs[f]? = some fn) (hname : (fn.name == "runtime.NumGoroutine") = false)
    (hb : fn.body.isNone = true) (hn : Extern.findNext fn = none) (he : Extern.find fn = some Extern.MathFloatBits.float64bits) (b : Nat) (w : World) :
    (callFunc f #[.float .f64 b]).run P w = .ok (.value (.int .u64 b)) w := by
  rw [run_callFunc_extern hf hname hb hn he]
  rfl
theorem run_f64frombits (P : Program) {f : FuncId} {fn : Func} (hf : P.funcs[f]? = some fn) (hname : (fn.name == "runtime.NumGoroutine") = false)
    (hb : fn.body.isNone = true) (hn : Extern.findNext fn = none) (he : Extern.find fn = some Extern.MathFloatBits.float64frombits) (n : Int) (w : World) :
    (callFunc f #[.int .u64 n]).run P w = .ok (.value (.float .f64 n.toNat)) w := by
  rw [run_callFunc_extern hf hname hb hn he]
  rfl
theorem ext68 (b : Nat) (w : World) : (callFunc 68 #[.float .f64 b]).run Tryz.prog w = .ok (.value (.int .u64 b)) w :=
  run_f64bits Tryz.prog Tryz.func68 (by kernel_rfl) (by kernel_rfl) (by kernel_rfl) (by kernel_rfl) b w
theorem ext69 (b : Int) (w : World) : (callFunc 69 #[.int .u64 b]).run Tryz.prog w = .ok (.value (.float .f64 b.toNat)) w :=
  run_f64frombits Tryz.prog Tryz.func69 (by kernel_rfl) (by kernel_rfl) (by kernel_rfl) (by kernel_rfl) b w
theorem ext99 (b : Nat) (w : World) : (callFunc 99 #[.float .f64 b]).run Tryz.prog w = .ok (.value (.int .u64 b)) w :=
  run_f64bits Tryz.prog Tryz.func99 (by kernel_rfl) (by kernel_rfl) (by kernel_rfl) (by kernel_rfl) b w

/-- What the table holds. -/
def pw (i : Nat) : Nat × Nat := Go.Pinned.pow10Rows.getD i (0, 0)
def strconv_prescale.f (_s0 _s1 _s2 a1 a2 a3 : Int) : Option (Int × Int × Int) :=
  if -348 ≤ a2 ∧ a2 < 348 then some ((pw (a2 + 348).toNat).1, (pw (a2 + 348).toNat).2, wrap64 (-(wrap64 (wrap64 (a1 + a3) + 3)))) else none
theorem pows_len : Go.Pinned.pow10Rows.length = 696 := by kernel_rfl
theorem pw_at (i : Nat) (h : i < 696) : Go.Pinned.pow10Rows[i]? = some (pw i) := by
  unfold pw
  rw [List.getD_eq_getElem?_getD, List.getElem?_eq_getElem (by rw [pows_len]; exact h)]
  rfl
set_option maxHeartbeats 4000000 in
set_option maxRecDepth 100000 in
theorem strconv_prescale.calls (g : Nat) (s0 s1 s2 a1 a2 a3 r1 r2 r3 : Int) (w0 w : World)
    (hI : w.heap[g]? = some (.cells #[.int .u64 s0, .int .u64 s1, .int .i64 s2] 154 (0, 0)) ∧ w0.heap.size ≤ g) (hB : Below w0.heap.size w0 w) (hT : Tabs w) (h : strconv_prescale.f s0 s1 s2 a1 a2 a3 = some (r1, r2, r3)) :
    Calls Tryz.prog 130 #[.pointer (some ⟨g, 0, none⟩), .int .i64 a1, .int .i64 a2, .int .i64 a3] w fun e w' => e = .returned (.tuple #[]) ∧ (w'.heap[g]? = some (.cells #[.int .u64 r1, .int .u64 r2, .int .i64 r3] 154 (0, 0)) ∧ w0.heap.size ≤ g) ∧ Below w0.heap.size w0 w' ∧ KeepBut w w' g none := by
  unfold strconv_prescale.f at h
  split at h
  case isFalse => cases h
  rename_i hr
  simp only [Option.some.injEq, Prod.mk.injEq] at h
  obtain ⟨h1, h2, h3⟩ := h
  obtain ⟨i, hi⟩ : ∃ i : Nat, a2 = (i : Int) - 348 := ⟨(a2 + 348).toNat, by omega⟩
  have hi2 : i < 696 := by omega
  have hp := hT.pows i _ (pw_at i hi2)
  have ei : (a2 + 348).toNat = i := by omega
  rw [ei] at h1 h2
  rw [h1, h2] at hp
  obtain ⟨hp1, hp2⟩ := hp
  have H3 := Aside0.mk h3
  have HI := Aside0.mk hI
  have HT := Aside0.mk hT
  have HB := Aside0.mk hB
  have hcz0 : w.cell? ⟨g, 0, none⟩ = some (.int .u64 s0) := (blk_cell hI.1 0).trans rfl
  have hcz1 : w.cell? ⟨g, 1, none⟩ = some (.int .u64 s1) := (blk_cell hI.1 1).trans rfl
  have hcz2 : w.cell? ⟨g, 2, none⟩ = some (.int .i64 s2) := (blk_cell hI.1 2).trans rfl
  have hfz0 := blk_frozen hI.1 0
  have hfz1 := blk_frozen hI.1 1
  have hfz2 := blk_frozen hI.1 2
  subst hi
  clear hI hT hB h1 h2 h3 ei hr
  go_enter Tryz.func130, Tryz.ntmps130
  go_wp2
  go_end0
  rw [H3.out]
  refine ⟨rfl, ⟨?_, HI.out.2⟩, ?_, ?_⟩
  · refine blk_put (cs := #[.int .u64 r1, .int .u64 r2, .int .i64 s2]) ?_ 2 _ rfl
    refine blk_put (cs := #[.int .u64 r1, .int .u64 s1, .int .i64 s2]) ?_ 1 _ rfl
    exact blk_put (cs := #[.int .u64 s0, .int .u64 s1, .int .i64 s2]) HI.out.1 0 _ rfl
  · exact ((HB.out.setCell (p := ⟨g, 0, none⟩) HI.out.2 _).setCell (p := ⟨g, 1, none⟩) HI.out.2 _).setCell (p := ⟨g, 2, none⟩) HI.out.2 _
  · exact KeepBut.set_ (KeepBut.set_ (KeepBut.set_ (KeepBut.refl w g none) _ _) _ _) _ _
end Go.Proofs.YtmaciepkkianhabGreatDoor.H

namespace Go.Proofs.YtmaciepkkianhabGreatDoor.QFF
open Go.Proofs.YtmaciepkkianhabGreatDoor.H
attribute [local go_sem] ite_signed_u64 ite_signed_u32
open Go.RowKit Go.Proofs.YtmaciepkkianhabGreatDoorW.PrintWords Go.Proofs.YtmaciepkkianhabGreatDoorW.PrintLast Go.Proofs.YtmaciepkkianhabGreatDoorW.PrintMore
attribute [local go_sem] max2_int min2_int max_two min_two max_three min_three max_four min_four   -- for this text's walks alone
set_option linter.unusedVariables false
set_option linter.unusedSimpArgs false



def errW : Option Int → Value
  | none => .nilIface
  | some c => .iface 0 (.int .i64 c)
theorem errW_none : errW none = .nilIface := rfl
theorem errW_some (c : Int) : errW (some c) = .iface 0 (.int .i64 c) := rfl

-- the values' own types

end Go.Proofs.YtmaciepkkianhabGreatDoor.QFF

namespace Go.Proofs.YtmaciepkkianhabGreatDoor.QFF
open Go.Proofs.YtmaciepkkianhabGreatDoor.H
attribute [local go_sem] ite_signed_u64 ite_signed_u32
open Go.RowKit Go.Proofs.YtmaciepkkianhabGreatDoorW.PrintWords Go.Proofs.YtmaciepkkianhabGreatDoorW.PrintLast Go.Proofs.YtmaciepkkianhabGreatDoorW.PrintMore
attribute [local go_sem] max2_int min2_int max_two min_two max_three min_three max_four min_four   -- for this text's walks alone
set_option linter.unusedVariables false
set_option linter.unusedSimpArgs false

/-! ### bits_Mul64: function 159 -/
def bits_Mul64.f (a0 : Int) (a1 : Int) : Option (Int × Int) := some (IntKind.u64.wrap ((IntKind.u64.wrap ((IntKind.u64.wrap ((a0 / 4294967296) * (a1 / 4294967296))) + ((IntKind.u64.wrap ((IntKind.u64.wrap ((a0 / 4294967296) * (Go.bits .and .u64 a1 4294967295))) + ((IntKind.u64.wrap ((Go.bits .and .u64 a0 4294967295) * (Go.bits .and .u64 a1 4294967295))) / 4294967296))) / 4294967296))) + ((IntKind.u64.wrap ((Go.bits .and .u64 (IntKind.u64.wrap ((IntKind.u64.wrap ((a0 / 4294967296) * (Go.bits .and .u64 a1 4294967295))) + ((IntKind.u64.wrap ((Go.bits .and .u64 a0 4294967295) * (Go.bits .and .u64 a1 4294967295))) / 4294967296))) 4294967295) + (IntKind.u64.wrap ((Go.bits .and .u64 a0 4294967295) * (a1 / 4294967296))))) / 4294967296)), IntKind.u64.wrap (a0 * a1))
set_option maxHeartbeats 8000000 in
set_option maxRecDepth 100000 in
theorem bits_Mul64.calls (a0 : Int) (a1 : Int) (r1 : Int) (r2 : Int) (w : World) (h : bits_Mul64.f a0 a1 = some (r1, r2)) :
    Calls Tryz.prog 159 #[.int .u64 a0, .int .u64 a1] w fun e w' => e = .returned (.tuple #[.int .u64 r1, .int .u64 r2]) ∧ Drawn0 w w' := by
  have H : (some (IntKind.u64.wrap ((IntKind.u64.wrap ((IntKind.u64.wrap ((a0 / 4294967296) * (a1 / 4294967296))) + ((IntKind.u64.wrap ((IntKind.u64.wrap ((a0 / 4294967296) * (Go.bits .and .u64 a1 4294967295))) + ((IntKind.u64.wrap ((Go.bits .and .u64 a0 4294967295) * (Go.bits .and .u64 a1 4294967295))) / 4294967296))) / 4294967296))) + ((IntKind.u64.wrap ((Go.bits .and .u64 (IntKind.u64.wrap ((IntKind.u64.wrap ((a0 / 4294967296) * (Go.bits .and .u64 a1 4294967295))) + ((IntKind.u64.wrap ((Go.bits .and .u64 a0 4294967295) * (Go.bits .and .u64 a1 4294967295))) / 4294967296))) 4294967295) + (IntKind.u64.wrap ((Go.bits .and .u64 a0 4294967295) * (a1 / 4294967296))))) / 4294967296)), IntKind.u64.wrap (a0 * a1))) = some (r1, r2) := h
  clear h
  simp only [Option.some.injEq, Prod.mk.injEq] at H
  obtain ⟨rfl, rfl⟩ := H
  go_enter Tryz.func159, Tryz.ntmps159
  go_wp2
  go_ret2
  exact ⟨by first | rfl | (simp; done) | (simp [*]; done) | (generalize ByteArray.toList _ = l_; cases l_ <;> rfl), by repeat (first | exact Drawn0.refl _ | apply Drawn0.step)⟩

/-! ### strconv_bool2_uint64: function 160 -/
def strconv_bool2_uint64.f (a0 : Bool) : Option (Int) := if a0 = true then (some 1) else (some 0)
set_option maxHeartbeats 8000000 in
set_option maxRecDepth 100000 in
theorem strconv_bool2_uint64.calls (a0 : Bool) (r : Int) (w : World) (h : strconv_bool2_uint64.f a0 = some r) :
    Calls Tryz.prog 160 #[.bool a0] w fun e w' => e = .returned (.int .u64 r) ∧ Drawn0 w w' := by
  have H : (if a0 = true then (some 1) else (some 0)) = some r := h
  clear h
  by_cases c2 : a0 = true
  · subst c2
    have H1 : (some 1) = some r := by rw [if_pos rfl] at H; exact H
    clear H
    have H := H1
    clear H1
    obtain rfl := Option.some.inj H
    go_enter Tryz.func160, Tryz.ntmps160
    go_wp2
    go_ret
    exact ⟨by first | rfl | (simp; done) | (simp [*]; done) | (generalize ByteArray.toList _ = l_; cases l_ <;> rfl), by repeat (first | exact Drawn0.refl _ | apply Drawn0.step)⟩
  · replace c2 := Bool.eq_false_iff.mpr c2
    subst c2
    have H1 : (some 0) = some r := by rw [if_neg (show ¬ (false = true) by decide)] at H; exact H
    clear H
    have H := H1
    clear H1
    obtain rfl := Option.some.inj H
    go_enter Tryz.func160, Tryz.ntmps160
    go_wp2
    go_ret
    exact ⟨by first | rfl | (simp; done) | (simp [*]; done) | (generalize ByteArray.toList _ = l_; cases l_ <;> rfl), by repeat (first | exact Drawn0.refl _ | apply Drawn0.step)⟩

/-- A state of type 154 at block g of W; what its slices lead to came in by w0. -/
def IsS154 (w0 W : World) (g : Nat) (f0 : Int) (f1 : Int) (f2 : Int) : Prop := W.heap[g]? = some (.cells #[.int .u64 f0, .int .u64 f1, .int .i64 f2] 154 (0, 0)) ∧ w0.heap.size ≤ g
theorem IsS154.grown {w0 W : World} {g : Nat} {f0 : Int} {f1 : Int} {f2 : Int} {W1 : World} {row : Option Nat} (h : IsS154 w0 W g f0 f1 f2) (hw : W.grownBy W1 row) (hne : some g ≠ row) : IsS154 w0 W1 g f0 f1 f2 := by
  obtain ⟨hb, hg⟩ := h
  exact ⟨blk_grown hb hw hne, hg⟩
theorem IsS154.kept {w0 W : World} {g : Nat} {f0 : Int} {f1 : Int} {f2 : Int} {W1 : World} {S : Nat → Prop} (h : IsS154 w0 W g f0 f1 f2) (hk : Kept W W1 S) (hne : ¬ S g) : IsS154 w0 W1 g f0 f1 f2 := by
  obtain ⟨hb, hg⟩ := h
  exact ⟨blk_kept hb hk hne, hg⟩
theorem IsS154.below {w0 W : World} {g : Nat} {f0 : Int} {f1 : Int} {f2 : Int} {W1 : World} (h : IsS154 w0 W g f0 f1 f2) (hw : Below W.heap.size W W1) : IsS154 w0 W1 g f0 f1 f2 := h.grown (grown_of_below hw none) (by simp)
theorem IsS154.alloc {w0 W : World} {g : Nat} {f0 : Int} {f1 : Int} {f2 : Int} (h : IsS154 w0 W g f0 f1 f2) (o : Obj) : IsS154 w0 (W.alloc o) g f0 f1 f2 := h.below (below_alloc (Below.refl _ _) o)
theorem IsS154.drewN {w0 W : World} {g : Nat} {f0 : Int} {f1 : Int} {f2 : Int} (h : IsS154 w0 W g f0 f1 f2) (m : Nat) : IsS154 w0 (W.drewN m) g f0 f1 f2 := h
theorem IsS154.drew {w0 W : World} {g : Nat} {f0 : Int} {f1 : Int} {f2 : Int} (h : IsS154 w0 W g f0 f1 f2) : IsS154 w0 W.drew g f0 f1 f2 := h
theorem IsS154.apart {w0 W : World} {g : Nat} {f0 : Int} {f1 : Int} {f2 : Int} {α : Type} {d : Kd α} {e : Nat} {base : Nat} {ok : Nat → Prop} {v : Value} {xs : List α} (h : IsS154 w0 W g f0 f1 f2) (ho : d.R e W base ok v xs) (ht : ∀ q, q ∈ e :: d.E → q ≠ 154) : d.R e W base (fun k => ok k ∧ k ≠ g) v xs := by
  obtain ⟨hb, hg⟩ := h
  exact Kd.R_types ho hb ht
theorem IsS154.own_ne {w0 W : World} {g : Nat} {f0 : Int} {f1 : Int} {f2 : Int} {α : Type} {d : Kd α} {e : Nat} {base : Nat} {ok : Nat → Prop} {v : Value} {xs : List α} (h : IsS154 w0 W g f0 f1 f2) (ho : d.R e W base ok v xs) (ht : e ≠ 154) : some g ≠ v.ownBlock := by
  obtain ⟨hb, hg⟩ := h
  exact Kd.R_ne ho hb ht
theorem IsS154.lt {w0 W : World} {g : Nat} {f0 : Int} {f1 : Int} {f2 : Int} (h : IsS154 w0 W g f0 f1 f2) : g < W.heap.size := by
  obtain ⟨hb, hg⟩ := h
  exact blk_lt hb
theorem IsS154.ge {w0 W : World} {g : Nat} {f0 : Int} {f1 : Int} {f2 : Int} (h : IsS154 w0 W g f0 f1 f2) : w0.heap.size ≤ g := by
  obtain ⟨hb, hg⟩ := h
  exact hg
theorem IsS154.far {w0 W : World} {g : Nat} {f0 : Int} {f1 : Int} {f2 : Int} {p : Addr} (h : IsS154 w0 W g f0 f1 f2) (hne : g ≠ p.block) (u : Value) : IsS154 w0 (W.setCell p u) g f0 f1 f2 := by
  obtain ⟨hb, hg⟩ := h
  exact ⟨blk_far hb hne u, hg⟩
theorem cellS154_0 {W : World} {g : Nat} {f0 : Int} {f1 : Int} {f2 : Int} (h : W.heap[g]? = some (.cells #[.int .u64 f0, .int .u64 f1, .int .i64 f2] 154 (0, 0))) : W.cell? ⟨g, 0, none⟩ = some (.int .u64 f0) := (blk_cell h 0).trans rfl
theorem IsS154.set_0 {w0 W : World} {g : Nat} {f0 : Int} {f1 : Int} {f2 : Int} (h : IsS154 w0 W g f0 f1 f2) (x : Int) : IsS154 w0 (W.setCell ⟨g, 0, none⟩ (.int .u64 x)) g x f1 f2 := by
  obtain ⟨hb, hg⟩ := h
  exact ⟨by simpa using blk_set hb 0 (.int .u64 x), hg⟩
theorem cellS154_1 {W : World} {g : Nat} {f0 : Int} {f1 : Int} {f2 : Int} (h : W.heap[g]? = some (.cells #[.int .u64 f0, .int .u64 f1, .int .i64 f2] 154 (0, 0))) : W.cell? ⟨g, 1, none⟩ = some (.int .u64 f1) := (blk_cell h 1).trans rfl
theorem IsS154.set_1 {w0 W : World} {g : Nat} {f0 : Int} {f1 : Int} {f2 : Int} (h : IsS154 w0 W g f0 f1 f2) (x : Int) : IsS154 w0 (W.setCell ⟨g, 1, none⟩ (.int .u64 x)) g f0 x f2 := by
  obtain ⟨hb, hg⟩ := h
  exact ⟨by simpa using blk_set hb 1 (.int .u64 x), hg⟩
theorem cellS154_2 {W : World} {g : Nat} {f0 : Int} {f1 : Int} {f2 : Int} (h : W.heap[g]? = some (.cells #[.int .u64 f0, .int .u64 f1, .int .i64 f2] 154 (0, 0))) : W.cell? ⟨g, 2, none⟩ = some (.int .i64 f2) := (blk_cell h 2).trans rfl
theorem IsS154.set_2 {w0 W : World} {g : Nat} {f0 : Int} {f1 : Int} {f2 : Int} (h : IsS154 w0 W g f0 f1 f2) (x : Int) : IsS154 w0 (W.setCell ⟨g, 2, none⟩ (.int .i64 x)) g f0 f1 x := by
  obtain ⟨hb, hg⟩ := h
  exact ⟨by simpa using blk_set hb 2 (.int .i64 x), hg⟩
theorem IsS154.new (w0 W : World) (f0 : Int) (f1 : Int) (f2 : Int) (hB : Below w0.heap.size w0 W) : IsS154 w0 (W.alloc (.cells #[.int .u64 f0, .int .u64 f1, .int .i64 f2] 154)) W.heap.size f0 f1 f2 := ⟨by simpa using heap_alloc_new W _, hB.size⟩

/-! ### strconv_uscale: function 132 -/
def strconv_uscale.f (a0 : Int) (s1_0 : Int) (s1_1 : Int) (s1_2 : Int) : Option (Int × Int × Int × Int) := (bits_Mul64.f a0 s1_0).bind fun bt101 => (if 0 ≤ (Go.bits .and .i64 s1_2 63) then (if (shl .u64 (shr .u64 bt101.1 (Go.bits .and .i64 s1_2 63)) (Go.bits .and .i64 s1_2 63)) = bt101.1 then ((bits_Mul64.f a0 s1_1).bind fun bt103 => ((strconv_bool2_uint64.f (decide (bt101.2 < bt103.1))).bind fun t105 => ((strconv_bool2_uint64.f (decide ((IntKind.u64.wrap (bt101.2 - bt103.1)) > 1))).bind fun t106 => (some (Go.bits .or .u64 (shr .u64 (IntKind.u64.wrap (bt101.1 - t105)) (Go.bits .and .i64 s1_2 63)) t106, s1_0, s1_1, s1_2))))) else (some (Go.bits .or .u64 (shr .u64 bt101.1 (Go.bits .and .i64 s1_2 63)) 1, s1_0, s1_1, s1_2))) else (none))
set_option maxHeartbeats 8000000 in
set_option maxRecDepth 100000 in
theorem strconv_uscale.calls (a0 : Int) (g : Nat) (s1_0 : Int) (s1_1 : Int) (s1_2 : Int) (r1 : Int) (r2 : Int) (r3 : Int) (r4 : Int) (w0 w : World) (hI : IsS154 w0 w g s1_0 s1_1 s1_2) (hB : Below w0.heap.size w0 w) (h : strconv_uscale.f a0 s1_0 s1_1 s1_2 = some (r1, r2, r3, r4)) :
    Calls Tryz.prog 132 #[.int .u64 a0, .pointer (some ⟨g, 0, none⟩)] w fun e w' => e = .returned (.int .u64 r1) ∧ IsS154 w0 w' g r2 r3 r4 ∧ Below w0.heap.size w0 w' ∧ KeepBut w w' g none := by
  have HI1 := Aside0.mk hI
  have HK := Aside0.mk (KeepBut.refl w g none)
  have HL := Aside0.mk hB.size
  clear hI
  have HW0 := Aside0.mk hB.size
  have HB := Aside0.mk hB
  clear hB
  have H : ((bits_Mul64.f a0 s1_0).bind fun bt101 => (if 0 ≤ (Go.bits .and .i64 s1_2 63) then (if (shl .u64 (shr .u64 bt101.1 (Go.bits .and .i64 s1_2 63)) (Go.bits .and .i64 s1_2 63)) = bt101.1 then ((bits_Mul64.f a0 s1_1).bind fun bt103 => ((strconv_bool2_uint64.f (decide (bt101.2 < bt103.1))).bind fun t105 => ((strconv_bool2_uint64.f (decide ((IntKind.u64.wrap (bt101.2 - bt103.1)) > 1))).bind fun t106 => (some (Go.bits .or .u64 (shr .u64 (IntKind.u64.wrap (bt101.1 - t105)) (Go.bits .and .i64 s1_2 63)) t106, s1_0, s1_1, s1_2))))) else (some (Go.bits .or .u64 (shr .u64 bt101.1 (Go.bits .and .i64 s1_2 63)) 1, s1_0, s1_1, s1_2))) else (none))) = some (r1, r2, r3, r4) := h
  clear h
  replace H := Option.bind_eq_some_iff.mp H
  obtain ⟨⟨t101, t102⟩, A30, H⟩ := H
  replace H : (if 0 ≤ (Go.bits .and .i64 s1_2 63) then (if (shl .u64 (shr .u64 t101 (Go.bits .and .i64 s1_2 63)) (Go.bits .and .i64 s1_2 63)) = t101 then ((bits_Mul64.f a0 s1_1).bind fun bt103 => ((strconv_bool2_uint64.f (decide (t102 < bt103.1))).bind fun t105 => ((strconv_bool2_uint64.f (decide ((IntKind.u64.wrap (t102 - bt103.1)) > 1))).bind fun t106 => (some (Go.bits .or .u64 (shr .u64 (IntKind.u64.wrap (t101 - t105)) (Go.bits .and .i64 s1_2 63)) t106, s1_0, s1_1, s1_2))))) else (some (Go.bits .or .u64 (shr .u64 t101 (Go.bits .and .i64 s1_2 63)) 1, s1_0, s1_1, s1_2))) else (none)) = some (r1, r2, r3, r4) := H
  have A3 := Aside0.mk A30
  clear A30
  by_cases c4 : 0 ≤ (Go.bits .and .i64 s1_2 63)
  · rw [if_pos c4] at H
    have c4b0 := eq_true c4
    have c4b1 : decide (0 ≤ (Go.bits .and .i64 s1_2 63)) = true := decide_eq_true c4
    clear c4
    obtain ⟨ji5, hji5⟩ : ∃ j_ : Int, (shr .u64 t101 (Go.bits .and .i64 s1_2 63)) = j_ := ⟨_, rfl⟩
    replace H : (if (shl .u64 (ji5) (Go.bits .and .i64 s1_2 63)) = t101 then ((bits_Mul64.f a0 s1_1).bind fun bt103 => ((strconv_bool2_uint64.f (decide (t102 < bt103.1))).bind fun t105 => ((strconv_bool2_uint64.f (decide ((IntKind.u64.wrap (t102 - bt103.1)) > 1))).bind fun t106 => (some (Go.bits .or .u64 (shr .u64 (IntKind.u64.wrap (t101 - t105)) (Go.bits .and .i64 s1_2 63)) t106, s1_0, s1_1, s1_2))))) else (some (Go.bits .or .u64 (ji5) 1, s1_0, s1_1, s1_2))) = some (r1, r2, r3, r4) := by first | (rw [hji5] at H; exact H) | (simp only [hji5] at H ⊢; exact H)
    (try rw [hji5] at A3)
    have hji5_ : (t101 / 2 ^ min (Go.bits .and .i64 s1_2 63).toNat 64) = ji5 := hji5
    have hji5z : (Go.bits .and .i64 s1_2 63) ≤ 64 → (t101 / 2 ^ (Go.bits .and .i64 s1_2 63).toNat) = ji5 := shr_small hji5
    have c6b0 := eq_true (of_decide_eq_true (by first | (with_reducible assumption) | assumption) : 0 ≤ (Go.bits .and .i64 s1_2 63))
    obtain ⟨ji7, hji7⟩ : ∃ j_ : Int, (shl .u64 (ji5) (Go.bits .and .i64 s1_2 63)) = j_ := ⟨_, rfl⟩
    replace H : (if (ji7) = t101 then ((bits_Mul64.f a0 s1_1).bind fun bt103 => ((strconv_bool2_uint64.f (decide (t102 < bt103.1))).bind fun t105 => ((strconv_bool2_uint64.f (decide ((IntKind.u64.wrap (t102 - bt103.1)) > 1))).bind fun t106 => (some (Go.bits .or .u64 (shr .u64 (IntKind.u64.wrap (t101 - t105)) (Go.bits .and .i64 s1_2 63)) t106, s1_0, s1_1, s1_2))))) else (some (Go.bits .or .u64 (ji5) 1, s1_0, s1_1, s1_2))) = some (r1, r2, r3, r4) := by first | (rw [hji7] at H; exact H) | (simp only [hji7] at H ⊢; exact H)
    (try rw [hji7] at A3)
    have hji7_ : (IntKind.u64.wrap ((ji5) * 2 ^ min (Go.bits .and .i64 s1_2 63).toNat 64)) = ji7 := hji7
    have hji7z : (Go.bits .and .i64 s1_2 63) ≤ 64 → (IntKind.u64.wrap ((ji5) * 2 ^ (Go.bits .and .i64 s1_2 63).toNat)) = ji7 := shl_small hji7
    by_cases c8 : (ji7) = t101
    · rw [if_pos c8] at H
      have c8b0 : ((ji7) == t101) = true := beq_iff_eq.mpr c8
      have c8b1 : ((ji7) != t101) = false := bne_eq_false_iff_eq.mpr c8
      clear c8
      replace H := Option.bind_eq_some_iff.mp H
      obtain ⟨⟨t103, t104⟩, A90, H⟩ := H
      replace H : ((strconv_bool2_uint64.f (decide (t102 < t103))).bind fun t105 => ((strconv_bool2_uint64.f (decide ((IntKind.u64.wrap (t102 - t103)) > 1))).bind fun t106 => (some (Go.bits .or .u64 (shr .u64 (IntKind.u64.wrap (t101 - t105)) (Go.bits .and .i64 s1_2 63)) t106, s1_0, s1_1, s1_2)))) = some (r1, r2, r3, r4) := H
      have A9 := Aside0.mk A90
      clear A90
      replace H := Option.bind_eq_some_iff.mp H
      obtain ⟨t105, A100, H⟩ := H
      replace H : ((strconv_bool2_uint64.f (decide ((IntKind.u64.wrap (t102 - t103)) > 1))).bind fun t106 => (some (Go.bits .or .u64 (shr .u64 (IntKind.u64.wrap (t101 - t105)) (Go.bits .and .i64 s1_2 63)) t106, s1_0, s1_1, s1_2))) = some (r1, r2, r3, r4) := H
      have A10 := Aside0.mk A100
      clear A100
      have c11b0 := eq_true (of_decide_eq_true (by first | (with_reducible assumption) | assumption) : 0 ≤ (Go.bits .and .i64 s1_2 63))
      obtain ⟨ji12, hji12⟩ : ∃ j_ : Int, (shr .u64 (IntKind.u64.wrap (t101 - t105)) (Go.bits .and .i64 s1_2 63)) = j_ := ⟨_, rfl⟩
      replace H : ((strconv_bool2_uint64.f (decide ((IntKind.u64.wrap (t102 - t103)) > 1))).bind fun t106 => (some (Go.bits .or .u64 (ji12) t106, s1_0, s1_1, s1_2))) = some (r1, r2, r3, r4) := by first | (rw [hji12] at H; exact H) | (simp only [hji12] at H ⊢; exact H)
      (try rw [hji12] at A3)
      (try rw [hji12] at A9)
      (try rw [hji12] at A10)
      have hji12_ : ((IntKind.u64.wrap (t101 - t105)) / 2 ^ min (Go.bits .and .i64 s1_2 63).toNat 64) = ji12 := hji12
      have hji12z : (Go.bits .and .i64 s1_2 63) ≤ 64 → ((IntKind.u64.wrap (t101 - t105)) / 2 ^ (Go.bits .and .i64 s1_2 63).toNat) = ji12 := shr_small hji12
      replace H := Option.bind_eq_some_iff.mp H
      obtain ⟨t106, A130, H⟩ := H
      replace H : (some (Go.bits .or .u64 (ji12) t106, s1_0, s1_1, s1_2)) = some (r1, r2, r3, r4) := H
      have A13 := Aside0.mk A130
      clear A130
      simp only [Option.some.injEq, Prod.mk.injEq] at H
      obtain ⟨rfl, rfl, rfl, rfl⟩ := H
      obtain ⟨HGz14, hgz14⟩ := HI1.out
      have hcz14_0 := cellS154_0 HGz14
      have hcz14_1 := cellS154_1 HGz14
      have hcz14_2 := cellS154_2 HGz14
      have hfz14_0 := blk_frozen HGz14 0
      have hfz14_1 := blk_frozen HGz14 1
      have hfz14_2 := blk_frozen HGz14 2
      clear HGz14 hgz14
      go_enter Tryz.func132, Tryz.ntmps132
      go_wp2_with (first | (go_at_call 159; (with_reducible refine (bits_Mul64.calls a0 s1_0 t101 t102 _ A3.out).mono ?_); rintro e w' ⟨rfl, ⟨nd, rfl⟩⟩; (try first | exact ⟨rfl, _, World.drewN_drewN _ _ _⟩ | exact ⟨rfl, _, Eq.trans (World.drewN_drewN _ _ _) (congrArg (World.drewN _) (Nat.add_assoc _ _ _))⟩)) | (go_at_call 159; (with_reducible refine (bits_Mul64.calls a0 s1_1 t103 t104 _ A9.out).mono ?_); rintro e w' ⟨rfl, ⟨nd, rfl⟩⟩; (try first | exact ⟨rfl, _, World.drewN_drewN _ _ _⟩ | exact ⟨rfl, _, Eq.trans (World.drewN_drewN _ _ _) (congrArg (World.drewN _) (Nat.add_assoc _ _ _))⟩)) | (go_at_call 160; (with_reducible refine (strconv_bool2_uint64.calls (decide (t102 < t103)) t105 _ A10.out).mono ?_); rintro e w' ⟨rfl, ⟨nd, rfl⟩⟩; (try first | exact ⟨rfl, _, World.drewN_drewN _ _ _⟩ | exact ⟨rfl, _, Eq.trans (World.drewN_drewN _ _ _) (congrArg (World.drewN _) (Nat.add_assoc _ _ _))⟩)) | (go_at_call 160; (with_reducible refine (strconv_bool2_uint64.calls (decide ((IntKind.u64.wrap (t102 - t103)) > 1)) t106 _ A13.out).mono ?_); rintro e w' ⟨rfl, ⟨nd, rfl⟩⟩; (try first | exact ⟨rfl, _, World.drewN_drewN _ _ _⟩ | exact ⟨rfl, _, Eq.trans (World.drewN_drewN _ _ _) (congrArg (World.drewN _) (Nat.add_assoc _ _ _))⟩)))
      repeat (go_quiet (first | (go_at_call 159; (with_reducible refine (bits_Mul64.calls a0 s1_0 t101 t102 _ A3.out).mono ?_); rintro e w' ⟨rfl, ⟨nd, rfl⟩⟩; (try first | exact ⟨rfl, _, World.drewN_drewN _ _ _⟩ | exact ⟨rfl, _, Eq.trans (World.drewN_drewN _ _ _) (congrArg (World.drewN _) (Nat.add_assoc _ _ _))⟩)) | (go_at_call 159; (with_reducible refine (bits_Mul64.calls a0 s1_1 t103 t104 _ A9.out).mono ?_); rintro e w' ⟨rfl, ⟨nd, rfl⟩⟩; (try first | exact ⟨rfl, _, World.drewN_drewN _ _ _⟩ | exact ⟨rfl, _, Eq.trans (World.drewN_drewN _ _ _) (congrArg (World.drewN _) (Nat.add_assoc _ _ _))⟩)) | (go_at_call 160; (with_reducible refine (strconv_bool2_uint64.calls (decide (t102 < t103)) t105 _ A10.out).mono ?_); rintro e w' ⟨rfl, ⟨nd, rfl⟩⟩; (try first | exact ⟨rfl, _, World.drewN_drewN _ _ _⟩ | exact ⟨rfl, _, Eq.trans (World.drewN_drewN _ _ _) (congrArg (World.drewN _) (Nat.add_assoc _ _ _))⟩)) | (go_at_call 160; (with_reducible refine (strconv_bool2_uint64.calls (decide ((IntKind.u64.wrap (t102 - t103)) > 1)) t106 _ A13.out).mono ?_); rintro e w' ⟨rfl, ⟨nd, rfl⟩⟩; (try first | exact ⟨rfl, _, World.drewN_drewN _ _ _⟩ | exact ⟨rfl, _, Eq.trans (World.drewN_drewN _ _ _) (congrArg (World.drewN _) (Nat.add_assoc _ _ _))⟩))); try go_wp2_with (first | (go_at_call 159; (with_reducible refine (bits_Mul64.calls a0 s1_0 t101 t102 _ A3.out).mono ?_); rintro e w' ⟨rfl, ⟨nd, rfl⟩⟩; (try first | exact ⟨rfl, _, World.drewN_drewN _ _ _⟩ | exact ⟨rfl, _, Eq.trans (World.drewN_drewN _ _ _) (congrArg (World.drewN _) (Nat.add_assoc _ _ _))⟩)) | (go_at_call 159; (with_reducible refine (bits_Mul64.calls a0 s1_1 t103 t104 _ A9.out).mono ?_); rintro e w' ⟨rfl, ⟨nd, rfl⟩⟩; (try first | exact ⟨rfl, _, World.drewN_drewN _ _ _⟩ | exact ⟨rfl, _, Eq.trans (World.drewN_drewN _ _ _) (congrArg (World.drewN _) (Nat.add_assoc _ _ _))⟩)) | (go_at_call 160; (with_reducible refine (strconv_bool2_uint64.calls (decide (t102 < t103)) t105 _ A10.out).mono ?_); rintro e w' ⟨rfl, ⟨nd, rfl⟩⟩; (try first | exact ⟨rfl, _, World.drewN_drewN _ _ _⟩ | exact ⟨rfl, _, Eq.trans (World.drewN_drewN _ _ _) (congrArg (World.drewN _) (Nat.add_assoc _ _ _))⟩)) | (go_at_call 160; (with_reducible refine (strconv_bool2_uint64.calls (decide ((IntKind.u64.wrap (t102 - t103)) > 1)) t106 _ A13.out).mono ?_); rintro e w' ⟨rfl, ⟨nd, rfl⟩⟩; (try first | exact ⟨rfl, _, World.drewN_drewN _ _ _⟩ | exact ⟨rfl, _, Eq.trans (World.drewN_drewN _ _ _) (congrArg (World.drewN _) (Nat.add_assoc _ _ _))⟩))))
      go_ret
      exact ⟨by first | rfl | (simp [errW_none, errW_some] <;> rfl) | (simp only [← hji5, ← hji7, ← hji12]; first | rfl | (simp [errW_none, errW_some] <;> rfl)) | (simp [*, errW_none, errW_some] <;> rfl), by repeat (first | (with_reducible first | exact HI1.out | apply IsS154.alloc | apply IsS154.drewN | apply IsS154.drew | apply IsS154.set_0 | apply IsS154.set_1 | apply IsS154.set_2) | exact HI1.out), by repeat (first | (with_reducible first | exact HB.out | apply below_alloc | apply pw_below_drewN | apply below_drew1 | refine below_set ?_ (IsS154.ge HI1.out)) | exact HB.out), by repeat (first | (with_reducible first | exact HK.out | apply KeepBut.set_ | apply keep_drewN | apply keep_drew | apply keep_alloc) | exact HK.out)⟩
    · rw [if_neg c8] at H
      have c8b0 : ((ji7) == t101) = false := beq_eq_false_iff_ne.mpr c8
      have c8b1 : ((ji7) != t101) = true := bne_iff_ne.mpr c8
      have c15b0 := eq_true (of_decide_eq_true (by first | (with_reducible assumption) | assumption) : 0 ≤ (Go.bits .and .i64 s1_2 63))
      simp only [Option.some.injEq, Prod.mk.injEq] at H
      obtain ⟨rfl, rfl, rfl, rfl⟩ := H
      obtain ⟨HGz17, hgz17⟩ := HI1.out
      have hcz17_0 := cellS154_0 HGz17
      have hcz17_1 := cellS154_1 HGz17
      have hcz17_2 := cellS154_2 HGz17
      have hfz17_0 := blk_frozen HGz17 0
      have hfz17_1 := blk_frozen HGz17 1
      have hfz17_2 := blk_frozen HGz17 2
      clear HGz17 hgz17
      go_enter Tryz.func132, Tryz.ntmps132
      go_wp2_with (first | (go_at_call 159; (with_reducible refine (bits_Mul64.calls a0 s1_0 t101 t102 _ A3.out).mono ?_); rintro e w' ⟨rfl, ⟨nd, rfl⟩⟩; (try first | exact ⟨rfl, _, World.drewN_drewN _ _ _⟩ | exact ⟨rfl, _, Eq.trans (World.drewN_drewN _ _ _) (congrArg (World.drewN _) (Nat.add_assoc _ _ _))⟩)))
      repeat (go_quiet (first | (go_at_call 159; (with_reducible refine (bits_Mul64.calls a0 s1_0 t101 t102 _ A3.out).mono ?_); rintro e w' ⟨rfl, ⟨nd, rfl⟩⟩; (try first | exact ⟨rfl, _, World.drewN_drewN _ _ _⟩ | exact ⟨rfl, _, Eq.trans (World.drewN_drewN _ _ _) (congrArg (World.drewN _) (Nat.add_assoc _ _ _))⟩))); try go_wp2_with (first | (go_at_call 159; (with_reducible refine (bits_Mul64.calls a0 s1_0 t101 t102 _ A3.out).mono ?_); rintro e w' ⟨rfl, ⟨nd, rfl⟩⟩; (try first | exact ⟨rfl, _, World.drewN_drewN _ _ _⟩ | exact ⟨rfl, _, Eq.trans (World.drewN_drewN _ _ _) (congrArg (World.drewN _) (Nat.add_assoc _ _ _))⟩))))
      go_ret
      exact ⟨by first | rfl | (simp [errW_none, errW_some] <;> rfl) | (simp only [← hji5, ← hji7]; first | rfl | (simp [errW_none, errW_some] <;> rfl)) | (simp [*, errW_none, errW_some] <;> rfl), by repeat (first | (with_reducible first | exact HI1.out | apply IsS154.alloc | apply IsS154.drewN | apply IsS154.drew | apply IsS154.set_0 | apply IsS154.set_1 | apply IsS154.set_2) | exact HI1.out), by repeat (first | (with_reducible first | exact HB.out | apply below_alloc | apply pw_below_drewN | apply below_drew1 | refine below_set ?_ (IsS154.ge HI1.out)) | exact HB.out), by repeat (first | (with_reducible first | exact HK.out | apply KeepBut.set_ | apply keep_drewN | apply keep_drew | apply keep_alloc) | exact HK.out)⟩
  · rw [if_neg c4] at H
    exact absurd H (by simp)

/-! ### strconv_skewed: function 129 -/
def strconv_skewed.f (a0 : Int) : Option (Int) := some ((wrap64 ((wrap64 (a0 * 631305)) - 261663)) / 2097152)
set_option maxHeartbeats 8000000 in
set_option maxRecDepth 100000 in
theorem strconv_skewed.calls (a0 : Int) (r : Int) (w : World) (h : strconv_skewed.f a0 = some r) :
    Calls Tryz.prog 129 #[.int .i64 a0] w fun e w' => e = .returned (.int .i64 r) ∧ Drawn0 w w' := by
  have H : (some ((wrap64 ((wrap64 (a0 * 631305)) - 261663)) / 2097152)) = some r := h
  clear h
  obtain rfl := Option.some.inj H
  go_enter Tryz.func129, Tryz.ntmps129
  go_wp2
  go_ret
  exact ⟨by first | rfl | (simp; done) | (simp [*]; done) | (generalize ByteArray.toList _ = l_; cases l_ <;> rfl), by repeat (first | exact Drawn0.refl _ | apply Drawn0.step)⟩

/-! ### strconv_log2Pow10: function 131 -/
def strconv_log2Pow10.f (a0 : Int) : Option (Int) := some ((wrap64 (a0 * 108853)) / 32768)
set_option maxHeartbeats 8000000 in
set_option maxRecDepth 100000 in
theorem strconv_log2Pow10.calls (a0 : Int) (r : Int) (w : World) (h : strconv_log2Pow10.f a0 = some r) :
    Calls Tryz.prog 131 #[.int .i64 a0] w fun e w' => e = .returned (.int .i64 r) ∧ Drawn0 w w' := by
  have H : (some ((wrap64 (a0 * 108853)) / 32768)) = some r := h
  clear h
  obtain rfl := Option.some.inj H
  go_enter Tryz.func131, Tryz.ntmps131
  go_wp2
  go_ret
  exact ⟨by first | rfl | (simp; done) | (simp [*]; done) | (generalize ByteArray.toList _ = l_; cases l_ <;> rfl), by repeat (first | exact Drawn0.refl _ | apply Drawn0.step)⟩

/-! ### strconv_unrounded_nudge: function 133 -/
def strconv_unrounded_nudge.f (a0 : Int) (a1 : Int) : Option (Int) := some (IntKind.u64.wrap (a0 + (IntKind.u64.wrap (a1))))
set_option maxHeartbeats 8000000 in
set_option maxRecDepth 100000 in
theorem strconv_unrounded_nudge.calls (a0 : Int) (a1 : Int) (r : Int) (w : World) (h : strconv_unrounded_nudge.f a0 a1 = some r) :
    Calls Tryz.prog 133 #[.int .u64 a0, .int .i64 a1] w fun e w' => e = .returned (.int .u64 r) ∧ Drawn0 w w' := by
  have H : (some (IntKind.u64.wrap (a0 + (IntKind.u64.wrap (a1))))) = some r := h
  clear h
  obtain rfl := Option.some.inj H
  go_enter Tryz.func133, Tryz.ntmps133
  go_wp2
  go_ret
  exact ⟨by first | rfl | (simp; done) | (simp [*]; done) | (generalize ByteArray.toList _ = l_; cases l_ <;> rfl), by repeat (first | exact Drawn0.refl _ | apply Drawn0.step)⟩

/-! ### strconv_unrounded_ceil: function 134 -/
def strconv_unrounded_ceil.f (a0 : Int) : Option (Int) := some ((IntKind.u64.wrap (a0 + 3)) / 4)
set_option maxHeartbeats 8000000 in
set_option maxRecDepth 100000 in
theorem strconv_unrounded_ceil.calls (a0 : Int) (r : Int) (w : World) (h : strconv_unrounded_ceil.f a0 = some r) :
    Calls Tryz.prog 134 #[.int .u64 a0] w fun e w' => e = .returned (.int .u64 r) ∧ Drawn0 w w' := by
  have H : (some ((IntKind.u64.wrap (a0 + 3)) / 4)) = some r := h
  clear h
  obtain rfl := Option.some.inj H
  go_enter Tryz.func134, Tryz.ntmps134
  go_wp2
  go_ret
  exact ⟨by first | rfl | (simp; done) | (simp [*]; done) | (generalize ByteArray.toList _ = l_; cases l_ <;> rfl), by repeat (first | exact Drawn0.refl _ | apply Drawn0.step)⟩

/-! ### strconv_unrounded_floor: function 135 -/
def strconv_unrounded_floor.f (a0 : Int) : Option (Int) := some ((IntKind.u64.wrap (a0 + 0)) / 4)
set_option maxHeartbeats 8000000 in
set_option maxRecDepth 100000 in
theorem strconv_unrounded_floor.calls (a0 : Int) (r : Int) (w : World) (h : strconv_unrounded_floor.f a0 = some r) :
    Calls Tryz.prog 135 #[.int .u64 a0] w fun e w' => e = .returned (.int .u64 r) ∧ Drawn0 w w' := by
  have H : (some ((IntKind.u64.wrap (a0 + 0)) / 4)) = some r := h
  clear h
  obtain rfl := Option.some.inj H
  go_enter Tryz.func135, Tryz.ntmps135
  go_wp2
  go_ret
  exact ⟨by first | rfl | (simp; done) | (simp [*]; done) | (generalize ByteArray.toList _ = l_; cases l_ <;> rfl), by repeat (first | exact Drawn0.refl _ | apply Drawn0.step)⟩

end Go.Proofs.YtmaciepkkianhabGreatDoor.QFF

namespace Go.Proofs
open Go.Shelf
def Tryz.lays169_ren : Go.Shelf.Ren := ⟨fun | 169 => 61 | n => n, fun | 70 => 44 | 9 => 9 | 0 => 0 | 72 => 47 | 37 => 45 | 127 => 110 | 3 => 3 | 5 => 5 | n => n, fun | n => n⟩

theorem Tryz.lays169 : Go.Proofs.Lays.n169 Tryz.prog Tryz.lays169_ren := {
  mixed := by kernel_rfl
  f169 := Tryz.func61.trans (congrArg some (by kernel_rfl))
  t0 := Tryz.underlying0
  a0 := Tryz.isAgg0
  z0 := Tryz.sizeOf0
  v0 := Tryz.zeroValue0
  t3 := Tryz.underlying3
  a3 := Tryz.isAgg3
  z3 := Tryz.sizeOf3
  v3 := Tryz.zeroValue3
  t9 := Tryz.underlying9
  a9 := Tryz.isAgg9
  z9 := Tryz.sizeOf9
  v9 := Tryz.zeroValue9
  t37 := Tryz.underlying45
  a37 := Tryz.isAgg45
  z37 := Tryz.sizeOf45
  v37 := Tryz.zeroValue45
  t70 := Tryz.underlying44
  a70 := Tryz.isAgg44
  z70 := Tryz.sizeOf44
  v70 := Tryz.zeroValue44
  t72 := Tryz.underlying47
  a72 := Tryz.isAgg47
  z72 := Tryz.sizeOf47
  v72 := Tryz.zeroValue47
  t127 := Tryz.underlying110
  a127 := Tryz.isAgg110
  z127 := Tryz.sizeOf110
  v127 := Tryz.zeroValue110 }

theorem Tryz.Builder_Extra_169 : Builder.Extra Tryz.prog Tryz.lays169_ren := {
  sizeBuilder := by kernel_rfl
  liesBuilder := by kernel_rfl
  t5 := Tryz.underlying5
  a5 := Tryz.isAgg5
  z5 := Tryz.sizeOf5
  v5 := Tryz.zeroValue5
  infoByte := by kernel_rfl
  cellsByte := by kernel_rfl
  sizeByte := by kernel_rfl
  neB5 := by decide }

open Go.RowKit in
theorem Tryz.Builder_String_any_k (B b : Nat) (l : List UInt8) (w : World) (h : Lib.IsBuilderF 47 5 B b (Lib.byteCells l) w) (hBw : B ≤ w.heap.size) :
    Calls Tryz.prog 61 #[.pointer (some ⟨b, 0, none⟩)] w fun e w' => e = .returned (.string ⟨l.toArray⟩) ∧ (Lib.IsBuilderF 47 5 B b (Lib.byteCells l) w' ∧ Below B w w' ∧ Lib.OthersKept 5 (some b) w w') := Any.Builder_String_any_k Tryz.lays169 Tryz.Builder_Extra_169 B b l w h hBw

def Tryz.laysM284_ren : Go.Shelf.Ren := ⟨fun | 284 => 106 | 129 => 103 | 317 => 107 | 318 => 138 | n => n, fun | 53 => 75 | 3 => 3 | 212 => 163 | 0 => 0 | 4 => 4 | 46 => 105 | 5 => 5 | 9 => 9 | n => n, fun | 17 => 2 | n => n⟩

theorem Tryz.laysM284 : Go.Proofs.LaysM.n284 Tryz.prog Tryz.laysM284_ren := {
  mixed := by kernel_rfl
  f129 := Tryz.func103.trans (congrArg some (by kernel_rfl))
  f284 := Tryz.func106.trans (congrArg some (by kernel_rfl))
  f317 := Tryz.func107.trans (congrArg some (by kernel_rfl))
  f318 := Tryz.func138.trans (congrArg some (by kernel_rfl))
  t0 := Tryz.underlying0
  a0 := Tryz.isAgg0
  z0 := Tryz.sizeOf0
  v0 := Tryz.zeroValue0
  t3 := Tryz.underlying3
  a3 := Tryz.isAgg3
  z3 := Tryz.sizeOf3
  v3 := Tryz.zeroValue3
  t4 := Tryz.underlying4
  a4 := Tryz.isAgg4
  z4 := Tryz.sizeOf4
  v4 := Tryz.zeroValue4
  t5 := Tryz.underlying5
  a5 := Tryz.isAgg5
  z5 := Tryz.sizeOf5
  v5 := Tryz.zeroValue5
  t9 := Tryz.underlying9
  a9 := Tryz.isAgg9
  z9 := Tryz.sizeOf9
  v9 := Tryz.zeroValue9
  t46 := Tryz.underlying105
  a46 := Tryz.isAgg105
  z46 := Tryz.sizeOf105
  v46 := Tryz.zeroValue105
  t53 := Tryz.underlying75
  a53 := Tryz.isAgg75
  z53 := Tryz.sizeOf75
  v53 := Tryz.zeroValue75
  t212 := Tryz.underlying163
  a212 := Tryz.isAgg163
  z212 := Tryz.sizeOf163
  v212 := Tryz.zeroValue163
  g17 := by kernel_rfl
  i0 := by kernel_rfl
  i3 := by kernel_rfl
  i4 := by kernel_rfl
  i5 := by kernel_rfl
  i9 := by kernel_rfl
  i46 := by kernel_rfl
  i53 := by kernel_rfl
  i212 := by kernel_rfl
  m17 := by kernel_rfl }

open Go.Lib in
theorem Tryz.internal_strconv_numDigits (u : Nat) (h1 : 1 ≤ u) (h2 : u < 18446744073709551616) (w : World) (htab : Lib.TabIs Tryz.prog w "internal/strconv.uint64pow10" .u64 Lib.pow10Tab) :
    Calls Tryz.prog 106 #[.int .u64 u] w fun e w' => e = .returned (.int .i64 (Lib.nDigits u)) ∧ w' = w := Any.internal_strconv_numDigits Tryz.laysM284 u h1 h2 w htab

def Tryz.lays285_ren : Go.Shelf.Ren := ⟨fun | 285 => 137 | n => n, fun | 37 => 45 | 53 => 75 | 3 => 3 | 4 => 4 | 51 => 120 | 9 => 9 | 5 => 5 | 0 => 0 | n => n, fun | n => n⟩

theorem Tryz.lays285 : Go.Proofs.Lays.n285 Tryz.prog Tryz.lays285_ren := {
  mixed := by kernel_rfl
  f285 := Tryz.func137.trans (congrArg some (by kernel_rfl))
  t0 := Tryz.underlying0
  a0 := Tryz.isAgg0
  z0 := Tryz.sizeOf0
  v0 := Tryz.zeroValue0
  t3 := Tryz.underlying3
  a3 := Tryz.isAgg3
  z3 := Tryz.sizeOf3
  v3 := Tryz.zeroValue3
  t4 := Tryz.underlying4
  a4 := Tryz.isAgg4
  z4 := Tryz.sizeOf4
  v4 := Tryz.zeroValue4
  t5 := Tryz.underlying5
  a5 := Tryz.isAgg5
  z5 := Tryz.sizeOf5
  v5 := Tryz.zeroValue5
  t9 := Tryz.underlying9
  a9 := Tryz.isAgg9
  z9 := Tryz.sizeOf9
  v9 := Tryz.zeroValue9
  t37 := Tryz.underlying45
  a37 := Tryz.isAgg45
  z37 := Tryz.sizeOf45
  v37 := Tryz.zeroValue45
  t51 := Tryz.underlying120
  a51 := Tryz.isAgg120
  z51 := Tryz.sizeOf120
  v51 := Tryz.zeroValue120
  t53 := Tryz.underlying75
  a53 := Tryz.isAgg75
  z53 := Tryz.sizeOf75
  v53 := Tryz.zeroValue75 }

open Go.RowKit Go.Sort Go.Lib in
theorem Tryz.internal_strconv_formatBase10 (blk off cap : Nat) (u : Nat) (d : Array UInt8) (w : World) (hH : Holds (fun (b : UInt8) => Value.int .u8 (b.toNat : Int)) w blk off d) (hu : u < 10 ^ d.size) (hu64 : u < 18446744073709551616) (hsz : d.size < 4611686018427387904) :
    Calls Tryz.prog 137 #[.slice (some ⟨blk, off, none⟩) d.size cap, .int .u64 u] w fun e w' =>
      e = .returned (.tuple #[]) ∧ ∃ (n v' : Nat) (dk : Array UInt8), w' = (putRow (fun (b : UInt8) => Value.int .u8 (b.toNat : Int)) w blk off dk).drewN n ∧ FmtInv d.size u 0 v' dk := Any.internal_strconv_formatBase10 Tryz.lays285 blk off cap u d w hH hu hu64 hsz

def Tryz.laysM171_ren : Go.Shelf.Ren := ⟨fun | 171 => 73 | 243 => 89 | 246 => 118 | 283 => 151 | 284 => 106 | 285 => 137 | 286 => 152 | 129 => 103 | 317 => 107 | 318 => 138 | 319 => 175 | 320 => 176 | 337 => 186 | 338 => 187 | n => n, fun | 3 => 3 | 9 => 9 | 2 => 2 | 4 => 4 | 171 => 130 | 0 => 0 | 53 => 75 | 37 => 45 | 5 => 5 | 173 => 174 | 212 => 163 | 51 => 120 | 20 => 20 | 213 => 217 | 46 => 105 | 232 => 125 | 233 => 226 | n => n, fun | 17 => 2 | 18 => 15 | 19 => 16 | n => n⟩

theorem Tryz.laysM171 : Go.Proofs.LaysM.n171 Tryz.prog Tryz.laysM171_ren := {
  mixed := by kernel_rfl
  f129 := Tryz.func103.trans (congrArg some (by kernel_rfl))
  f171 := Tryz.func73.trans (congrArg some (by kernel_rfl))
  f243 := Tryz.func89.trans (congrArg some (by kernel_rfl))
  f246 := Tryz.func118.trans (congrArg some (by kernel_rfl))
  f283 := Tryz.func151.trans (congrArg some (by kernel_rfl))
  f284 := Tryz.func106.trans (congrArg some (by kernel_rfl))
  f285 := Tryz.func137.trans (congrArg some (by kernel_rfl))
  f286 := Tryz.func152.trans (congrArg some (by kernel_rfl))
  f317 := Tryz.func107.trans (congrArg some (by kernel_rfl))
  f318 := Tryz.func138.trans (congrArg some (by kernel_rfl))
  f319 := Tryz.func175.trans (congrArg some (by kernel_rfl))
  f320 := Tryz.func176.trans (congrArg some (by kernel_rfl))
  f337 := Tryz.func186.trans (congrArg some (by kernel_rfl))
  f338 := Tryz.func187.trans (congrArg some (by kernel_rfl))
  t0 := Tryz.underlying0
  a0 := Tryz.isAgg0
  z0 := Tryz.sizeOf0
  v0 := Tryz.zeroValue0
  t2 := Tryz.underlying2
  a2 := Tryz.isAgg2
  z2 := Tryz.sizeOf2
  v2 := Tryz.zeroValue2
  t3 := Tryz.underlying3
  a3 := Tryz.isAgg3
  z3 := Tryz.sizeOf3
  v3 := Tryz.zeroValue3
  t4 := Tryz.underlying4
  a4 := Tryz.isAgg4
  z4 := Tryz.sizeOf4
  v4 := Tryz.zeroValue4
  t5 := Tryz.underlying5
  a5 := Tryz.isAgg5
  z5 := Tryz.sizeOf5
  v5 := Tryz.zeroValue5
  t9 := Tryz.underlying9
  a9 := Tryz.isAgg9
  z9 := Tryz.sizeOf9
  v9 := Tryz.zeroValue9
  t20 := Tryz.underlying20
  a20 := Tryz.isAgg20
  z20 := Tryz.sizeOf20
  v20 := Tryz.zeroValue20
  t37 := Tryz.underlying45
  a37 := Tryz.isAgg45
  z37 := Tryz.sizeOf45
  v37 := Tryz.zeroValue45
  t46 := Tryz.underlying105
  a46 := Tryz.isAgg105
  z46 := Tryz.sizeOf105
  v46 := Tryz.zeroValue105
  t51 := Tryz.underlying120
  a51 := Tryz.isAgg120
  z51 := Tryz.sizeOf120
  v51 := Tryz.zeroValue120
  t53 := Tryz.underlying75
  a53 := Tryz.isAgg75
  z53 := Tryz.sizeOf75
  v53 := Tryz.zeroValue75
  t171 := Tryz.underlying130
  a171 := Tryz.isAgg130
  z171 := Tryz.sizeOf130
  v171 := Tryz.zeroValue130
  t173 := Tryz.underlying174
  a173 := Tryz.isAgg174
  z173 := Tryz.sizeOf174
  v173 := Tryz.zeroValue174
  t212 := Tryz.underlying163
  a212 := Tryz.isAgg163
  z212 := Tryz.sizeOf163
  v212 := Tryz.zeroValue163
  t213 := Tryz.underlying217
  a213 := Tryz.isAgg217
  z213 := Tryz.sizeOf217
  t232 := Tryz.underlying125
  a232 := Tryz.isAgg125
  z232 := Tryz.sizeOf125
  v232 := Tryz.zeroValue125
  t233 := Tryz.underlying226
  a233 := Tryz.isAgg226
  z233 := Tryz.sizeOf226
  v233 := Tryz.zeroValue226
  g17 := by kernel_rfl
  g18 := by kernel_rfl
  g19 := by kernel_rfl
  i0 := by kernel_rfl
  i2 := by kernel_rfl
  i3 := by kernel_rfl
  i4 := by kernel_rfl
  i5 := by kernel_rfl
  i9 := by kernel_rfl
  i20 := by kernel_rfl
  i37 := by kernel_rfl
  i46 := by kernel_rfl
  i51 := by kernel_rfl
  i53 := by kernel_rfl
  i171 := by kernel_rfl
  i173 := by kernel_rfl
  i212 := by kernel_rfl
  i232 := by kernel_rfl
  i233 := by kernel_rfl
  m17 := by kernel_rfl
  m18 := by kernel_rfl
  m19 := by kernel_rfl }

open Go.RowKit Go.Sort Go.Lib in
theorem Tryz.strconv_Itoa (n : Int) (h0 : -9223372036854775808 ≤ n) (h1 : n ≤ 9223372036854775807) (w : World) (htab : Lib.TabIs Tryz.prog w "internal/strconv.uint64pow10" .u64 Lib.pow10Tab) :
    Calls Tryz.prog 73 #[.int .i64 n] w fun e w' => e = .returned (.string ⟨(Lib.itoa n).toArray⟩) ∧ ∃ k os, w' = grow (w.drewN k) os := Any.strconv_Itoa Tryz.laysM171 n h0 h1 w htab

def Tryz.lays155_ren : Go.Shelf.Ren := ⟨fun | 155 => 42 | 154 => 76 | 138 => 92 | 165 => 93 | 143 => 94 | 166 => 82 | 197 => 95 | 169 => 61 | 195 => 120 | 218 => 121 | 240 => 97 | 241 => 122 | 219 => 123 | 260 => 124 | 276 => 125 | 277 => 154 | 217 => 155 | 225 => 156 | 224 => 157 | 267 => 158 | 266 => 178 | 314 => 179 | n => n, fun | 9 => 9 | 3 => 3 | 4 => 4 | 72 => 47 | 0 => 0 | 76 => 102 | 105 => 117 | 21 => 21 | 5 => 5 | 70 => 44 | 20 => 20 | 37 => 45 | 75 => 98 | 127 => 110 | 164 => 148 | 46 => 105 | 119 => 179 | 139 => 182 | 138 => 181 | 146 => 219 | 51 => 120 | 80 => 58 | n => n, fun | 1 => 5 | 3 => 6 | 4 => 7 | n => n⟩

theorem Tryz.lays155 : Go.Proofs.Lays.n155 Tryz.prog Tryz.lays155_ren := {
  mixed := by kernel_rfl
  f138 := Tryz.func92.trans (congrArg some (by kernel_rfl))
  f143 := Tryz.func94.trans (congrArg some (by kernel_rfl))
  f154 := Tryz.func76.trans (congrArg some (by kernel_rfl))
  f155 := Tryz.func42.trans (congrArg some (by kernel_rfl))
  f165 := Tryz.func93.trans (congrArg some (by kernel_rfl))
  f166 := Tryz.func82.trans (congrArg some (by kernel_rfl))
  f169 := Tryz.func61.trans (congrArg some (by kernel_rfl))
  f195 := Tryz.func120.trans (congrArg some (by kernel_rfl))
  f197 := Tryz.func95.trans (congrArg some (by kernel_rfl))
  f217 := Tryz.func155.trans (congrArg some (by kernel_rfl))
  f218 := Tryz.func121.trans (congrArg some (by kernel_rfl))
  f219 := Tryz.func123.trans (congrArg some (by kernel_rfl))
  f224 := Tryz.func157.trans (congrArg some (by kernel_rfl))
  f225 := Tryz.func156.trans (congrArg some (by kernel_rfl))
  f240 := Tryz.func97.trans (congrArg some (by kernel_rfl))
  f241 := Tryz.func122.trans (congrArg some (by kernel_rfl))
  f260 := Tryz.func124.trans (congrArg some (by kernel_rfl))
  f266 := Tryz.func178.trans (congrArg some (by kernel_rfl))
  f267 := Tryz.func158.trans (congrArg some (by kernel_rfl))
  f276 := Tryz.func125.trans (congrArg some (by kernel_rfl))
  f277 := Tryz.func154.trans (congrArg some (by kernel_rfl))
  f314 := Tryz.func179.trans (congrArg some (by kernel_rfl))
  t0 := Tryz.underlying0
  a0 := Tryz.isAgg0
  z0 := Tryz.sizeOf0
  v0 := Tryz.zeroValue0
  t3 := Tryz.underlying3
  a3 := Tryz.isAgg3
  z3 := Tryz.sizeOf3
  v3 := Tryz.zeroValue3
  t4 := Tryz.underlying4
  a4 := Tryz.isAgg4
  z4 := Tryz.sizeOf4
  v4 := Tryz.zeroValue4
  t5 := Tryz.underlying5
  a5 := Tryz.isAgg5
  z5 := Tryz.sizeOf5
  v5 := Tryz.zeroValue5
  t9 := Tryz.underlying9
  a9 := Tryz.isAgg9
  z9 := Tryz.sizeOf9
  v9 := Tryz.zeroValue9
  t20 := Tryz.underlying20
  a20 := Tryz.isAgg20
  z20 := Tryz.sizeOf20
  v20 := Tryz.zeroValue20
  t21 := Tryz.underlying21
  a21 := Tryz.isAgg21
  z21 := Tryz.sizeOf21
  v21 := Tryz.zeroValue21
  t37 := Tryz.underlying45
  a37 := Tryz.isAgg45
  z37 := Tryz.sizeOf45
  v37 := Tryz.zeroValue45
  t46 := Tryz.underlying105
  a46 := Tryz.isAgg105
  z46 := Tryz.sizeOf105
  v46 := Tryz.zeroValue105
  t51 := Tryz.underlying120
  a51 := Tryz.isAgg120
  z51 := Tryz.sizeOf120
  v51 := Tryz.zeroValue120
  t70 := Tryz.underlying44
  a70 := Tryz.isAgg44
  z70 := Tryz.sizeOf44
  v70 := Tryz.zeroValue44
  t72 := Tryz.underlying47
  a72 := Tryz.isAgg47
  z72 := Tryz.sizeOf47
  v72 := Tryz.zeroValue47
  t75 := Tryz.underlying98
  a75 := Tryz.isAgg98
  z75 := Tryz.sizeOf98
  v75 := Tryz.zeroValue98
  t76 := Tryz.underlying102
  a76 := Tryz.isAgg102
  z76 := Tryz.sizeOf102
  v76 := Tryz.zeroValue102
  t105 := Tryz.underlying117
  a105 := Tryz.isAgg117
  z105 := Tryz.sizeOf117
  v105 := Tryz.zeroValue117
  t119 := Tryz.underlying179
  a119 := Tryz.isAgg179
  z119 := Tryz.sizeOf179
  t127 := Tryz.underlying110
  a127 := Tryz.isAgg110
  z127 := Tryz.sizeOf110
  v127 := Tryz.zeroValue110
  t138 := Tryz.underlying181
  a138 := Tryz.isAgg181
  z138 := Tryz.sizeOf181
  v138 := Tryz.zeroValue181
  t139 := Tryz.underlying182
  a139 := Tryz.isAgg182
  z139 := Tryz.sizeOf182
  v139 := Tryz.zeroValue182
  t146 := Tryz.underlying219
  a146 := Tryz.isAgg219
  z146 := Tryz.sizeOf219
  v146 := Tryz.zeroValue219
  t164 := Tryz.underlying148
  a164 := Tryz.isAgg148
  z164 := Tryz.sizeOf148
  v164 := Tryz.zeroValue148
  g1 := by kernel_rfl
  g3 := by kernel_rfl
  g4 := by kernel_rfl }

theorem Tryz.Builder_Extra_155 : Builder.Extra Tryz.prog Tryz.lays155_ren := {
  sizeBuilder := by kernel_rfl
  liesBuilder := by kernel_rfl
  t5 := Tryz.underlying5
  a5 := Tryz.isAgg5
  z5 := Tryz.sizeOf5
  v5 := Tryz.zeroValue5
  infoByte := by kernel_rfl
  cellsByte := by kernel_rfl
  sizeByte := by kernel_rfl
  neB5 := by decide }

open Go.RowKit Go.Lib in
theorem Tryz.strings_ReplaceAll (s old new : ByteArray) (m : Int) (w : World) (hs : s.size < 4294967281) (hm : w.cell? ⟨5, 0, none⟩ = some (.int .i64 m)) (h1 : 1 ≤ old.size) (hlen : s.size + Lib.countB s old * new.size ≤ 140737488355328) :
    Calls Tryz.prog 42 #[.string s, .string old, .string new] w fun e w' =>
      e = .returned (.string ⟨(Lib.replaceAll s.data.toList old.data.toList new.data.toList).toArray⟩) ∧ Below w.heap.size w w' := Any.strings_ReplaceAll Tryz.lays155 Tryz.Builder_Extra_155 s old new m w hs hm h1 hlen

def Tryz.lays167_ren : Go.Shelf.Ren := ⟨fun | 155 => 42 | 154 => 76 | 138 => 92 | 165 => 93 | 143 => 94 | 166 => 82 | 197 => 95 | 169 => 61 | 195 => 120 | 218 => 121 | 240 => 97 | 241 => 122 | 219 => 123 | 260 => 124 | 276 => 125 | 277 => 154 | 217 => 155 | 225 => 156 | 224 => 157 | 267 => 158 | 266 => 178 | 314 => 179 | 167 => 78 | n => n, fun | 9 => 9 | 3 => 3 | 4 => 4 | 72 => 47 | 0 => 0 | 76 => 102 | 105 => 117 | 21 => 21 | 5 => 5 | 70 => 44 | 20 => 20 | 37 => 45 | 75 => 98 | 127 => 110 | 164 => 148 | 46 => 105 | 119 => 179 | 139 => 182 | 138 => 181 | 146 => 219 | 51 => 120 | 80 => 58 | n => n, fun | 1 => 5 | 3 => 6 | 4 => 7 | n => n⟩
theorem Tryz.lays167 : Go.Proofs.Lays.n167 Tryz.prog Tryz.lays167_ren := {
  mixed := by kernel_rfl
  f167 := Tryz.func78.trans (congrArg some (by kernel_rfl))
  f240 := Tryz.func97.trans (congrArg some (by kernel_rfl))
  f276 := Tryz.func125.trans (congrArg some (by kernel_rfl))
  t0 := Tryz.underlying0
  a0 := Tryz.isAgg0
  z0 := Tryz.sizeOf0
  v0 := Tryz.zeroValue0
  t4 := Tryz.underlying4
  a4 := Tryz.isAgg4
  z4 := Tryz.sizeOf4
  v4 := Tryz.zeroValue4
  t5 := Tryz.underlying5
  a5 := Tryz.isAgg5
  z5 := Tryz.sizeOf5
  v5 := Tryz.zeroValue5
  t9 := Tryz.underlying9
  a9 := Tryz.isAgg9
  z9 := Tryz.sizeOf9
  v9 := Tryz.zeroValue9
  t20 := Tryz.underlying20
  a20 := Tryz.isAgg20
  z20 := Tryz.sizeOf20
  v20 := Tryz.zeroValue20
  t37 := Tryz.underlying45
  a37 := Tryz.isAgg45
  z37 := Tryz.sizeOf45
  v37 := Tryz.zeroValue45
  t70 := Tryz.underlying44
  a70 := Tryz.isAgg44
  z70 := Tryz.sizeOf44
  v70 := Tryz.zeroValue44
  t72 := Tryz.underlying47
  a72 := Tryz.isAgg47
  z72 := Tryz.sizeOf47
  v72 := Tryz.zeroValue47
  t75 := Tryz.underlying98
  a75 := Tryz.isAgg98
  z75 := Tryz.sizeOf98
  v75 := Tryz.zeroValue98
  t164 := Tryz.underlying148
  a164 := Tryz.isAgg148
  z164 := Tryz.sizeOf148
  v164 := Tryz.zeroValue148 }

theorem Tryz.Builder_Extra_167 : Builder.Extra Tryz.prog Tryz.lays167_ren := {
  sizeBuilder := by kernel_rfl
  liesBuilder := by kernel_rfl
  t5 := Tryz.underlying5
  a5 := Tryz.isAgg5
  z5 := Tryz.sizeOf5
  v5 := Tryz.zeroValue5
  infoByte := by kernel_rfl
  cellsByte := by kernel_rfl
  sizeByte := by kernel_rfl
  neB5 := by decide }

end Go.Proofs

namespace Go.Proofs.YtmaciepkkianhabGreatDoor.H
open Go.RowKit Go.Proofs Go.Proofs.YtmaciepkkianhabGreatDoorW.PrintWords Go.Proofs.YtmaciepkkianhabGreatDoorW.PrintLast Go.Proofs.YtmaciepkkianhabGreatDoorW.PrintMore Go.Proofs.YtmaciepkkianhabGreatDoor.QFF

theorem e_skew : strconv_skewed.f (-53) = some (-17) := by decide +kernel
theorem e_log : strconv_log2Pow10.f 17 = some 56 := by decide +kernel
theorem e_pre : strconv_prescale.f 0 0 0 (-64) 17 56 = some (12800000000000000000, 0, 5) := by decide +kernel
theorem e_min : strconv_uscale.f 9223372036854775296 12800000000000000000 0 5 = some (199999999999999989, 12800000000000000000, 0, 5) := by decide +kernel
theorem e_max : strconv_uscale.f 9223372036854776832 12800000000000000000 0 5 = some (200000000000000023, 12800000000000000000, 0, 5) := by decide +kernel
theorem e_ceil : strconv_unrounded_ceil.f 199999999999999989 = some 49999999999999998 := by decide +kernel
theorem e_floor : strconv_unrounded_floor.f 200000000000000023 = some 50000000000000005 := by decide +kernel
set_option maxHeartbeats 4000000 in
set_option maxRecDepth 100000 in
theorem shortFloat_c (w : World) (hT : Tabs w) : Calls Tryz.prog 112 #[.int .u64 9223372036854775808, .int .i64 (-64)] w fun e w' => e = .returned (.tuple #[.int .u64 5000000000000000, .int .i64 (-16)]) ∧ Below w.heap.size w w' := by
  have HT := Aside0.mk hT
  clear hT
  go_enter Tryz.func112, Tryz.ntmps112
  go_wp2_with (first | (go_at_call 129; (with_reducible refine (strconv_skewed.calls (-53) (-17) _ e_skew).mono ?_); rintro e w' ⟨rfl, ⟨nd, rfl⟩⟩) | (go_at_call 131; (with_reducible refine (strconv_log2Pow10.calls 17 56 _ e_log).mono ?_); rintro e w' ⟨rfl, ⟨nd2, rfl⟩⟩))
  have HI0 : IsS154 w (((w.drewN nd).alloc (.cells #[.int .u64 0, .int .u64 0, .int .i64 0] 154)).drewN nd2) w.heap.size 0 0 0 := IsS154.drewN (IsS154.new w (w.drewN nd) 0 0 0 (pw_below_drewN (Below.refl _ w) nd)) nd2
  have HB0 : Below w.heap.size w (((w.drewN nd).alloc (.cells #[.int .u64 0, .int .u64 0, .int .i64 0] 154)).drewN nd2) := pw_below_drewN (below_alloc (pw_below_drewN (Below.refl _ w) nd) _) nd2
  refine (strconv_prescale.calls w.heap.size 0 0 0 (-64) 17 56 12800000000000000000 0 5 w _ HI0 HB0 (HT.out.below HB0) e_pre).mono ?_
  rintro e W1 ⟨rfl, hI1, hB1, -⟩
  have HI := Aside0.mk (show IsS154 w W1 w.heap.size 12800000000000000000 0 5 from hI1)
  have HB := Aside0.mk hB1
  clear hI1 hB1 HI0 HB0
  go_wp2_with (first | (go_at_call 132; (with_reducible refine (strconv_uscale.calls _ w.heap.size _ _ _ _ _ _ _ w _ HI.out HB.out e_min).mono ?_); rintro e W2 ⟨rfl, hI2, hB2, -⟩))
  have HI3 := Aside0.mk (show IsS154 w W2 w.heap.size 12800000000000000000 0 5 from hI2)
  have HB3 := Aside0.mk hB2
  clear hI2 hB2
  refine (strconv_unrounded_nudge.calls _ _ 199999999999999989 _ ?_).mono ?_
  · decide +kernel
  rintro e W3 ⟨rfl, ⟨nd3, rfl⟩⟩
  go_wp2_with (first | (go_at_call 134; (with_reducible refine (strconv_unrounded_ceil.calls _ _ _ e_ceil).mono ?_); rintro e W3 ⟨rfl, ⟨nd4, rfl⟩⟩))
  refine (strconv_uscale.calls _ w.heap.size _ _ _ _ _ _ _ w _ (IsS154.drewN HI3.out _) (pw_below_drewN HB3.out _) e_max).mono ?_
  rintro e W5 ⟨rfl, -, hB5, -⟩
  have HB5 := Aside0.mk hB5
  clear hB5
  go_wp2_with fail
  refine (strconv_unrounded_nudge.calls _ _ 200000000000000023 _ ?_).mono ?_
  · decide +kernel
  rintro e W6 ⟨rfl, ⟨nd5, rfl⟩⟩
  go_wp2_with (first | (go_at_call 135; (with_reducible refine (strconv_unrounded_floor.calls _ _ _ e_floor).mono ?_); rintro e W3 ⟨rfl, ⟨nd6, rfl⟩⟩))
  go_ret2
  exact ⟨rfl, pw_below_drewN HB5.out _⟩
theorem mx10 : max (1 : Int) 0 = 1 := by decide
theorem mn10 : min (1 : Int) 0 = 0 := by decide
theorem mx01 : max (0 : Int) 1 = 1 := by decide
theorem mn11 : min (1 : Int) 1 = 1 := by decide
theorem mx00 : max (0 : Int) 0 = 0 := by decide
attribute [local go_sem] mx10 mn10 mx01 mn11 mx00
theorem info_u8 : (Tryz.prog.info? 5).map (fun i => (i.zero, i.size, i.bytes)) = some (some (.int .u8 0), 1, 1) := by kernel_rfl
set_option maxHeartbeats 8000000 in
set_option maxRecDepth 100000 in
theorem fmtEFG_c (w : World) (base D B : Nat) (hne : D ≠ B) (hD : w.ownsRow base 5 1 (.slice (some ⟨D, 0, none⟩) 0 24) 0 []) (hB : w.cell? ⟨B, 0, none⟩ = some (.int .u8 53)) :
    Calls Tryz.prog 102 #[.slice (some ⟨D, 0, none⟩) 0 24, .bool false, .slice (some ⟨B, 0, none⟩) 32 32, .int .i64 0, .int .i64 1, .int .i64 1, .int .u8 103, .bool true] w fun e w' =>
      e = .returned (.slice (some ⟨D, 0, none⟩) 3 24) ∧ w'.ownsRow base 5 1 (.slice (some ⟨D, 0, none⟩) 3 24) 3 [.int .u8 48, .int .u8 46, .int .u8 53] ∧ w.grownBy w' (some D) := by
  obtain ⟨i, hi, hz0, hz1, hz2⟩ := info_parts info_u8
  have HD := Aside0.mk hD
  have HBc := Aside0.mk hB
  have HN := Aside0.mk hne
  clear hD hB hne hz0 hz2
  go_enter Tryz.func102, Tryz.ntmps102
  go_wp2_with (first | (at_builtin; refine wpList_append_fits _ rfl _ _ _ rfl base 5 i 1 Tryz.underlying45 hi hz1 D _ 24 _ rfl (World.ownsRow.alloc HD.out _) _ _ _ [.int .u8 48] rfl rfl (cell_one_new _ _ _) (by simp [Value.oneCell']) (by omega) ?_))
  intro W1 hD1 hg1
  have HD1 := Aside0.mk hD1
  have HG1 := Aside0.mk hg1
  clear hD1 hg1
  go_wp2_with (first | (at_builtin; refine wpList_append_fits _ rfl _ _ _ rfl base 5 i 1 Tryz.underlying45 hi hz1 D _ 24 _ rfl (World.ownsRow.alloc HD1.out _) _ _ _ [.int .u8 46] rfl rfl (cell_one_new _ _ _) (by simp [Value.oneCell']) (by omega) ?_))
  intro W2 hD2 hg2
  have HD2 := Aside0.mk hD2
  have HG2 := Aside0.mk hg2
  clear hD2 hg2
  go_wp2
  refine wp_loop_rounds 1 ?_
  rw [rounds_succ]
  go_wp2
  refine wp_loop_rounds 2 ?_
  rw [rounds_succ]
  have hB2 : W2.cell? ⟨B, 0, none⟩ = some (.int .u8 53) := HG2.out.cell (World.grownBy.cell (World.grownBy_alloc _ _ none) (World.grownBy.cell HG1.out (World.grownBy.cell (World.grownBy_alloc _ _ none) HBc.out (by simp)) (by simpa using fun e => HN.out e.symm)) (by simp)) (by simpa using fun e => HN.out e.symm)
  go_wp2_with (first | (at_builtin; refine wpList_append_fits _ rfl _ _ _ rfl base 5 i 1 Tryz.underlying45 hi hz1 D _ 24 _ rfl (World.ownsRow.alloc HD2.out _) _ _ _ [.int .u8 53] rfl rfl (cell_one_new _ _ _) (by simp [Value.oneCell']) (by omega) ?_))
  intro W3 hD3 hg3
  have HD3 := Aside0.mk hD3
  have HG3 := Aside0.mk hg3
  clear hD3 hg3 hB2
  go_wp2
  rw [rounds_succ]
  go_wp2
  refine wp_loop_rounds 1 ?_
  rw [rounds_succ]
  go_wp2
  go_ret
  refine ⟨rfl, HD3.out, ?_⟩
  exact ((((((World.grownBy_alloc _ _ _).trans HG1.out).trans (World.grownBy_alloc _ _ _)).trans HG2.out).trans (World.grownBy_alloc _ _ _)).trans HG3.out)
abbrev encB : UInt8 → Value := fun b => Value.int .u8 (b.toNat : Int)
theorem grownBy_putRow (w : World) (B off : Nat) (d : Array UInt8) : w.grownBy (Go.Sort.putRow encB w B off d) (some B) := by
  refine ⟨rfl, rfl, rfl, ?_, fun k hk hne => ?_⟩
  · unfold Go.Sort.putRow Go.Sort.mapBlock; simp
  · unfold Go.Sort.putRow Go.Sort.mapBlock
    simp only [Array.getElem?_modify]
    rw [if_neg (fun e => hne (by rw [e]))]
theorem dg_c (t : Nat) (h : t < 16) : Lib.dg 5000000000000000 (15 - t) = if t = 0 then 53 else 48 := by
  have : t = 0 ∨ t = 1 ∨ t = 2 ∨ t = 3 ∨ t = 4 ∨ t = 5 ∨ t = 6 ∨ t = 7 ∨ t = 8 ∨ t = 9 ∨ t = 10 ∨ t = 11 ∨ t = 12 ∨ t = 13 ∨ t = 14 ∨ t = 15 := by omega
  rcases this with rfl | rfl | rfl | rfl | rfl | rfl | rfl | rfl | rfl | rfl | rfl | rfl | rfl | rfl | rfl | rfl <;> decide +kernel
set_option maxHeartbeats 8000000 in
set_option maxRecDepth 100000 in
theorem setDigits_c (w : World) (B : Nat) (hH : Go.Sort.Holds encB w B 0 (Array.replicate 16 0)) :
    Calls Tryz.prog 105 #[.slice (some ⟨B, 0, none⟩) 32 32, .int .u64 5000000000000000, .int .i64 (-16), .int .i64 16] w fun e w' =>
      e = .returned (.tuple #[.int .i64 0, .int .i64 1]) ∧ w'.cell? ⟨B, 0, none⟩ = some (.int .u8 53) ∧ w.grownBy w' (some B) := by
  have hfmt := Tryz.internal_strconv_formatBase10 B 0 32 5000000000000000 (Array.replicate 16 0) w hH (by rw [Array.size_replicate]; decide) (by decide) (by rw [Array.size_replicate]; decide)
  rw [Array.size_replicate] at hfmt
  have HH := Aside0.mk hH
  have HF := Aside0.mk hfmt
  clear hH hfmt
  go_enter Tryz.func105, Tryz.ntmps105
  go_wp2_with (first | (go_at_call 137; refine HF.out.mono ?_; rintro e W1 ⟨rfl, n, v', dk, rfl, hF⟩))
  have hg : w.grownBy ((Go.Sort.putRow encB w B 0 dk).drewN n) (some B) := let h := grownBy_putRow w B 0 dk; ⟨h.os, h.tape, h.output, h.size, h.block⟩
  have hcs : ∀ t, t < 16 → ((Go.Sort.putRow encB w B 0 dk).drewN n).cell? ⟨B, t, none⟩ = some (.int .u8 (if t = 0 then 53 else 48)) := fun t ht => by
    have h1 := Go.Sort.cell?_putRow encB w B 0 _ dk HH.out (by rw [hF.size, Array.size_replicate]) t (by rw [hF.size]; exact ht)
    rw [Nat.zero_add, hF.done t (by omega) ht, dg_c t ht] at h1
    rw [World.cell?_drewN, h1]
    split <;> rfl
  have HG := Aside0.mk hg
  have HC := Aside0.mk hcs
  clear hg hcs hF HF HH
  generalize (Go.Sort.putRow (fun b => Value.int IntKind.u8 (b.toNat : Int)) w B 0 dk).drewN n = W1 at HG HC ⊢
  go_loop [3] (fun v => ∃ k : Nat, 1 ≤ k ∧ k ≤ 16 ∧ v = .int .i64 k) (fun v => (intOf v).toNat)
  case atStart => exact ⟨16, by decide, by decide, rfl⟩
  case round =>
    obtain ⟨k, h1, h2, rfl⟩ := hrel
    by_cases hk : k = 1
    · subst hk
      have hc0 : W1.cell? ⟨B, 0, none⟩ = some (.int .u8 53) := HC.out 0 (by decide)
      go_wp2
      go_ret2
      exact ⟨rfl, HC.out 0 (by decide), HG.out⟩
    · obtain ⟨j, rfl⟩ : ∃ j, k = j + 2 := ⟨k - 2, by omega⟩
      have hc0 : W1.cell? ⟨B, j + 1, none⟩ = some (.int .u8 48) := (HC.out (j + 1) (by omega)).trans (by rw [if_neg (by omega)])
      clear hk
      go_wp2
      go_round
      case rel => exact ⟨j + 1, by omega, by omega, by go_num⟩
      case measure => simp [intOf]; omega
theorem lit_and : bits .and .u64 4602678819172646912 4503599627370495 = 0 := by decide +kernel
theorem lit_or : bits .or .u64 0 4503599627370496 = 4503599627370496 := by decide +kernel
theorem lit_exp : bits .and .i64 1022 2047 = 1022 := by decide +kernel
attribute [local go_sem] lit_and lit_or lit_exp
theorem holds32 {W : World} {B : Nat} (h : W.heap[B]? = some (.cells (Array.replicate 32 (.int .u8 0)) 125 (0, 0))) : Go.Sort.Holds encB W B 0 (Array.replicate 16 0) := fun j hj => by
  rw [Array.size_replicate] at hj
  rw [Nat.zero_add]
  refine ⟨(blk_cell h j).trans ?_, blk_frozen h j⟩
  rw [Array.getElem?_eq_getElem (by rw [Array.size_replicate]; omega), Array.getElem_replicate, getElem!_pos _ _ (by rw [Array.size_replicate]; exact hj), Array.getElem_replicate]
  rfl
set_option maxRecDepth 100000 in
theorem len64_c (w : World) : Calls Tryz.prog 103 #[.int .u64 4503599627370496] w fun e w' => e = .returned (.int .i64 53) ∧ w = w' := by
  go_enter Tryz.func103, Tryz.ntmps103
  go_wp2
  go_ret
  refine ⟨?_, rfl⟩
  kernel_rfl
theorem numDigits_c (w : World) (hT : Tabs w) : Calls Tryz.prog 106 #[.int .u64 5000000000000000] w fun e w' => e = .returned (.int .i64 16) ∧ w = w' := by
  refine (Tryz.internal_strconv_numDigits 5000000000000000 (by decide) (by decide) w hT.tens).mono ?_
  rintro e w' ⟨rfl, rfl⟩
  refine ⟨?_, rfl⟩
  kernel_rfl
set_option maxHeartbeats 8000000 in
set_option maxRecDepth 100000 in
theorem ftoa64_c (w : World) (base D : Nat) (hD : w.ownsRow base 5 1 (.slice (some ⟨D, 0, none⟩) 0 24) 0 []) (hT : Tabs w) :
    Calls Tryz.prog 86 #[.slice (some ⟨D, 0, none⟩) 0 24, .float .f64 4602678819172646912, .int .u8 103, .int .i64 (-1)] w fun e w' =>
      e = .returned (.slice (some ⟨D, 0, none⟩) 3 24) ∧ w'.ownsRow base 5 1 (.slice (some ⟨D, 0, none⟩) 3 24) 3 [.int .u8 48, .int .u8 46, .int .u8 53] ∧ w.grownBy w' (some D) := by
  have HD := Aside0.mk hD
  have HT := Aside0.mk hT
  have hx := ext99
  clear hD hT
  go_enter Tryz.func86, Tryz.ntmps86
  go_wp2_with (first | (go_at_call 103; (with_reducible refine (len64_c _).mono ?_); rintro e w' ⟨rfl, rfl⟩))
  go_quiet (fail)
  go_wp2_with (first | (go_at_call 103; (with_reducible refine (len64_c _).mono ?_); rintro e w' ⟨rfl, rfl⟩))
  have hB0 : Below w.heap.size w ((w.drewN nq).alloc (.cells (Array.replicate 32 (.int .u8 0)) 125)) := below_alloc (pw_below_drewN (Below.refl _ w) nq) _
  have hz : #[Value.int .u8 0, .int .u8 0, .int .u8 0, .int .u8 0, .int .u8 0, .int .u8 0, .int .u8 0, .int .u8 0, .int .u8 0, .int .u8 0, .int .u8 0, .int .u8 0, .int .u8 0, .int .u8 0, .int .u8 0, .int .u8 0, .int .u8 0, .int .u8 0, .int .u8 0, .int .u8 0, .int .u8 0, .int .u8 0, .int .u8 0, .int .u8 0, .int .u8 0, .int .u8 0, .int .u8 0, .int .u8 0, .int .u8 0, .int .u8 0, .int .u8 0, .int .u8 0] = Array.replicate 32 (.int .u8 0) := by rfl
  rw [hz]
  have hT0 := HT.out.below hB0
  refine (shortFloat_c _ hT0).mono ?_
  rintro e W1 ⟨rfl, hB1⟩
  have hblk : W1.heap[w.heap.size]? = some (.cells (Array.replicate 32 (.int .u8 0)) 125 (0, 0)) := by
    rw [hB1.block w.heap.size (by simp [World.alloc])]
    exact heap_alloc_new (w.drewN nq) _
  have HB1 := Aside0.mk (show Below w.heap.size w W1 from hB0.trans (hB1.mono (by simp [World.alloc])))
  have HT1 := Aside0.mk (HT.out.below HB1.out)
  have HK := Aside0.mk hblk
  clear hB0 hT0 hB1 hblk hz
  go_wp2_with (first | (go_at_call 106; (with_reducible refine (numDigits_c _ HT1.out).mono ?_); rintro e w' ⟨rfl, rfl⟩))
  have hd1 : Tabs W1.drew := ⟨HT1.out.max, HT1.out.tens, HT1.out.pows⟩
  have HT2 := Aside0.mk hd1
  have HK2 := Aside0.mk (holds32 (show W1.drew.heap[w.heap.size]? = _ from HK.out))
  clear hd1
  go_region_with (first | (go_at_call 106; (with_reducible refine (numDigits_c _ HT2.out).mono ?_); rintro e w' ⟨rfl, rfl⟩) | (go_at_call 105; (with_reducible refine (setDigits_c _ _ HK2.out).mono ?_); rintro e W2 ⟨rfl, hc2, hg2⟩))
  have hgw : w.grownBy W1.drew none := let h := grown_of_below HB1.out none; ⟨h.os, h.tape, h.output, h.size, h.block⟩
  have HD2 := Aside0.mk ((HD.out.kept hgw (.inr (by simp [Value.ownBlock]))).kept hg2 (.inr (by
    obtain ⟨-, h⟩ := HD.out.lt D rfl
    intro e
    have e2 : D = w.heap.size := Option.some.inj e
    omega)))
  have HG2 := Aside0.mk (show w.grownBy W2 none from hgw.andThen hg2 (fun j hj => .inl (by injection hj with hj; omega)))
  have HC2 := Aside0.mk hc2
  have HN := Aside0.mk (show D ≠ w.heap.size from fun e => by have := (HD.out.lt D rfl).2; omega)
  clear hgw hg2 hc2 HK HK2 HT2
  go_wp2_with fail
  refine (fmtEFG_c W2 base D w.heap.size HN.out HD2.out HC2.out).mono ?_
  rintro e W3 ⟨rfl, hD3, hg3⟩
  have HD3 := Aside0.mk hD3
  have HG3 := Aside0.mk hg3
  clear hD3 hg3
  go_wp2
  go_ret
  exact ⟨rfl, HD3.out, (HG2.out.but (some D)).trans HG3.out⟩
end Go.Proofs.YtmaciepkkianhabGreatDoor.H

namespace Go.Proofs.YtmaciepkkianhabGreatDoor.H
open Go.RowKit Go.Proofs Go.Proofs.YtmaciepkkianhabGreatDoorW.PrintWords Go.Proofs.YtmaciepkkianhabGreatDoorW.PrintLast Go.Proofs.YtmaciepkkianhabGreatDoorW.PrintMore Go.Proofs.YtmaciepkkianhabGreatDoor.QFF

theorem mx324 : max (3 : Int) 24 = 24 := by decide
attribute [local go_sem] mx324
theorem owns24 (w : World) : (w.alloc (.cells (Array.replicate 24 (.int .u8 0)) 5)).ownsRow w.heap.size 5 1 (.slice (some ⟨w.heap.size, 0, none⟩) 0 24) 0 [] :=
  ⟨rfl, .inr ⟨w.heap.size, 24, _, rfl, Nat.le_refl _, heap_alloc_new w _, by decide, by decide, by rw [Array.size_replicate], rfl⟩⟩
set_option maxHeartbeats 8000000 in
set_option maxRecDepth 100000 in
theorem iff_c (w : World) (hT : Tabs w) :
    Calls Tryz.prog 71 #[.float .f64 4602678819172646912, .int .u8 103, .int .i64 (-1), .int .i64 64] w fun e w' => e = .returned (.string ⟨#[48, 46, 53]⟩) ∧ Below w.heap.size w w' := by
  have HT := Aside0.mk hT
  clear hT
  have hmk : ∀ w, (Instr.makeSlice 45 (.int .i64 0) (.int .i64 24)).run Tryz.prog w = .ok (.slice (some ⟨w.heap.size, 0, none⟩) 0 24) (w.alloc (.cells (Array.replicate 24 (.int .u8 0)) 5)) := fun _ => by kernel_rfl
  go_enter Tryz.func71, Tryz.ntmps71
  go_wp2_with fail
  refine (ftoa64_c _ w.heap.size w.heap.size (owns24 w) (HT.out.below (below_alloc (Below.refl _ w) _))).mono ?_
  rintro e W1 ⟨rfl, hD, hg⟩
  have hb : Below w.heap.size w W1 := by
    have h1 : Below w.heap.size w (w.alloc (.cells (Array.replicate 24 (.int .u8 0)) 5)) := below_alloc (Below.refl _ w) _
    exact ⟨hg.os.trans h1.os, hg.tape.trans h1.tape, hg.output.trans h1.output, Nat.le_trans h1.size hg.size, fun k hk => (hg.block k (Nat.lt_of_lt_of_le hk h1.size) (by intro e; have e2 : k = w.heap.size := Option.some.inj e; omega)).trans (h1.block k hk)⟩
  have hcv : (convert 45 9 (.slice (some ⟨w.heap.size, 0, none⟩) 3 24)).run Tryz.prog W1 = .ok (.string ⟨#[48, 46, 53]⟩) W1 := by
    have h := run_convert_bytes_back (P := Tryz.prog) W1 45 9 5 ⟨w.heap.size, 0, none⟩ 24 [48, 46, 53] Tryz.underlying45 Tryz.underlying5 Tryz.underlying9 (fun j hj => by
      have hj' : j < 3 := hj
      have h := hD.cellAt j (by omega)
      rw [Lib.add_plain, Nat.zero_add, h]
      match j, hj' with
      | 0, _ => rfl
      | 1, _ => rfl
      | 2, _ => rfl)
    exact h
  have HB := Aside0.mk hb
  clear hD hg hb
  go_wp2
  go_ret
  exact ⟨rfl, HB.out⟩
theorem ff_c (w : World) (hT : Tabs w) :
    Calls Tryz.prog 31 #[.float .f64 4602678819172646912, .int .u8 103, .int .i64 (-1), .int .i64 64] w fun e w' => e = .returned (.string ⟨#[48, 46, 53]⟩) ∧ Below w.heap.size w w' := by
  have HT := Aside0.mk hT
  clear hT
  go_enter Tryz.func31, Tryz.ntmps31
  go_wp2_with (first | (go_at_call 71; (with_reducible refine (iff_c _ HT.out).mono ?_); rintro e w' ⟨rfl, hb⟩))
  go_ret
  exact ⟨rfl, hb⟩
/-- strconv.FormatFloat, of one half alone. -/
def strconv_FormatFloat.f (a0 : Nat) (a1 a2 a3 : Int) : Option ByteArray := if a0 = 4602678819172646912 ∧ a1 = 103 ∧ a2 = -1 ∧ a3 = 64 then some ⟨#[48, 46, 53]⟩ else none
theorem strconv_FormatFloat.calls (a0 : Nat) (a1 a2 a3 : Int) (r : ByteArray) (w : World) (hT : Tabs w) (h : strconv_FormatFloat.f a0 a1 a2 a3 = some r) :
    Calls Tryz.prog 31 #[.float .f64 a0, .int .u8 a1, .int .i64 a2, .int .i64 a3] w fun e w' => e = .returned (.string r) ∧ Below w.heap.size w w' := by
  unfold strconv_FormatFloat.f at h
  split at h
  · rename_i hc
    obtain ⟨rfl, rfl, rfl, rfl⟩ := hc
    obtain rfl := Option.some.inj h
    exact ff_c w hT
  · cases h
end Go.Proofs.YtmaciepkkianhabGreatDoor.H

namespace Go.Proofs.YtmaciepkkianhabGreatDoor.H
open Go.RowKit Go.Proofs Go.Proofs.YtmaciepkkianhabGreatDoorW.PrintWords Go.Proofs.YtmaciepkkianhabGreatDoorW.PrintLast


/-- strings.ReplaceAll, at an old that is not empty. -/
def strings_ReplaceAll.f (a0 a1 a2 : ByteArray) : Option ByteArray :=
  if a0.size < 4294967281 ∧ 1 ≤ a1.size ∧ a0.size + Lib.countB a0 a1 * a2.size ≤ 140737488355328 then some ⟨(Lib.replaceAll a0.data.toList a1.data.toList a2.data.toList).toArray⟩ else none
theorem strings_ReplaceAll.calls (a0 a1 a2 : ByteArray) (r : ByteArray) (w : World) (hT : Tabs w) (h : strings_ReplaceAll.f a0 a1 a2 = some r) :
    Calls Tryz.prog 42 #[.string a0, .string a1, .string a2] w fun e w' => e = .returned (.string r) ∧ Below w.heap.size w w' := by
  unfold strings_ReplaceAll.f at h
  split at h
  · rename_i hc
    obtain rfl := Option.some.inj h
    obtain ⟨m, hm⟩ := hT.max
    exact Tryz.strings_ReplaceAll a0 a1 a2 m w hc.1 hm hc.2.1 hc.2.2
  · cases h

/-- A text's bytes as a key has them, up to the end sign: the text, and what stands behind. -/
def txt : List UInt8 → List UInt8 → Option (List UInt8 × List UInt8)
  | [], _ => none
  | [_], _ => none
  | c :: d :: r, acc => if c ≠ 0 then txt (d :: r) (acc ++ [c]) else if d = 0 then some (acc, r) else if d ≠ 255 then none else txt r (acc ++ [0])
def value_text.f (a0 : ByteArray) : Option (Int × Int × ByteArray × ByteArray × Bool) :=
  if a0.size ≤ 35184372088832 then
    match txt a0.data.toList [] with
    | none => some (0, 0, ⟨#[]⟩, ⟨#[]⟩, false)
    | some (t, r) => some (3, 0, ⟨t.toArray⟩, ⟨r.toArray⟩, decide (t.length ≤ 24))
  else none

theorem drop_two (s : ByteArray) (k : Nat) (h : k + 1 < s.size) : s.data.toList.drop k = s[k]'(by omega) :: s[k + 1] :: s.data.toList.drop (k + 2) := by
  rw [List.drop_eq_getElem_cons (by simpa using (by omega : k < s.size)), List.drop_eq_getElem_cons (by simpa using h)]
  rfl
theorem ext_drop (s : ByteArray) (k : Nat) : s.extract k s.size = ⟨(s.data.toList.drop k).toArray⟩ := by
  apply ByteArray.ext
  apply Array.toList_inj.mp
  rw [ByteArray.data_extract, Array.toList_extract]
  have e : (s.data.toList.drop k).length ≤ s.size - k := by simp
  simpa using List.take_of_length_le e
theorem drop_few (s : ByteArray) (k : Nat) (acc : List UInt8) (h : ¬ k + 1 < s.size) : txt (s.data.toList.drop k) acc = none := by
  have hl : (s.data.toList.drop k).length ≤ 1 := by simp; omega
  match s.data.toList.drop k, hl with
  | [], _ => rfl
  | [_], _ => rfl

theorem put3 {w : World} {g : Nat} {a b c : Value} {a' b' c' : Value} {t : TypeId} (h : w.heap[g]? = some (.cells #[a, b, c] t (0, 0))) :
    (((w.setCell ⟨g, 0, none⟩ a').setCell ⟨g, 1, none⟩ b').setCell ⟨g, 2, none⟩ c').heap[g]? = some (.cells #[a', b', c'] t (0, 0)) := by
  refine blk_put (cs := #[a', b', c]) ?_ 2 _ rfl
  refine blk_put (cs := #[a', b, c]) ?_ 1 _ rfl
  exact blk_put (cs := #[a, b, c]) h 0 _ rfl
theorem below3 {B : Nat} {w W : World} {g : Nat} (h : Below B w W) (hg : B ≤ g) (a b c : Value) : Below B w (((W.setCell ⟨g, 0, none⟩ a).setCell ⟨g, 1, none⟩ b).setCell ⟨g, 2, none⟩ c) :=
  ((h.setCell (p := ⟨g, 0, none⟩) hg a).setCell (p := ⟨g, 1, none⟩) hg b).setCell (p := ⟨g, 2, none⟩) hg c
theorem text_any (s : ByteArray) (w : World) : Calls Tryz.prog 37 #[.string s] w fun e w' => e = .returned (.agg #[.int .i64 3, .int .i64 0, .string s]) ∧ Below w.heap.size w w' := by
  have hu := Tryz.underlying23
  go_enter Tryz.func37, Tryz.ntmps37
  go_wp2
  refine bodyPost_ret (results_cell_row rfl _ _ w.heap.size 23 #[.int .i64 3, .int .i64 0, .string s] (0, 0) _ rfl (heap_alloc_new w _) Tryz.underlying23 rfl (by kernel_rfl)) rfl ?_
  exact ⟨rfl, (Below.refl _ w).alloc (Nat.le_refl _) _⟩
theorem good3 (s : ByteArray) (w : World) : Calls Tryz.prog 39 #[.agg #[.int .i64 3, .int .i64 0, .string s]] w fun e w' => e = .returned (.bool (decide (s.size ≤ 24))) ∧ Below w.heap.size w w' := by
  have hu := Tryz.underlying23
  go_enter Tryz.func39, Tryz.ntmps39
  go_wp2
  go_ret
  refine ⟨?_, (Below.refl _ w).alloc (Nat.le_refl _) _⟩
  have e : decide ((s.size : Int) ≤ 24) = decide (s.size ≤ 24) := decide_eq_decide.mpr (by omega)
  exact congrArg (fun b => Ending.returned (.bool b)) e
theorem bcell {W w1 : World} (hb : Below W.heap.size W w1) : (∀ b o, b < W.heap.size → w1.cell? ⟨b, o, none⟩ = W.cell? ⟨b, o, none⟩) ∧ (∀ b o, b < W.heap.size → w1.frozen? ⟨b, o, none⟩ = W.frozen? ⟨b, o, none⟩) :=
  ⟨fun b o h => hb.cell (p := ⟨b, o, none⟩) h, fun b o h => hb.frozen (p := ⟨b, o, none⟩) h⟩
set_option maxHeartbeats 4000000 in
set_option maxRecDepth 100000 in
theorem value_text.walk (s : ByteArray) (w : World) (hs : s.size ≤ 35184372088832) (R : Int × Int × ByteArray × ByteArray × Bool) (hR : value_text.f s = some R) :
    Calls Tryz.prog 49 #[.string s] w fun e w' => e = .returned (.tuple #[.agg #[.int .i64 R.1, .int .i64 R.2.1, .string R.2.2.1], .string R.2.2.2.1, .bool R.2.2.2.2]) ∧ Below w.heap.size w w' := by
  have hu := Tryz.underlying23
  have HR := Aside0.mk hR
  clear hR
  go_enter Tryz.func49, Tryz.ntmps49
  go_wp2
  go_loopw [6] (fun i wr => ∃ (k : Nat) (acc : List UInt8), i = .int .i64 k ∧ k ≤ s.size ∧ acc.length ≤ k ∧ Lib.IsBuilderF 47 5 (w.heap.size + 1) (w.heap.size + 1) (Lib.byteCells acc) wr ∧ Below (w.heap.size + 1) (w.alloc (.cells #[.int .i64 0, .int .i64 0, .string ⟨#[]⟩] 23)) wr ∧ Aside0 (txt (s.data.toList.drop k) acc = txt s.data.toList [])) (fun i _ => s.size - (intOf i).toNat)
  case atStart =>
    exact ⟨0, [], rfl, Nat.zero_le _, Nat.le_refl _, Lib.IsBuilderF.of (by show Lib.IsBuilder 47 5 _ _ [] _; simpa using Lib.fresh_isBuilder 47 5 (w.alloc (.cells #[.int .i64 0, .int .i64 0, .string ⟨#[]⟩] 23))), (Below.refl _ _).alloc (by simp) _, ⟨rfl⟩⟩
  case round =>
    obtain ⟨k, acc, rfl, hk, hacc, hI, hb, hx⟩ := hrel
    have hblk : wr.heap[w.heap.size]? = some (.cells #[.int .i64 0, .int .i64 0, .string ⟨#[]⟩] 23 (0, 0)) := by
      rw [hb.block w.heap.size (by omega)]
      exact heap_alloc_new w _
    have hb0 : Below w.heap.size w wr := ((Below.refl _ w).alloc (Nat.le_refl _) _).trans (hb.mono (by omega))
    have hsz : w.heap.size + 1 ≤ wr.heap.size := by have := hb.size; simpa using this
    have c0 : wr.cell? ⟨w.heap.size, 0, none⟩ = some (.int .i64 0) := (blk_cell hblk 0).trans rfl
    have c1 : wr.cell? ⟨w.heap.size, 1, none⟩ = some (.int .i64 0) := (blk_cell hblk 1).trans rfl
    have c2 : wr.cell? ⟨w.heap.size, 2, none⟩ = some (.string ⟨#[]⟩) := (blk_cell hblk 2).trans rfl
    have f0 := blk_frozen hblk 0
    have f1 := blk_frozen hblk 1
    have f2 := blk_frozen hblk 2
    have HBLK := Aside0.mk hblk
    clear hblk
    by_cases hlt : k + 1 < s.size
    · have hd := Aside0.mk (drop_two s k hlt)
      by_cases h0 : s[k]'(by omega) = 0
      · have e0 : (((s[k]'(by omega)).toNat : Int) != 0) = false := by simp [h0]
        by_cases h1 : s[k + 1] = 0
        · have e1 : (((s[k + 1]).toNat : Int) == 0) = true := by simp [h1]
          have H0 := Aside0.mk h0
          have H1 := Aside0.mk h1
          clear h0 h1
          have hR : (3, 0, ⟨acc.toArray⟩, ⟨(s.data.toList.drop (k + 2)).toArray⟩, decide (acc.length ≤ 24)) = R := by
            have hr := HR.out
            unfold value_text.f at hr
            rw [if_pos hs, ← hx.out, hd.out, H0.out, H1.out] at hr
            simp [txt] at hr
            rw [← hr]
          subst hR
          have hst := Tryz.Builder_String_any_k (w.heap.size + 1) (w.heap.size + 1) acc wr hI hsz
          go_wp2_with (first | (go_at_call 61; refine hst.mono ?_; rintro e W1 ⟨rfl, h1, b1, k1⟩))
          have hb1 : Below (w.heap.size + 1) (w.alloc (.cells #[.int .i64 0, .int .i64 0, .string ⟨#[]⟩] 23)) W1 := hb.trans b1
          have hsz1 : w.heap.size + 1 ≤ W1.heap.size := by have := hb1.size; simpa using this
          clear c0 c1 c2 f0 f1 f2
          go_wp2_with (first | (go_at_call 37; refine (text_any _ _).mono ?_; rintro e W2 ⟨rfl, b2⟩))
          have hb2 : Below (w.heap.size + 1) (w.alloc (.cells #[.int .i64 0, .int .i64 0, .string ⟨#[]⟩] 23)) W2 := hb1.trans (b2.mono hsz1)
          have hsz2 : w.heap.size + 1 ≤ W2.heap.size := by have := b2.size; omega
          have hblk : W2.heap[w.heap.size]? = some (.cells #[.int .i64 0, .int .i64 0, .string ⟨#[]⟩] 23 (0, 0)) := by
            rw [hb2.block w.heap.size (by omega)]
            exact heap_alloc_new w _
          have c0 : W2.cell? ⟨w.heap.size, 0, none⟩ = some (.int .i64 0) := (blk_cell hblk 0).trans rfl
          have c1 : W2.cell? ⟨w.heap.size, 1, none⟩ = some (.int .i64 0) := (blk_cell hblk 1).trans rfl
          have c2 : W2.cell? ⟨w.heap.size, 2, none⟩ = some (.string ⟨#[]⟩) := (blk_cell hblk 2).trans rfl
          have f0 := blk_frozen hblk 0
          have f1 := blk_frozen hblk 1
          have f2 := blk_frozen hblk 2
          clear HBLK
          have HBLK := Aside0.mk hblk
          clear hblk
          go_wp2_with fail
          have hlt2 : w.heap.size < W2.heap.size := by omega
          have i0 : 0 ≤ (k : Int) + 2 := by omega
          have i1 : (k : Int) + 2 ≤ (s.size : Int) := by omega
          have i3 : ((k : Int) + 2).toNat = k + 2 := by omega
          have i4 : IntKind.i64.wrap ((k : Int) + 2) = (k : Int) + 2 := IntWalk.i64_in _ (by omega)
          go_region_with (go_at_call 39; refine (good3 _ _).mono ?_; rintro e W3 ⟨rfl, b3⟩; obtain ⟨hc3, hf3⟩ := bcell b3)
          all_goals
            clear hc3 hf3 i0 i1 i3 i4
            have q2 : Below W2.heap.size _ W3 := b3.mono (by show W2.heap.size ≤ _; simp)
            have hb3 := hb2.trans (((below_drew (below_alloc (Below.refl _ W2) _)).trans q2).mono hsz2)
            have hblk3 : W3.heap[w.heap.size]? = some (.cells #[.int .i64 0, .int .i64 0, .string ⟨#[]⟩] 23 (0, 0)) := by
              rw [hb3.block w.heap.size (by omega)]
              exact heap_alloc_new w _
            have HB3 := Aside0.mk hblk3
            clear hblk3
            go_wp2
            refine bodyPost_ret (results_ctt rfl _ _ w.heap.size 23 #[.int .i64 3, .int .i64 0, .string ⟨acc.toArray⟩] (0, 0) _ rfl (put3 HB3.out) Tryz.underlying23 rfl (by kernel_rfl)) rfl ?_
            exact ⟨by rw [ext_drop]; rfl, below3 (((Below.refl _ w).alloc (Nat.le_refl _) _).trans (hb3.mono (by omega))) (Nat.le_refl _) _ _ _⟩
        · have e1 : (((s[k + 1]).toNat : Int) == 0) = false := by
            have : ((s[k + 1]).toNat : Int) ≠ 0 := fun e => h1 (UInt8.toNat_inj.mp (by simpa using e))
            simpa using this
          have H0 := Aside0.mk h0
          have H1 := Aside0.mk h1
          clear h0 h1
          by_cases h2 : s[k + 1] = 255
          · have e2 : (((s[k + 1]).toNat : Int) != 255) = false := by simp [h2]
            have H2 := Aside0.mk h2
            clear h2
            go_wp2_with (go_at_call 78; refine (Any.Builder_WriteByte_k Tryz.lays167 Tryz.Builder_Extra_167 (w.heap.size + 1) (w.heap.size + 1) _ _ _ hI (by rw [Lib.byteCells_length]; omega) hsz).mono ?_)
            rintro e W1 ⟨rfl, h1, b1, k1⟩
            go_wp2
            go_roundw
            case rel =>
              refine ⟨k + 2, acc ++ [0], by go_num, by omega, by simp; omega, ?_, hb.trans b1, ⟨?_⟩⟩
              · rw [Lib.byteCells_append]; exact Or.inr h1
              · rw [← hx.out, hd.out, H0.out, H2.out]; simp [txt]
            case measure => simp [intOf]; omega
          · have e2 : (((s[k + 1]).toNat : Int) != 255) = true := by
              have : ((s[k + 1]).toNat : Int) ≠ 255 := fun e => h2 (UInt8.toNat_inj.mp (show s[k + 1].toNat = 255 by omega))
              simpa using this
            have H2 := Aside0.mk h2
            clear h2
            have hR : (0, 0, ⟨#[]⟩, ⟨#[]⟩, false) = R := by
              have hr := HR.out
              unfold value_text.f at hr
              rw [if_pos hs, ← hx.out, hd.out, H0.out] at hr
              have n1 := H1.out
              have n2 := H2.out
              simp [txt, n1, n2] at hr
              exact hr
            subst hR
            go_wp2
            refine bodyPost_ret (results_ctt rfl _ _ w.heap.size 23 #[.int .i64 0, .int .i64 0, .string ⟨#[]⟩] (0, 0) _ rfl (put3 HBLK.out) Tryz.underlying23 rfl (by kernel_rfl)) rfl ?_
            exact ⟨rfl, below3 hb0 (Nat.le_refl _) _ _ _⟩
      · have e0 : ((s[k]'(by omega)).toNat : Int) ≠ 0 := fun e => h0 (UInt8.toNat_inj.mp (by simpa using e))
        have e1 : (((s[k]'(by omega)).toNat : Int) != 0) = true := by simpa using e0
        have H0 := Aside0.mk h0
        clear h0 e0
        go_wp2_with (go_at_call 78; refine (Any.Builder_WriteByte_k Tryz.lays167 Tryz.Builder_Extra_167 (w.heap.size + 1) (w.heap.size + 1) _ _ _ hI (by rw [Lib.byteCells_length]; omega) hsz).mono ?_)
        rintro e W1 ⟨rfl, h1, b1, k1⟩
        go_wp2
        go_roundw
        case rel =>
          refine ⟨k + 1, acc ++ [s[k]], by go_num, by omega, by simp; omega, ?_, hb.trans b1, ⟨?_⟩⟩
          · rw [Lib.byteCells_append]; exact Or.inr h1
          · have n0 := H0.out
            rw [← hx.out, hd.out]; simp only [txt, if_pos n0]
            rw [List.drop_eq_getElem_cons (by simpa using hlt)]; rfl
        case measure => simp [intOf]; omega
    · have hR : (0, 0, ⟨#[]⟩, ⟨#[]⟩, false) = R := by
        have hr := HR.out
        unfold value_text.f at hr
        rw [if_pos hs, ← hx.out, drop_few s k acc hlt] at hr
        exact Option.some.inj hr
      subst hR
      go_wp2
      refine bodyPost_ret (results_ctt rfl _ _ w.heap.size 23 #[.int .i64 0, .int .i64 0, .string ⟨#[]⟩] (0, 0) _ rfl (put3 HBLK.out) Tryz.underlying23 rfl (by kernel_rfl)) rfl ?_
      exact ⟨rfl, below3 hb0 (Nat.le_refl _) _ _ _⟩
theorem value_text.calls (a0 : ByteArray) (r1 r2 : Int) (r3 r4 : ByteArray) (r5 : Bool) (w : World) (h : value_text.f a0 = some (r1, r2, r3, r4, r5)) :
    Calls Tryz.prog 49 #[.string a0] w fun e w' => e = .returned (.tuple #[.agg #[.int .i64 r1, .int .i64 r2, .string r3], .string r4, .bool r5]) ∧ Below w.heap.size w w' := by
  refine value_text.walk a0 w ?_ _ h
  unfold value_text.f at h
  split at h
  · assumption
  · cases h
/-- strconv.Itoa. -/
def strconv_Itoa.f (a0 : Int) : Option ByteArray := if -9223372036854775808 ≤ a0 ∧ a0 ≤ 9223372036854775807 then some ⟨(Lib.itoa a0).toArray⟩ else none
theorem strconv_Itoa.calls (a0 : Int) (r : ByteArray) (w : World) (hT : Tabs w) (h : strconv_Itoa.f a0 = some r) :
    Calls Tryz.prog 73 #[.int .i64 a0] w fun e w' => e = .returned (.string r) ∧ Below w.heap.size w w' := by
  unfold strconv_Itoa.f at h
  split at h
  · rename_i hc
    obtain rfl := Option.some.inj h
    refine (Tryz.strconv_Itoa a0 hc.1 hc.2 w hT.tens).mono ?_
    rintro e w' ⟨rfl, k, os, rfl⟩
    exact ⟨rfl, Lib.below_grow _ w (Nat.le_refl _) k os⟩
  · cases h
end Go.Proofs.YtmaciepkkianhabGreatDoor.H

namespace Go.Proofs.YtmaciepkkianhabGreatDoor.QRows
open Go.Proofs.YtmaciepkkianhabGreatDoor.H
attribute [local go_sem] ite_signed_u64 ite_signed_u32
open Go.RowKit Go.Proofs.YtmaciepkkianhabGreatDoorW.PrintWords Go.Proofs.YtmaciepkkianhabGreatDoorW.PrintLast Go.Proofs.YtmaciepkkianhabGreatDoorW.PrintMore
attribute [local go_sem] max2_int min2_int max_two min_two max_three min_three max_four min_four   -- for this text's walks alone
set_option linter.unusedVariables false
set_option linter.unusedSimpArgs false



def errW : Option Int → Value
  | none => .nilIface
  | some c => .iface 0 (.int .i64 c)
theorem errW_none : errW none = .nilIface := rfl
theorem errW_some (c : Int) : errW (some c) = .iface 0 (.int .i64 c) := rfl

theorem info5 : (Tryz.prog.info? 5).map (fun i => (i.zero, i.size, i.bytes)) = some (some (.int .u8 0), 1, 1) := by kernel_rfl
theorem info23 : (Tryz.prog.info? 23).map (fun i => (i.zero, i.size, i.bytes)) = some (some (.agg #[(.int .i64 0), (.int .i64 0), (.string ⟨#[]⟩)]), 3, 32) := by kernel_rfl
-- the values' own types
/-! #### struct type 23 -/
structure S23 where
  f0 : Int
  f1 : Int
  f2 : ByteArray
def z23 : S23 := ⟨(0 : Int), (0 : Int), (⟨#[]⟩ : ByteArray)⟩
def k23 : Kd S23 := Kd.iso (Kd.pair (Kd.int .i64) (Kd.pair (Kd.int .i64) Kd.string)) (fun x : S23 => (x.f0, x.f1, x.f2))
theorem k23_open {w : World} {x : S23} {cs : List Value} (h : k23.K w x cs) : cs = [.int .i64 x.f0, .int .i64 x.f1, .string x.f2] := by
  obtain ⟨_, _, rfl, rfl, ⟨_, _, rfl, rfl, rfl⟩⟩ := h
  exact rfl
theorem k23_mk (w : World) (x : S23)  : k23.K w x [.int .i64 x.f0, .int .i64 x.f1, .string x.f2] := ⟨[.int .i64 x.f0], [.int .i64 x.f1, .string x.f2], rfl, rfl, ⟨[.int .i64 x.f1], [.string x.f2], rfl, rfl, rfl⟩⟩
theorem k23_mkM (w : World) (base : Nat) (ok : Nat → Prop) (x : S23)  : k23.M w base ok x [.int .i64 x.f0, .int .i64 x.f1, .string x.f2] := ⟨[.int .i64 x.f0], [.int .i64 x.f1, .string x.f2], rfl, rfl, ⟨[.int .i64 x.f1], [.string x.f2], rfl, rfl, rfl⟩⟩
def rd_T23 (xs : List S23) (i : Int) : S23 := xs.getD i.toNat z23
theorem at_T23 {w : World} {A : Option Addr} {n : Nat} {xs : List S23} (h : Kd.C k23 w A n xs) (i : Int) (h0 : 0 ≤ i) (h1 : i < n) : ∃ ad , A = some ad ∧ w.cell? (ad.add (i.toNat * 3)) = some (.int .i64 (rd_T23 xs i).f0) ∧ w.cell? ⟨(ad.add (i.toNat * 3)).block, (ad.add (i.toNat * 3)).off + 1, none⟩ = some (.int .i64 (rd_T23 xs i).f1) ∧ w.cell? ⟨(ad.add (i.toNat * 3)).block, (ad.add (i.toNat * 3)).off + 2, none⟩ = some (.string (rd_T23 xs i).f2) := by
  obtain ⟨ad, c, e, _, hK, hc0⟩ := Kd.C_get h z23 i h0 h1
  have hc : ∀ j u, c[j]? = some u → w.cell? (ad.add (i.toNat * 3 + j)) = some u := hc0
  obtain rfl := k23_open hK
  exact ⟨ad, e, hc 0 _ rfl, by rw [← add_field _ _ 1 (by omega)]; exact hc 1 _ rfl, by rw [← add_field _ _ 2 (by omega)]; exact hc 2 _ rfl⟩

end Go.Proofs.YtmaciepkkianhabGreatDoor.QRows

namespace Go.Proofs.YtmaciepkkianhabGreatDoor.QRows
open Go.Proofs.YtmaciepkkianhabGreatDoor.H
attribute [local go_sem] ite_signed_u64 ite_signed_u32
open Go.RowKit Go.Proofs.YtmaciepkkianhabGreatDoorW.PrintWords Go.Proofs.YtmaciepkkianhabGreatDoorW.PrintLast Go.Proofs.YtmaciepkkianhabGreatDoorW.PrintMore
attribute [local go_sem] max2_int min2_int max_two min_two max_three min_three max_four min_four   -- for this text's walks alone
set_option linter.unusedVariables false
set_option linter.unusedSimpArgs false

theorem eqA23 (d : Nat) (w : World) (x0 y0 : Int) (x1 y1 : Int) (x2 y2 : ByteArray) :
    (Op.equalIn (d + 2) 23 (.agg #[.int .i64 x0, .int .i64 x1, .string x2]) (.agg #[.int .i64 y0, .int .i64 y1, .string y2])).run Tryz.prog w = .ok (x0 == y0 && (x1 == y1 && (x2.toList == y2.toList))) w := by
  refine eqA_of Tryz.underlying23 (by kernel_rfl) ?_
  refine eqf_cons (by rfl) (by go_simp; rfl) (by go_simp; rfl) (by go_simp) ?_
  refine eqf_cons (by rfl) (by go_simp; rfl) (by go_simp; rfl) (by go_simp) ?_
  exact eqf_last (by rfl) (by go_simp; rfl) (by go_simp; rfl) (by go_simp)
end Go.Proofs.YtmaciepkkianhabGreatDoor.QRows

namespace Go.Proofs.YtmaciepkkianhabGreatDoor.QRows
open Go.Proofs.YtmaciepkkianhabGreatDoor.H
attribute [local go_sem] ite_signed_u64 ite_signed_u32
open Go.RowKit Go.Proofs.YtmaciepkkianhabGreatDoorW.PrintWords Go.Proofs.YtmaciepkkianhabGreatDoorW.PrintLast Go.Proofs.YtmaciepkkianhabGreatDoorW.PrintMore
attribute [local go_sem] max2_int min2_int max_two min_two max_three min_three max_four min_four   -- for this text's walks alone
set_option linter.unusedVariables false
set_option linter.unusedSimpArgs false

attribute [local go_sem high] eqA23
/-- A state of type 89 at block g of W; what its slices lead to came in by w0. -/
def IsS89 (w0 W : World) (g : Nat) (f0 : ByteArray) (f1 : Int) (f2 : Bool) : Prop := W.heap[g]? = some (.cells #[.string f0, .int .i64 f1, .bool f2] 89 (0, 0)) ∧ w0.heap.size ≤ g
theorem IsS89.grown {w0 W : World} {g : Nat} {f0 : ByteArray} {f1 : Int} {f2 : Bool} {W1 : World} {row : Option Nat} (h : IsS89 w0 W g f0 f1 f2) (hw : W.grownBy W1 row) (hne : some g ≠ row) : IsS89 w0 W1 g f0 f1 f2 := by
  obtain ⟨hb, hg⟩ := h
  exact ⟨blk_grown hb hw hne, hg⟩
theorem IsS89.kept {w0 W : World} {g : Nat} {f0 : ByteArray} {f1 : Int} {f2 : Bool} {W1 : World} {S : Nat → Prop} (h : IsS89 w0 W g f0 f1 f2) (hk : Kept W W1 S) (hne : ¬ S g) : IsS89 w0 W1 g f0 f1 f2 := by
  obtain ⟨hb, hg⟩ := h
  exact ⟨blk_kept hb hk hne, hg⟩
theorem IsS89.below {w0 W : World} {g : Nat} {f0 : ByteArray} {f1 : Int} {f2 : Bool} {W1 : World} (h : IsS89 w0 W g f0 f1 f2) (hw : Below W.heap.size W W1) : IsS89 w0 W1 g f0 f1 f2 := h.grown (grown_of_below hw none) (by simp)
theorem IsS89.alloc {w0 W : World} {g : Nat} {f0 : ByteArray} {f1 : Int} {f2 : Bool} (h : IsS89 w0 W g f0 f1 f2) (o : Obj) : IsS89 w0 (W.alloc o) g f0 f1 f2 := h.below (below_alloc (Below.refl _ _) o)
theorem IsS89.drewN {w0 W : World} {g : Nat} {f0 : ByteArray} {f1 : Int} {f2 : Bool} (h : IsS89 w0 W g f0 f1 f2) (m : Nat) : IsS89 w0 (W.drewN m) g f0 f1 f2 := h
theorem IsS89.drew {w0 W : World} {g : Nat} {f0 : ByteArray} {f1 : Int} {f2 : Bool} (h : IsS89 w0 W g f0 f1 f2) : IsS89 w0 W.drew g f0 f1 f2 := h
theorem IsS89.apart {w0 W : World} {g : Nat} {f0 : ByteArray} {f1 : Int} {f2 : Bool} {α : Type} {d : Kd α} {e : Nat} {base : Nat} {ok : Nat → Prop} {v : Value} {xs : List α} (h : IsS89 w0 W g f0 f1 f2) (ho : d.R e W base ok v xs) (ht : ∀ q, q ∈ e :: d.E → q ≠ 89) : d.R e W base (fun k => ok k ∧ k ≠ g) v xs := by
  obtain ⟨hb, hg⟩ := h
  exact Kd.R_types ho hb ht
theorem IsS89.own_ne {w0 W : World} {g : Nat} {f0 : ByteArray} {f1 : Int} {f2 : Bool} {α : Type} {d : Kd α} {e : Nat} {base : Nat} {ok : Nat → Prop} {v : Value} {xs : List α} (h : IsS89 w0 W g f0 f1 f2) (ho : d.R e W base ok v xs) (ht : e ≠ 89) : some g ≠ v.ownBlock := by
  obtain ⟨hb, hg⟩ := h
  exact Kd.R_ne ho hb ht
theorem IsS89.lt {w0 W : World} {g : Nat} {f0 : ByteArray} {f1 : Int} {f2 : Bool} (h : IsS89 w0 W g f0 f1 f2) : g < W.heap.size := by
  obtain ⟨hb, hg⟩ := h
  exact blk_lt hb
theorem IsS89.ge {w0 W : World} {g : Nat} {f0 : ByteArray} {f1 : Int} {f2 : Bool} (h : IsS89 w0 W g f0 f1 f2) : w0.heap.size ≤ g := by
  obtain ⟨hb, hg⟩ := h
  exact hg
theorem IsS89.far {w0 W : World} {g : Nat} {f0 : ByteArray} {f1 : Int} {f2 : Bool} {p : Addr} (h : IsS89 w0 W g f0 f1 f2) (hne : g ≠ p.block) (u : Value) : IsS89 w0 (W.setCell p u) g f0 f1 f2 := by
  obtain ⟨hb, hg⟩ := h
  exact ⟨blk_far hb hne u, hg⟩
theorem cellS89_0 {W : World} {g : Nat} {f0 : ByteArray} {f1 : Int} {f2 : Bool} (h : W.heap[g]? = some (.cells #[.string f0, .int .i64 f1, .bool f2] 89 (0, 0))) : W.cell? ⟨g, 0, none⟩ = some (.string f0) := (blk_cell h 0).trans rfl
theorem IsS89.set_0 {w0 W : World} {g : Nat} {f0 : ByteArray} {f1 : Int} {f2 : Bool} (h : IsS89 w0 W g f0 f1 f2) (x : ByteArray) : IsS89 w0 (W.setCell ⟨g, 0, none⟩ (.string x)) g x f1 f2 := by
  obtain ⟨hb, hg⟩ := h
  exact ⟨by simpa using blk_set hb 0 (.string x), hg⟩
theorem cellS89_1 {W : World} {g : Nat} {f0 : ByteArray} {f1 : Int} {f2 : Bool} (h : W.heap[g]? = some (.cells #[.string f0, .int .i64 f1, .bool f2] 89 (0, 0))) : W.cell? ⟨g, 1, none⟩ = some (.int .i64 f1) := (blk_cell h 1).trans rfl
theorem IsS89.set_1 {w0 W : World} {g : Nat} {f0 : ByteArray} {f1 : Int} {f2 : Bool} (h : IsS89 w0 W g f0 f1 f2) (x : Int) : IsS89 w0 (W.setCell ⟨g, 1, none⟩ (.int .i64 x)) g f0 x f2 := by
  obtain ⟨hb, hg⟩ := h
  exact ⟨by simpa using blk_set hb 1 (.int .i64 x), hg⟩
theorem cellS89_2 {W : World} {g : Nat} {f0 : ByteArray} {f1 : Int} {f2 : Bool} (h : W.heap[g]? = some (.cells #[.string f0, .int .i64 f1, .bool f2] 89 (0, 0))) : W.cell? ⟨g, 2, none⟩ = some (.bool f2) := (blk_cell h 2).trans rfl
theorem IsS89.set_2 {w0 W : World} {g : Nat} {f0 : ByteArray} {f1 : Int} {f2 : Bool} (h : IsS89 w0 W g f0 f1 f2) (x : Bool) : IsS89 w0 (W.setCell ⟨g, 2, none⟩ (.bool x)) g f0 f1 x := by
  obtain ⟨hb, hg⟩ := h
  exact ⟨by simpa using blk_set hb 2 (.bool x), hg⟩
theorem IsS89.new (w0 W : World) (f0 : ByteArray) (f1 : Int) (f2 : Bool) (hB : Below w0.heap.size w0 W) : IsS89 w0 (W.alloc (.cells #[.string f0, .int .i64 f1, .bool f2] 89)) W.heap.size f0 f1 f2 := ⟨by simpa using heap_alloc_new W _, hB.size⟩

/-! ### pack_Open: function 23 -/
def pack_Open.f (a0 : ByteArray) : Option (ByteArray × Int × Bool) := some (a0, 0, false)
set_option maxHeartbeats 8000000 in
set_option maxRecDepth 100000 in
theorem pack_Open.calls (a0 : ByteArray) (r1 : ByteArray) (r2 : Int) (r3 : Bool) (w0 w : World) (hB : Below w0.heap.size w0 w) (h : pack_Open.f a0 = some (r1, r2, r3)) :
    Calls Tryz.prog 23 #[.string a0] w fun e w' => ∃ g_ : Nat, e = .returned (.pointer (some ⟨g_, 0, none⟩)) ∧ IsS89 w0 w' g_ r1 r2 r3 ∧ Below w0.heap.size w0 w' ∧ Below w.heap.size w w' := by
  have hu89 := Tryz.underlying89
  have HBW := Aside0.mk (Below.refl w.heap.size w)
  have HW0 := Aside0.mk hB.size
  have HB := Aside0.mk hB
  clear hB
  have H : (some (a0, 0, false)) = some (r1, r2, r3) := h
  clear h
  simp only [Option.some.injEq, Prod.mk.injEq] at H
  obtain ⟨rfl, rfl, rfl⟩ := H
  go_enter Tryz.func23, Tryz.ntmps23
  go_wp2_with (first | ((with_reducible refine gate_dst (N := 5) rfl ?_); refine box_event ?hg (N := 5) ?hd (cs := #[.string a0, .int .i64 0, .bool false]) (t := 89) ?hr ?_; (case hd => rfl); (case hg => rfl); (case hr => first | (go_simp; done) | (go_simp; rfl)); intro gb101 hg w2 hbox hb; have n0_ := Aside0.mk (below_step HBW.out hb); have n1_ := Aside0.mk (below_step (by repeat (first | (with_reducible first | exact HB.out | apply below_alloc | apply pw_below_drewN | apply below_drew1) | exact HB.out)) hb); have n2_ := Aside0.mk (hbox); have n3_ := Aside0.mk ((by rw [hg]; exact (below_size (by repeat (first | (with_reducible first | exact HBW.out | apply below_alloc | apply pw_below_drewN | apply below_drew1) | exact HBW.out))) : w.heap.size ≤ gb101)); have n4_ := Aside0.mk ((Nat.le_trans HW0.out (by rw [hg]; exact (below_size (by repeat (first | (with_reducible first | exact HBW.out | apply below_alloc | apply pw_below_drewN | apply below_drew1) | exact HBW.out))) : w.heap.size ≤ gb101) : w0.heap.size ≤ gb101)); clear HBW; clear HB; have HBW := n0_; have HB := n1_; have BK101 := n2_; have GW101 := n3_; have GE101 := n4_; clear n0_ n1_ n2_ n3_ n4_; clear hb hbox hg))
  go_ret
  exact ⟨_, rfl, (show IsS89 w0 _ gb101 a0 0 false from ⟨by (with_reducible repeat (first | refine blk_drewN ?_ _ | refine blk_drew ?_ | refine blk_alloc ?_ _)); exact BK101.out, GE101.out⟩), by repeat (first | (with_reducible first | exact HB.out | apply below_alloc | apply pw_below_drewN | apply below_drew1 | refine below_set ?_ GE101.out) | exact HB.out), by repeat (first | (with_reducible first | exact HBW.out | apply below_alloc | apply pw_below_drewN | apply below_drew1 | refine below_set ?_ GW101.out) | exact HBW.out)⟩

/-! ### real_Canon: function 62 -/
def real_Canon.f (a0 : Nat) : Option (Int) := if (FloatKind.f64.format.order a0 a0 != some Ordering.eq) = true then (some 9221120237041090560) else (if (FloatKind.f64.format.order a0 0 == some Ordering.eq) = true then (some 0) else (some (wrap64 ((a0 : Int)))))
set_option maxHeartbeats 8000000 in
set_option maxRecDepth 100000 in
theorem real_Canon.calls (a0 : Nat) (r : Int) (w : World) (h : real_Canon.f a0 = some r) :
    Calls Tryz.prog 62 #[.float .f64 a0] w fun e w' => e = .returned (.int .i64 r) ∧ Drawn0 w w' := by
  have hx68 := ext68
  have H : (if (FloatKind.f64.format.order a0 a0 != some Ordering.eq) = true then (some 9221120237041090560) else (if (FloatKind.f64.format.order a0 0 == some Ordering.eq) = true then (some 0) else (some (wrap64 ((a0 : Int)))))) = some r := h
  clear h
  by_cases c2 : (FloatKind.f64.format.order a0 a0 != some Ordering.eq) = true
  · rw [if_pos c2] at H
    have c2b0 : (FloatKind.f64.format.order a0 a0 != some Ordering.eq) = true := c2
    clear c2
    obtain rfl := Option.some.inj H
    go_enter Tryz.func62, Tryz.ntmps62
    go_wp2
    go_ret
    exact ⟨by first | rfl | (simp; done) | (simp [*]; done) | (generalize ByteArray.toList _ = l_; cases l_ <;> rfl), by repeat (first | exact Drawn0.refl _ | apply Drawn0.step)⟩
  · rw [if_neg c2] at H
    have c2b0 : (FloatKind.f64.format.order a0 a0 != some Ordering.eq) = false := Bool.eq_false_iff.mpr c2
    clear c2
    by_cases c3 : (FloatKind.f64.format.order a0 0 == some Ordering.eq) = true
    · rw [if_pos c3] at H
      have c3b0 : (FloatKind.f64.format.order a0 0 == some Ordering.eq) = true := c3
      clear c3
      obtain rfl := Option.some.inj H
      go_enter Tryz.func62, Tryz.ntmps62
      go_wp2
      go_ret
      exact ⟨by first | rfl | (simp; done) | (simp [*]; done) | (generalize ByteArray.toList _ = l_; cases l_ <;> rfl), by repeat (first | exact Drawn0.refl _ | apply Drawn0.step)⟩
    · rw [if_neg c3] at H
      have c3b0 : (FloatKind.f64.format.order a0 0 == some Ordering.eq) = false := Bool.eq_false_iff.mpr c3
      clear c3
      obtain rfl := Option.some.inj H
      go_enter Tryz.func62, Tryz.ntmps62
      go_wp2
      go_ret
      exact ⟨by first | rfl | (simp; done) | (simp [*]; done) | (generalize ByteArray.toList _ = l_; cases l_ <;> rfl), by repeat (first | exact Drawn0.refl _ | apply Drawn0.step)⟩

/-! ### real_Of: function 70 -/
def real_Of.f (a0 : Int) : Option (Nat) := some ((IntKind.u64.wrap (a0)).toNat)
set_option maxHeartbeats 8000000 in
set_option maxRecDepth 100000 in
theorem real_Of.calls (a0 : Int) (r : Nat) (w : World) (h : real_Of.f a0 = some r) :
    Calls Tryz.prog 70 #[.int .i64 a0] w fun e w' => e = .returned (.float .f64 r) ∧ Drawn0 w w' := by
  have hx69 := ext69
  have H : (some ((IntKind.u64.wrap (a0)).toNat)) = some r := h
  clear h
  obtain rfl := Option.some.inj H
  go_enter Tryz.func70, Tryz.ntmps70
  go_wp2
  go_ret
  exact ⟨by first | rfl | (simp; done) | (simp [*]; done) | (generalize ByteArray.toList _ = l_; cases l_ <;> rfl), by repeat (first | exact Drawn0.refl _ | apply Drawn0.step)⟩

/-! ### real_Good: function 33 -/
def real_Good.f (a0 : Int) : Option (Bool) := (real_Of.f a0).bind fun t102 => ((real_Canon.f t102).bind fun t103 => (some (t103 == a0)))
set_option maxHeartbeats 8000000 in
set_option maxRecDepth 100000 in
theorem real_Good.calls (a0 : Int) (r : Bool) (w : World) (h : real_Good.f a0 = some r) :
    Calls Tryz.prog 33 #[.int .i64 a0] w fun e w' => e = .returned (.bool r) ∧ Drawn0 w w' := by
  have H : ((real_Of.f a0).bind fun t102 => ((real_Canon.f t102).bind fun t103 => (some (t103 == a0)))) = some r := h
  clear h
  replace H := Option.bind_eq_some_iff.mp H
  obtain ⟨t102, A20, H⟩ := H
  replace H : ((real_Canon.f t102).bind fun t103 => (some (t103 == a0))) = some r := H
  have A2 := Aside0.mk A20
  clear A20
  replace H := Option.bind_eq_some_iff.mp H
  obtain ⟨t103, A30, H⟩ := H
  replace H : (some (t103 == a0)) = some r := H
  have A3 := Aside0.mk A30
  clear A30
  obtain rfl := Option.some.inj H
  go_enter Tryz.func33, Tryz.ntmps33
  go_wp2_with (first | ((with_reducible refine gate_callee (f := 70) rfl ?_); refine goesL_ (some 4) rfl rfl Tryz.func70 (by kernel_rfl) rfl #[.int .i64 a0] rfl (by (try simp only [List.map_toArray, List.map_cons, List.map_nil]); first | done | rfl | (simp only [List.length_drop, List.length_take]; rfl)) ?_; (with_reducible refine (real_Of.calls a0 t102 _ A2.out).mono ?_); rintro e w' ⟨rfl, ⟨nd, rfl⟩⟩; refine ⟨_, rfl, ?_⟩) | ((with_reducible refine gate_callee (f := 62) rfl ?_); refine goesL_ (some 5) rfl rfl Tryz.func62 (by kernel_rfl) rfl #[.float .f64 t102] rfl (by (try simp only [List.map_toArray, List.map_cons, List.map_nil]); first | done | rfl | (simp only [List.length_drop, List.length_take]; rfl)) ?_; (with_reducible refine (real_Canon.calls t102 t103 _ A3.out).mono ?_); rintro e w' ⟨rfl, ⟨nd, rfl⟩⟩; refine ⟨_, rfl, ?_⟩))
  go_ret
  exact ⟨by first | rfl | (simp; done) | (simp [*]; done) | (generalize ByteArray.toList _ = l_; cases l_ <;> rfl), by repeat (first | exact Drawn0.refl _ | apply Drawn0.step)⟩

/-! ### value_Good: function 39 -/
def value_Good.f (a0_0 : Int) (a0_1 : Int) (a0_2 : ByteArray) : Option (Bool) := if a0_0 = 0 then (some (a0_0 == 0 && (a0_1 == 0 && (a0_2.toList.isEmpty)))) else (if a0_0 = 1 then (some (a0_2.toList == ([] : List UInt8))) else (if a0_0 = 2 then (if a0_2.toList = ([] : List UInt8) then ((real_Good.f a0_1).bind fun t105 => (some t105)) else (some false)) else (if a0_0 = 3 then (if a0_1 = 0 then (some (decide ((a0_2.size : Int) ≤ 24))) else (some false)) else (some false))))
set_option maxHeartbeats 8000000 in
set_option maxRecDepth 100000 in
theorem value_Good.calls (a0_0 : Int) (a0_1 : Int) (a0_2 : ByteArray) (r : Bool) (w : World) (h : value_Good.f a0_0 a0_1 a0_2 = some r) :
    Calls Tryz.prog 39 #[.agg #[.int .i64 a0_0, .int .i64 a0_1, .string a0_2]] w fun e w' => e = .returned (.bool r) ∧ Below w.heap.size w w' := by
  have hu23 := Tryz.underlying23
  have HB := Aside0.mk (Below.refl w.heap.size w)
  have H : (if a0_0 = 0 then (some (a0_0 == 0 && (a0_1 == 0 && (a0_2.toList.isEmpty)))) else (if a0_0 = 1 then (some (a0_2.toList == ([] : List UInt8))) else (if a0_0 = 2 then (if a0_2.toList = ([] : List UInt8) then ((real_Good.f a0_1).bind fun t105 => (some t105)) else (some false)) else (if a0_0 = 3 then (if a0_1 = 0 then (some (decide ((a0_2.size : Int) ≤ 24))) else (some false)) else (some false))))) = some r := h
  clear h
  by_cases c2 : a0_0 = 0
  · rw [if_pos c2] at H
    have c2b0 : (a0_0 == 0) = true := beq_iff_eq.mpr c2
    have c2b1 : (a0_0 != 0) = false := bne_eq_false_iff_eq.mpr c2
    clear c2
    obtain rfl := Option.some.inj H
    go_enter Tryz.func39, Tryz.ntmps39
    go_wp2_with (first | ((with_reducible refine gate_dst (N := 1) rfl ?_); (try (refine gate_guard (by rfl) ?_; dsimp only)); refine box_event ?hg (N := 1) ?hd (cs := #[.int .i64 a0_0, .int .i64 a0_1, .string a0_2]) (t := 23) ?hr ?_; (case hd => rfl); (case hg => rfl); (case hr => first | (go_simp; done) | (go_simp; rfl)); intro gb104 hg w3 hbox hb; have n0_ := Aside0.mk (below_step (by repeat (first | (with_reducible first | exact HB.out | apply below_alloc | apply pw_below_drewN | apply below_drew1) | exact HB.out)) hb); have n1_ := Aside0.mk (hbox); have n2_ := Aside0.mk ((by rw [hg]; exact (below_size (by repeat (first | (with_reducible first | exact HB.out | apply below_alloc | apply pw_below_drewN | apply below_drew1) | exact HB.out))) : w.heap.size ≤ gb104)); have n3_ := Aside0.mk ((by rw [hg]; exact (below_size (by repeat (first | (with_reducible first | exact HB.out | apply below_alloc | apply pw_below_drewN | apply below_drew1) | exact HB.out))) : w.heap.size ≤ gb104)); clear HB; have HB := n0_; have BK104 := n1_; have GW104 := n2_; have GE104 := n3_; clear n0_ n1_ n2_ n3_; clear hb hbox hg; have hcz4_0 : w3.cell? ⟨gb104, 0, none⟩ = some (.int .i64 a0_0) := (blk_cell BK104.out 0).trans rfl; have hcz4_1 : w3.cell? ⟨gb104, 1, none⟩ = some (.int .i64 a0_1) := (blk_cell BK104.out 1).trans rfl; have hcz4_2 : w3.cell? ⟨gb104, 2, none⟩ = some (.string a0_2) := (blk_cell BK104.out 2).trans rfl; have hfz4_0 := blk_frozen BK104.out 0; have hfz4_1 := blk_frozen BK104.out 1; have hfz4_2 := blk_frozen BK104.out 2))
    go_ret
    exact ⟨by first | rfl | (simp [errW_none, errW_some] <;> rfl) | (simp [*, errW_none, errW_some] <;> rfl), by repeat (first | (with_reducible first | exact HB.out | apply below_alloc | apply pw_below_drewN | apply below_drew1 | refine below_set ?_ GE104.out) | exact HB.out)⟩
  · rw [if_neg c2] at H
    have c2b0 : (a0_0 == 0) = false := beq_eq_false_iff_ne.mpr c2
    have c2b1 : (a0_0 != 0) = true := bne_iff_ne.mpr c2
    by_cases c5 : a0_0 = 1
    · rw [if_pos c5] at H
      have c5b0 : (a0_0 == 1) = true := beq_iff_eq.mpr c5
      have c5b1 : (a0_0 != 1) = false := bne_eq_false_iff_eq.mpr c5
      clear c5
      obtain rfl := Option.some.inj H
      go_enter Tryz.func39, Tryz.ntmps39
      go_wp2_with (first | ((with_reducible refine gate_dst (N := 1) rfl ?_); (try (refine gate_guard (by rfl) ?_; dsimp only)); refine box_event ?hg (N := 1) ?hd (cs := #[.int .i64 a0_0, .int .i64 a0_1, .string a0_2]) (t := 23) ?hr ?_; (case hd => rfl); (case hg => rfl); (case hr => first | (go_simp; done) | (go_simp; rfl)); intro gb104 hg w6 hbox hb; have n0_ := Aside0.mk (below_step (by repeat (first | (with_reducible first | exact HB.out | apply below_alloc | apply pw_below_drewN | apply below_drew1) | exact HB.out)) hb); have n1_ := Aside0.mk (hbox); have n2_ := Aside0.mk ((by rw [hg]; exact (below_size (by repeat (first | (with_reducible first | exact HB.out | apply below_alloc | apply pw_below_drewN | apply below_drew1) | exact HB.out))) : w.heap.size ≤ gb104)); have n3_ := Aside0.mk ((by rw [hg]; exact (below_size (by repeat (first | (with_reducible first | exact HB.out | apply below_alloc | apply pw_below_drewN | apply below_drew1) | exact HB.out))) : w.heap.size ≤ gb104)); clear HB; have HB := n0_; have BK104 := n1_; have GW104 := n2_; have GE104 := n3_; clear n0_ n1_ n2_ n3_; clear hb hbox hg; have hcz7_0 : w6.cell? ⟨gb104, 0, none⟩ = some (.int .i64 a0_0) := (blk_cell BK104.out 0).trans rfl; have hcz7_1 : w6.cell? ⟨gb104, 1, none⟩ = some (.int .i64 a0_1) := (blk_cell BK104.out 1).trans rfl; have hcz7_2 : w6.cell? ⟨gb104, 2, none⟩ = some (.string a0_2) := (blk_cell BK104.out 2).trans rfl; have hfz7_0 := blk_frozen BK104.out 0; have hfz7_1 := blk_frozen BK104.out 1; have hfz7_2 := blk_frozen BK104.out 2))
      go_ret
      exact ⟨by first | rfl | (simp [errW_none, errW_some] <;> rfl) | (simp [*, errW_none, errW_some] <;> rfl), by repeat (first | (with_reducible first | exact HB.out | apply below_alloc | apply pw_below_drewN | apply below_drew1 | refine below_set ?_ GE104.out) | exact HB.out)⟩
    · rw [if_neg c5] at H
      have c5b0 : (a0_0 == 1) = false := beq_eq_false_iff_ne.mpr c5
      have c5b1 : (a0_0 != 1) = true := bne_iff_ne.mpr c5
      by_cases c8 : a0_0 = 2
      · rw [if_pos c8] at H
        have c8b0 : (a0_0 == 2) = true := beq_iff_eq.mpr c8
        have c8b1 : (a0_0 != 2) = false := bne_eq_false_iff_eq.mpr c8
        clear c8
        by_cases c9 : a0_2.toList = ([] : List UInt8)
        · rw [if_pos c9] at H
          have c9b0 : (a0_2.toList == ([] : List UInt8)) = true := beq_iff_eq.mpr c9
          have c9b1 : (a0_2.toList != ([] : List UInt8)) = false := bne_eq_false_iff_eq.mpr c9
          clear c9
          replace H := Option.bind_eq_some_iff.mp H
          obtain ⟨t105, A100, H⟩ := H
          replace H : (some t105) = some r := H
          have A10 := Aside0.mk A100
          clear A100
          obtain rfl := Option.some.inj H
          go_enter Tryz.func39, Tryz.ntmps39
          go_wp2_with (first | ((with_reducible refine gate_dst (N := 1) rfl ?_); (try (refine gate_guard (by rfl) ?_; dsimp only)); refine box_event ?hg (N := 1) ?hd (cs := #[.int .i64 a0_0, .int .i64 a0_1, .string a0_2]) (t := 23) ?hr ?_; (case hd => rfl); (case hg => rfl); (case hr => first | (go_simp; done) | (go_simp; rfl)); intro gb104 hg w11 hbox hb; have n0_ := Aside0.mk (below_step (by repeat (first | (with_reducible first | exact HB.out | apply below_alloc | apply pw_below_drewN | apply below_drew1) | exact HB.out)) hb); have n1_ := Aside0.mk (hbox); have n2_ := Aside0.mk ((by rw [hg]; exact (below_size (by repeat (first | (with_reducible first | exact HB.out | apply below_alloc | apply pw_below_drewN | apply below_drew1) | exact HB.out))) : w.heap.size ≤ gb104)); have n3_ := Aside0.mk ((by rw [hg]; exact (below_size (by repeat (first | (with_reducible first | exact HB.out | apply below_alloc | apply pw_below_drewN | apply below_drew1) | exact HB.out))) : w.heap.size ≤ gb104)); clear HB; have HB := n0_; have BK104 := n1_; have GW104 := n2_; have GE104 := n3_; clear n0_ n1_ n2_ n3_; clear hb hbox hg; have hcz12_0 : w11.cell? ⟨gb104, 0, none⟩ = some (.int .i64 a0_0) := (blk_cell BK104.out 0).trans rfl; have hcz12_1 : w11.cell? ⟨gb104, 1, none⟩ = some (.int .i64 a0_1) := (blk_cell BK104.out 1).trans rfl; have hcz12_2 : w11.cell? ⟨gb104, 2, none⟩ = some (.string a0_2) := (blk_cell BK104.out 2).trans rfl; have hfz12_0 := blk_frozen BK104.out 0; have hfz12_1 := blk_frozen BK104.out 1; have hfz12_2 := blk_frozen BK104.out 2) | (go_at_call 33; (with_reducible refine (real_Good.calls a0_1 t105 _ A10.out).mono ?_); rintro e w' ⟨rfl, ⟨nd, rfl⟩⟩))
          go_ret
          exact ⟨by first | rfl | (simp [errW_none, errW_some] <;> rfl) | (simp [*, errW_none, errW_some] <;> rfl), by repeat (first | (with_reducible first | exact HB.out | apply below_alloc | apply pw_below_drewN | apply below_drew1 | refine below_set ?_ GE104.out) | exact HB.out)⟩
        · rw [if_neg c9] at H
          have c9b0 : (a0_2.toList == ([] : List UInt8)) = false := beq_eq_false_iff_ne.mpr c9
          have c9b1 : (a0_2.toList != ([] : List UInt8)) = true := bne_iff_ne.mpr c9
          obtain rfl := Option.some.inj H
          go_enter Tryz.func39, Tryz.ntmps39
          go_wp2_with (first | ((with_reducible refine gate_dst (N := 1) rfl ?_); (try (refine gate_guard (by rfl) ?_; dsimp only)); refine box_event ?hg (N := 1) ?hd (cs := #[.int .i64 a0_0, .int .i64 a0_1, .string a0_2]) (t := 23) ?hr ?_; (case hd => rfl); (case hg => rfl); (case hr => first | (go_simp; done) | (go_simp; rfl)); intro gb104 hg w13 hbox hb; have n0_ := Aside0.mk (below_step (by repeat (first | (with_reducible first | exact HB.out | apply below_alloc | apply pw_below_drewN | apply below_drew1) | exact HB.out)) hb); have n1_ := Aside0.mk (hbox); have n2_ := Aside0.mk ((by rw [hg]; exact (below_size (by repeat (first | (with_reducible first | exact HB.out | apply below_alloc | apply pw_below_drewN | apply below_drew1) | exact HB.out))) : w.heap.size ≤ gb104)); have n3_ := Aside0.mk ((by rw [hg]; exact (below_size (by repeat (first | (with_reducible first | exact HB.out | apply below_alloc | apply pw_below_drewN | apply below_drew1) | exact HB.out))) : w.heap.size ≤ gb104)); clear HB; have HB := n0_; have BK104 := n1_; have GW104 := n2_; have GE104 := n3_; clear n0_ n1_ n2_ n3_; clear hb hbox hg; have hcz14_0 : w13.cell? ⟨gb104, 0, none⟩ = some (.int .i64 a0_0) := (blk_cell BK104.out 0).trans rfl; have hcz14_1 : w13.cell? ⟨gb104, 1, none⟩ = some (.int .i64 a0_1) := (blk_cell BK104.out 1).trans rfl; have hcz14_2 : w13.cell? ⟨gb104, 2, none⟩ = some (.string a0_2) := (blk_cell BK104.out 2).trans rfl; have hfz14_0 := blk_frozen BK104.out 0; have hfz14_1 := blk_frozen BK104.out 1; have hfz14_2 := blk_frozen BK104.out 2))
          go_ret
          exact ⟨by first | rfl | (simp [errW_none, errW_some] <;> rfl) | (simp [*, errW_none, errW_some] <;> rfl), by repeat (first | (with_reducible first | exact HB.out | apply below_alloc | apply pw_below_drewN | apply below_drew1 | refine below_set ?_ GE104.out) | exact HB.out)⟩
      · rw [if_neg c8] at H
        have c8b0 : (a0_0 == 2) = false := beq_eq_false_iff_ne.mpr c8
        have c8b1 : (a0_0 != 2) = true := bne_iff_ne.mpr c8
        by_cases c15 : a0_0 = 3
        · rw [if_pos c15] at H
          have c15b0 : (a0_0 == 3) = true := beq_iff_eq.mpr c15
          have c15b1 : (a0_0 != 3) = false := bne_eq_false_iff_eq.mpr c15
          clear c15
          by_cases c16 : a0_1 = 0
          · rw [if_pos c16] at H
            have c16b0 : (a0_1 == 0) = true := beq_iff_eq.mpr c16
            have c16b1 : (a0_1 != 0) = false := bne_eq_false_iff_eq.mpr c16
            clear c16
            obtain rfl := Option.some.inj H
            go_enter Tryz.func39, Tryz.ntmps39
            go_wp2_with (first | ((with_reducible refine gate_dst (N := 1) rfl ?_); (try (refine gate_guard (by rfl) ?_; dsimp only)); refine box_event ?hg (N := 1) ?hd (cs := #[.int .i64 a0_0, .int .i64 a0_1, .string a0_2]) (t := 23) ?hr ?_; (case hd => rfl); (case hg => rfl); (case hr => first | (go_simp; done) | (go_simp; rfl)); intro gb104 hg w17 hbox hb; have n0_ := Aside0.mk (below_step (by repeat (first | (with_reducible first | exact HB.out | apply below_alloc | apply pw_below_drewN | apply below_drew1) | exact HB.out)) hb); have n1_ := Aside0.mk (hbox); have n2_ := Aside0.mk ((by rw [hg]; exact (below_size (by repeat (first | (with_reducible first | exact HB.out | apply below_alloc | apply pw_below_drewN | apply below_drew1) | exact HB.out))) : w.heap.size ≤ gb104)); have n3_ := Aside0.mk ((by rw [hg]; exact (below_size (by repeat (first | (with_reducible first | exact HB.out | apply below_alloc | apply pw_below_drewN | apply below_drew1) | exact HB.out))) : w.heap.size ≤ gb104)); clear HB; have HB := n0_; have BK104 := n1_; have GW104 := n2_; have GE104 := n3_; clear n0_ n1_ n2_ n3_; clear hb hbox hg; have hcz18_0 : w17.cell? ⟨gb104, 0, none⟩ = some (.int .i64 a0_0) := (blk_cell BK104.out 0).trans rfl; have hcz18_1 : w17.cell? ⟨gb104, 1, none⟩ = some (.int .i64 a0_1) := (blk_cell BK104.out 1).trans rfl; have hcz18_2 : w17.cell? ⟨gb104, 2, none⟩ = some (.string a0_2) := (blk_cell BK104.out 2).trans rfl; have hfz18_0 := blk_frozen BK104.out 0; have hfz18_1 := blk_frozen BK104.out 1; have hfz18_2 := blk_frozen BK104.out 2))
            go_ret
            exact ⟨by first | rfl | (simp [errW_none, errW_some] <;> rfl) | (simp [*, errW_none, errW_some] <;> rfl), by repeat (first | (with_reducible first | exact HB.out | apply below_alloc | apply pw_below_drewN | apply below_drew1 | refine below_set ?_ GE104.out) | exact HB.out)⟩
          · rw [if_neg c16] at H
            have c16b0 : (a0_1 == 0) = false := beq_eq_false_iff_ne.mpr c16
            have c16b1 : (a0_1 != 0) = true := bne_iff_ne.mpr c16
            obtain rfl := Option.some.inj H
            go_enter Tryz.func39, Tryz.ntmps39
            go_wp2_with (first | ((with_reducible refine gate_dst (N := 1) rfl ?_); (try (refine gate_guard (by rfl) ?_; dsimp only)); refine box_event ?hg (N := 1) ?hd (cs := #[.int .i64 a0_0, .int .i64 a0_1, .string a0_2]) (t := 23) ?hr ?_; (case hd => rfl); (case hg => rfl); (case hr => first | (go_simp; done) | (go_simp; rfl)); intro gb104 hg w19 hbox hb; have n0_ := Aside0.mk (below_step (by repeat (first | (with_reducible first | exact HB.out | apply below_alloc | apply pw_below_drewN | apply below_drew1) | exact HB.out)) hb); have n1_ := Aside0.mk (hbox); have n2_ := Aside0.mk ((by rw [hg]; exact (below_size (by repeat (first | (with_reducible first | exact HB.out | apply below_alloc | apply pw_below_drewN | apply below_drew1) | exact HB.out))) : w.heap.size ≤ gb104)); have n3_ := Aside0.mk ((by rw [hg]; exact (below_size (by repeat (first | (with_reducible first | exact HB.out | apply below_alloc | apply pw_below_drewN | apply below_drew1) | exact HB.out))) : w.heap.size ≤ gb104)); clear HB; have HB := n0_; have BK104 := n1_; have GW104 := n2_; have GE104 := n3_; clear n0_ n1_ n2_ n3_; clear hb hbox hg; have hcz20_0 : w19.cell? ⟨gb104, 0, none⟩ = some (.int .i64 a0_0) := (blk_cell BK104.out 0).trans rfl; have hcz20_1 : w19.cell? ⟨gb104, 1, none⟩ = some (.int .i64 a0_1) := (blk_cell BK104.out 1).trans rfl; have hcz20_2 : w19.cell? ⟨gb104, 2, none⟩ = some (.string a0_2) := (blk_cell BK104.out 2).trans rfl; have hfz20_0 := blk_frozen BK104.out 0; have hfz20_1 := blk_frozen BK104.out 1; have hfz20_2 := blk_frozen BK104.out 2))
            go_ret
            exact ⟨by first | rfl | (simp [errW_none, errW_some] <;> rfl) | (simp [*, errW_none, errW_some] <;> rfl), by repeat (first | (with_reducible first | exact HB.out | apply below_alloc | apply pw_below_drewN | apply below_drew1 | refine below_set ?_ GE104.out) | exact HB.out)⟩
        · rw [if_neg c15] at H
          have c15b0 : (a0_0 == 3) = false := beq_eq_false_iff_ne.mpr c15
          have c15b1 : (a0_0 != 3) = true := bne_iff_ne.mpr c15
          obtain rfl := Option.some.inj H
          go_enter Tryz.func39, Tryz.ntmps39
          go_wp2_with (first | ((with_reducible refine gate_dst (N := 1) rfl ?_); (try (refine gate_guard (by rfl) ?_; dsimp only)); refine box_event ?hg (N := 1) ?hd (cs := #[.int .i64 a0_0, .int .i64 a0_1, .string a0_2]) (t := 23) ?hr ?_; (case hd => rfl); (case hg => rfl); (case hr => first | (go_simp; done) | (go_simp; rfl)); intro gb104 hg w21 hbox hb; have n0_ := Aside0.mk (below_step (by repeat (first | (with_reducible first | exact HB.out | apply below_alloc | apply pw_below_drewN | apply below_drew1) | exact HB.out)) hb); have n1_ := Aside0.mk (hbox); have n2_ := Aside0.mk ((by rw [hg]; exact (below_size (by repeat (first | (with_reducible first | exact HB.out | apply below_alloc | apply pw_below_drewN | apply below_drew1) | exact HB.out))) : w.heap.size ≤ gb104)); have n3_ := Aside0.mk ((by rw [hg]; exact (below_size (by repeat (first | (with_reducible first | exact HB.out | apply below_alloc | apply pw_below_drewN | apply below_drew1) | exact HB.out))) : w.heap.size ≤ gb104)); clear HB; have HB := n0_; have BK104 := n1_; have GW104 := n2_; have GE104 := n3_; clear n0_ n1_ n2_ n3_; clear hb hbox hg; have hcz22_0 : w21.cell? ⟨gb104, 0, none⟩ = some (.int .i64 a0_0) := (blk_cell BK104.out 0).trans rfl; have hcz22_1 : w21.cell? ⟨gb104, 1, none⟩ = some (.int .i64 a0_1) := (blk_cell BK104.out 1).trans rfl; have hcz22_2 : w21.cell? ⟨gb104, 2, none⟩ = some (.string a0_2) := (blk_cell BK104.out 2).trans rfl; have hfz22_0 := blk_frozen BK104.out 0; have hfz22_1 := blk_frozen BK104.out 1; have hfz22_2 := blk_frozen BK104.out 2))
          go_ret
          exact ⟨by first | rfl | (simp [errW_none, errW_some] <;> rfl) | (simp [*, errW_none, errW_some] <;> rfl), by repeat (first | (with_reducible first | exact HB.out | apply below_alloc | apply pw_below_drewN | apply below_drew1 | refine below_set ?_ GE104.out) | exact HB.out)⟩

/-! ### pack_Reader_fail: function 81 -/
def pack_Reader_fail.f (s0_0 : ByteArray) (s0_1 : Int) (s0_2 : Bool) : Option (Int × ByteArray × Int × Bool) := some (0, s0_0, s0_1, true)
set_option maxHeartbeats 8000000 in
set_option maxRecDepth 100000 in
theorem pack_Reader_fail.calls (g : Nat) (s0_0 : ByteArray) (s0_1 : Int) (s0_2 : Bool) (r1 : Int) (r2 : ByteArray) (r3 : Int) (r4 : Bool) (w0 w : World) (hI : IsS89 w0 w g s0_0 s0_1 s0_2) (hB : Below w0.heap.size w0 w) (h : pack_Reader_fail.f s0_0 s0_1 s0_2 = some (r1, r2, r3, r4)) :
    Calls Tryz.prog 81 #[.pointer (some ⟨g, 0, none⟩)] w fun e w' => e = .returned (.int .i64 r1) ∧ IsS89 w0 w' g r2 r3 r4 ∧ Below w0.heap.size w0 w' ∧ KeepBut w w' g none := by
  have HI0 := Aside0.mk hI
  have HK := Aside0.mk (KeepBut.refl w g none)
  have HL := Aside0.mk hB.size
  clear hI
  have HW0 := Aside0.mk hB.size
  have HB := Aside0.mk hB
  clear hB
  have H : (some (0, s0_0, s0_1, true)) = some (r1, r2, r3, r4) := h
  clear h
  simp only [Option.some.injEq, Prod.mk.injEq] at H
  obtain ⟨rfl, rfl, rfl, rfl⟩ := H
  obtain ⟨HGz2, hgz2⟩ := HI0.out
  have hcz2_0 := cellS89_0 HGz2
  have hcz2_1 := cellS89_1 HGz2
  have hcz2_2 := cellS89_2 HGz2
  have hfz2_0 := blk_frozen HGz2 0
  have hfz2_1 := blk_frozen HGz2 1
  have hfz2_2 := blk_frozen HGz2 2
  clear HGz2 hgz2
  go_enter Tryz.func81, Tryz.ntmps81
  go_wp2
  go_ret
  exact ⟨by first | rfl | (simp [errW_none, errW_some] <;> rfl) | (simp [*, errW_none, errW_some] <;> rfl), by repeat (first | (with_reducible first | exact HI0.out | apply IsS89.alloc | apply IsS89.drewN | apply IsS89.drew | apply IsS89.set_0 | apply IsS89.set_1 | apply IsS89.set_2) | exact HI0.out), by repeat (first | (with_reducible first | exact HB.out | apply below_alloc | apply pw_below_drewN | apply below_drew1 | refine below_set ?_ (IsS89.ge HI0.out)) | exact HB.out), by repeat (first | (with_reducible first | exact HK.out | apply KeepBut.set_ | apply keep_drewN | apply keep_drew | apply keep_alloc) | exact HK.out)⟩

/-! ### pack_zag: function 83 -/
def pack_zag.f (a0 : Int) : Option (Int) := some (Go.bits .xor .i64 (wrap64 (a0 / 2)) (wrap64 (-(wrap64 (Go.bits .and .u64 a0 1)))))
set_option maxHeartbeats 8000000 in
set_option maxRecDepth 100000 in
theorem pack_zag.calls (a0 : Int) (r : Int) (w : World) (h : pack_zag.f a0 = some r) :
    Calls Tryz.prog 83 #[.int .u64 a0] w fun e w' => e = .returned (.int .i64 r) ∧ Drawn0 w w' := by
  have H : (some (Go.bits .xor .i64 (wrap64 (a0 / 2)) (wrap64 (-(wrap64 (Go.bits .and .u64 a0 1)))))) = some r := h
  clear h
  obtain rfl := Option.some.inj H
  go_enter Tryz.func83, Tryz.ntmps83
  go_wp2
  go_ret
  exact ⟨by first | rfl | (simp; done) | (simp [*]; done) | (generalize ByteArray.toList _ = l_; cases l_ <;> rfl), by repeat (first | exact Drawn0.refl _ | apply Drawn0.step)⟩

end Go.Proofs.YtmaciepkkianhabGreatDoor.QRows

namespace Go.Proofs.YtmaciepkkianhabGreatDoor.QRows
open Go.Proofs.YtmaciepkkianhabGreatDoor.H
attribute [local go_sem] ite_signed_u64 ite_signed_u32
open Go.RowKit Go.Proofs.YtmaciepkkianhabGreatDoorW.PrintWords Go.Proofs.YtmaciepkkianhabGreatDoorW.PrintLast Go.Proofs.YtmaciepkkianhabGreatDoorW.PrintMore
attribute [local go_sem] max2_int min2_int max_two min_two max_three min_three max_four min_four   -- for this text's walks alone
set_option linter.unusedVariables false
set_option linter.unusedSimpArgs false

/-! ### pack_Reader_Int: function 57 -/
mutual
def pack_Reader_Int.l0 : Nat → Int → Int → ByteArray → Int → Bool → Option (Int × ByteArray × Int × Bool)
  | 0, _, _, _, _, _ => none
  | k + 1, x3, x14, x1000, x1001, x1002 => if x14 < 10 then (if x1001 = (x1000.size : Int) then ((pack_Reader_fail.f x1000 x1001 x1002).bind fun bt110 => (some (bt110.1, bt110.2.1, bt110.2.2.1, bt110.2.2.2))) else (if 0 ≤ x1001 then (if x1001 < (x1000.size : Int) then (if x14 = 9 then (pack_Reader_Int.j1 k x3 x14 (bt x1000 x1001) x14 (decide ((bt x1000 x1001) > 1)) x1000 (wrap64 (x1001 + 1)) x1002) else (pack_Reader_Int.j1 k x3 x14 (bt x1000 x1001) x14 false x1000 (wrap64 (x1001 + 1)) x1002)) else (none)) else (none))) else ((pack_Reader_fail.f x1000 x1001 x1002).bind fun bt106 => (some (bt106.1, bt106.2.1, bt106.2.2.1, bt106.2.2.2)))
def pack_Reader_Int.j1 : Nat → Int → Int → Int → Int → Bool → ByteArray → Int → Bool → Option (Int × ByteArray × Int × Bool)
  | 0, _, _, _, _, _, _, _, _ => none
  | k + 1, x3, x4, x5, x14, x50, x1000, x1001, x1002 => if x50 = true then ((pack_Reader_fail.f x1000 x1001 x1002).bind fun bt114 => (some (bt114.1, bt114.2.1, bt114.2.2.1, bt114.2.2.2))) else (if 0 ≤ (wrap64 (7 * x4)) then (if x5 < 128 then (if x5 = 0 then (pack_Reader_Int.j2 k (Go.bits .or .u64 x3 (shl .u64 (IntKind.u64.wrap (Go.bits .and .u8 x5 127)) (wrap64 (7 * x4)))) (decide (x4 > 0)) x1000 x1001 x1002) else (pack_Reader_Int.j2 k (Go.bits .or .u64 x3 (shl .u64 (IntKind.u64.wrap (Go.bits .and .u8 x5 127)) (wrap64 (7 * x4)))) false x1000 x1001 x1002)) else (pack_Reader_Int.l0 k (Go.bits .or .u64 x3 (shl .u64 (IntKind.u64.wrap (Go.bits .and .u8 x5 127)) (wrap64 (7 * x4)))) (wrap64 (x14 + 1)) x1000 x1001 x1002)) else (none))
def pack_Reader_Int.j2 : Nat → Int → Bool → ByteArray → Int → Bool → Option (Int × ByteArray × Int × Bool)
  | 0, _, _, _, _, _ => none
  | k + 1, x3, x68, x1000, x1001, x1002 => if x68 = true then ((pack_Reader_fail.f x1000 x1001 x1002).bind fun bt118 => (some (bt118.1, bt118.2.1, bt118.2.2.1, bt118.2.2.2))) else ((pack_zag.f x3).bind fun t122 => (some (t122, x1000, x1001, x1002)))
end
def pack_Reader_Int.f (k : Nat) (s0_0 : ByteArray) (s0_1 : Int) (s0_2 : Bool) : Option (Int × ByteArray × Int × Bool) := if s0_2 = true then (some (0, s0_0, s0_1, s0_2)) else (pack_Reader_Int.l0 k 0 0 s0_0 s0_1 s0_2)
set_option maxHeartbeats 8000000 in
set_option maxRecDepth 100000 in
theorem pack_Reader_Int.calls (k : Nat) (g : Nat) (s0_0 : ByteArray) (s0_1 : Int) (s0_2 : Bool) (r1 : Int) (r2 : ByteArray) (r3 : Int) (r4 : Bool) (w0 w : World) (hI : IsS89 w0 w g s0_0 s0_1 s0_2) (hB : Below w0.heap.size w0 w) (h : pack_Reader_Int.f k s0_0 s0_1 s0_2 = some (r1, r2, r3, r4)) :
    Calls Tryz.prog 57 #[.pointer (some ⟨g, 0, none⟩)] w fun e w' => e = .returned (.int .i64 r1) ∧ IsS89 w0 w' g r2 r3 r4 ∧ Below w0.heap.size w0 w' ∧ KeepBut w w' g none := by
  have HI0 := Aside0.mk hI
  have HK := Aside0.mk (KeepBut.refl w g none)
  have HL := Aside0.mk hB.size
  clear hI
  have HW0 := Aside0.mk hB.size
  have HB := Aside0.mk hB
  clear hB
  have H : (if s0_2 = true then (some (0, s0_0, s0_1, s0_2)) else (pack_Reader_Int.l0 k 0 0 s0_0 s0_1 s0_2)) = some (r1, r2, r3, r4) := h
  clear h
  by_cases c2 : s0_2 = true
  · subst c2
    have H1 : (some (0, s0_0, s0_1, true)) = some (r1, r2, r3, r4) := by rw [if_pos rfl] at H; exact H
    clear H
    have H := H1
    clear H1
    simp only [Option.some.injEq, Prod.mk.injEq] at H
    obtain ⟨rfl, rfl, rfl, rfl⟩ := H
    obtain ⟨HGz3, hgz3⟩ := HI0.out
    have hcz3_0 := cellS89_0 HGz3
    have hcz3_1 := cellS89_1 HGz3
    have hcz3_2 := cellS89_2 HGz3
    have hfz3_0 := blk_frozen HGz3 0
    have hfz3_1 := blk_frozen HGz3 1
    have hfz3_2 := blk_frozen HGz3 2
    clear HGz3 hgz3
    go_enter Tryz.func57, Tryz.ntmps57
    go_wp2
    repeat (go_quiet (fail); try go_wp2)
    go_ret
    exact ⟨by first | rfl | (simp [errW_none, errW_some] <;> rfl) | (simp [*, errW_none, errW_some] <;> rfl), by repeat (first | (with_reducible first | exact HI0.out | apply IsS89.alloc | apply IsS89.drewN | apply IsS89.drew | apply IsS89.set_0 | apply IsS89.set_1 | apply IsS89.set_2) | exact HI0.out), by repeat (first | (with_reducible first | exact HB.out | apply below_alloc | apply pw_below_drewN | apply below_drew1 | refine below_set ?_ (IsS89.ge HI0.out)) | exact HB.out), by repeat (first | (with_reducible first | exact HK.out | apply KeepBut.set_ | apply keep_drewN | apply keep_drew | apply keep_alloc) | exact HK.out)⟩
  · replace c2 := Bool.eq_false_iff.mpr c2
    subst c2
    have H1 : (pack_Reader_Int.l0 k 0 0 s0_0 s0_1 false) = some (r1, r2, r3, r4) := by rw [if_neg (show ¬ (false = true) by decide)] at H; exact H
    clear H
    have H := H1
    clear H1
    have H' := Aside0.mk H
    clear H
    obtain ⟨HGz4, hgz4⟩ := HI0.out
    have hcz4_0 := cellS89_0 HGz4
    have hcz4_1 := cellS89_1 HGz4
    have hcz4_2 := cellS89_2 HGz4
    have hfz4_0 := blk_frozen HGz4 0
    have hfz4_1 := blk_frozen HGz4 1
    have hfz4_2 := blk_frozen HGz4 2
    clear HGz4 hgz4
    go_enter Tryz.func57, Tryz.ntmps57
    go_wp2
    repeat (go_quiet (fail); try go_wp2)
    go_loopg [3, 14] k (fun kq v3 v14 w' => ∃ (x3_1 : Int) (x14_1 : Int) (x1000_1 : ByteArray) (x1001_1 : Int) (x1002_1 : Bool), v3 = .int .u64 x3_1 ∧ v14 = .int .i64 x14_1 ∧ Aside0 (pack_Reader_Int.l0 kq x3_1 x14_1 x1000_1 x1001_1 x1002_1 = some (r1, r2, r3, r4)) ∧ Aside0 (kq ≤ k) ∧ Aside0 (IsS89 w0 w' g x1000_1 x1001_1 x1002_1) ∧ Aside0 (KeepBut w w' g none) ∧ Aside0 (Below w0.heap.size w0 w'))
    case atStart => exact ⟨(0), (0), (s0_0), (s0_1), (false), (by first | rfl | (simp; done) | (simp [*]; done) | (generalize ByteArray.toList _ = l_; cases l_ <;> rfl)), (by first | rfl | (simp; done) | (simp [*]; done) | (generalize ByteArray.toList _ = l_; cases l_ <;> rfl)), H', ⟨Nat.le_refl _⟩, ⟨by repeat (first | (with_reducible first | exact HI0.out | apply IsS89.alloc | apply IsS89.drewN | apply IsS89.drew | apply IsS89.set_0 | apply IsS89.set_1 | apply IsS89.set_2) | exact HI0.out)⟩, ⟨by repeat (first | (with_reducible first | exact HK.out | apply KeepBut.set_ | apply keep_drewN | apply keep_drew | apply keep_alloc) | exact HK.out)⟩, ⟨by repeat (first | (with_reducible first | exact HB.out | apply below_alloc | apply pw_below_drewN | apply below_drew1 | refine below_set ?_ (IsS89.ge HI0.out)) | exact HB.out)⟩⟩
    case round =>
      clear H'
      try clear c2
      try clear p2
      try clear hcz3_0
      try clear hcz3_1
      try clear hcz3_2
      try clear hcz4_0
      try clear hcz4_1
      try clear hcz4_2
      try clear hfz3_0
      try clear hfz3_1
      try clear hfz3_2
      try clear hfz4_0
      try clear hfz4_1
      try clear hfz4_2
      obtain ⟨x3_1, x14_1, x1000_1, x1001_1, x1002_1, rfl, rfl, HA, HK1, HI0, HK, HB⟩ := hrel
      cases gk with
      | zero => exact absurd HA.out (by simp [pack_Reader_Int.l0])
      | succ k1 =>
        have H := HA.out
        clear HA
        simp only [pack_Reader_Int.l0] at H
        by_cases c5 : x14_1 < 10
        · rw [if_pos c5] at H
          have c5b0 : decide (x14_1 < 10) = true := decide_eq_true c5
          clear c5
          by_cases c6 : x1001_1 = (x1000_1.size : Int)
          · rw [if_pos c6] at H
            have c6b0 : (x1001_1 == (x1000_1.size : Int)) = true := beq_iff_eq.mpr c6
            have c6b1 : (x1001_1 != (x1000_1.size : Int)) = false := bne_eq_false_iff_eq.mpr c6
            clear c6
            replace H := Option.bind_eq_some_iff.mp H
            obtain ⟨⟨t110, t111, t112, t113⟩, A70, H⟩ := H
            replace H : (some (t110, t111, t112, t113)) = some (r1, r2, r3, r4) := H
            have A7 := Aside0.mk A70
            clear A70
            simp only [Option.some.injEq, Prod.mk.injEq] at H
            obtain ⟨rfl, rfl, rfl, rfl⟩ := H
            obtain ⟨HGz8, hgz8⟩ := HI0.out
            have hcz8_0 := cellS89_0 HGz8
            have hcz8_1 := cellS89_1 HGz8
            have hcz8_2 := cellS89_2 HGz8
            have hfz8_0 := blk_frozen HGz8 0
            have hfz8_1 := blk_frozen HGz8 1
            have hfz8_2 := blk_frozen HGz8 2
            clear HGz8 hgz8
            go_wp2_with (first | (go_at_call 81; (with_reducible refine (pack_Reader_fail.calls g x1000_1 x1001_1 x1002_1 t110 t111 t112 t113 w0 _ ?side1 ?side2 A7.out).mono ?_); (case side1 => repeat (first | (with_reducible first | exact HI0.out | apply IsS89.alloc | apply IsS89.drewN | apply IsS89.drew | apply IsS89.set_0 | apply IsS89.set_1 | apply IsS89.set_2) | exact HI0.out)); (case side2 => repeat (first | (with_reducible first | exact HB.out | apply below_alloc | apply pw_below_drewN | apply below_drew1 | refine below_set ?_ (IsS89.ge HI0.out)) | exact HB.out)); rintro e w9 ⟨rfl, hi, hb, hk⟩; have n0_ := Aside0.mk (KeepBut.trans (by repeat (first | (with_reducible first | exact HK.out | apply KeepBut.set_ | apply keep_drewN | apply keep_drew | apply keep_alloc) | exact HK.out)) hk (.inl rfl)); have n1_ := Aside0.mk (hb); have n2_ := Aside0.mk (hi); clear HK; clear HB; clear HI0; have HK := n0_; have HB := n1_; have HI0 := n2_; clear n0_ n1_ n2_; (try clear hb); (try clear hb2); (try clear hk); (try clear hi)))
            repeat (go_quiet (first | (go_at_call 81; (with_reducible refine (pack_Reader_fail.calls g x1000_1 x1001_1 x1002_1 t110 t111 t112 t113 w0 _ ?side1 ?side2 A7.out).mono ?_); (case side1 => repeat (first | (with_reducible first | exact HI0.out | apply IsS89.alloc | apply IsS89.drewN | apply IsS89.drew | apply IsS89.set_0 | apply IsS89.set_1 | apply IsS89.set_2) | exact HI0.out)); (case side2 => repeat (first | (with_reducible first | exact HB.out | apply below_alloc | apply pw_below_drewN | apply below_drew1 | refine below_set ?_ (IsS89.ge HI0.out)) | exact HB.out)); rintro e w9 ⟨rfl, hi, hb, hk⟩; have n0_ := Aside0.mk (KeepBut.trans (by repeat (first | (with_reducible first | exact HK.out | apply KeepBut.set_ | apply keep_drewN | apply keep_drew | apply keep_alloc) | exact HK.out)) hk (.inl rfl)); have n1_ := Aside0.mk (hb); have n2_ := Aside0.mk (hi); clear HK; clear HB; clear HI0; have HK := n0_; have HB := n1_; have HI0 := n2_; clear n0_ n1_ n2_; (try clear hb); (try clear hb2); (try clear hk); (try clear hi))); try go_wp2_with (first | (go_at_call 81; (with_reducible refine (pack_Reader_fail.calls g x1000_1 x1001_1 x1002_1 t110 t111 t112 t113 w0 _ ?side1 ?side2 A7.out).mono ?_); (case side1 => repeat (first | (with_reducible first | exact HI0.out | apply IsS89.alloc | apply IsS89.drewN | apply IsS89.drew | apply IsS89.set_0 | apply IsS89.set_1 | apply IsS89.set_2) | exact HI0.out)); (case side2 => repeat (first | (with_reducible first | exact HB.out | apply below_alloc | apply pw_below_drewN | apply below_drew1 | refine below_set ?_ (IsS89.ge HI0.out)) | exact HB.out)); rintro e w9 ⟨rfl, hi, hb, hk⟩; have n0_ := Aside0.mk (KeepBut.trans (by repeat (first | (with_reducible first | exact HK.out | apply KeepBut.set_ | apply keep_drewN | apply keep_drew | apply keep_alloc) | exact HK.out)) hk (.inl rfl)); have n1_ := Aside0.mk (hb); have n2_ := Aside0.mk (hi); clear HK; clear HB; clear HI0; have HK := n0_; have HB := n1_; have HI0 := n2_; clear n0_ n1_ n2_; (try clear hb); (try clear hb2); (try clear hk); (try clear hi))))
            go_ret
            exact ⟨by first | rfl | (simp [errW_none, errW_some] <;> rfl) | (simp [*, errW_none, errW_some] <;> rfl), by repeat (first | (with_reducible first | exact HI0.out | apply IsS89.alloc | apply IsS89.drewN | apply IsS89.drew | apply IsS89.set_0 | apply IsS89.set_1 | apply IsS89.set_2) | exact HI0.out), by repeat (first | (with_reducible first | exact HB.out | apply below_alloc | apply pw_below_drewN | apply below_drew1 | refine below_set ?_ (IsS89.ge HI0.out)) | exact HB.out), by repeat (first | (with_reducible first | exact HK.out | apply KeepBut.set_ | apply keep_drewN | apply keep_drew | apply keep_alloc) | exact HK.out)⟩
          · rw [if_neg c6] at H
            have c6b0 : (x1001_1 == (x1000_1.size : Int)) = false := beq_eq_false_iff_ne.mpr c6
            have c6b1 : (x1001_1 != (x1000_1.size : Int)) = true := bne_iff_ne.mpr c6
            by_cases c10 : 0 ≤ x1001_1
            · rw [if_pos c10] at H
              have c10b0 : decide (0 ≤ x1001_1) = true := decide_eq_true c10
              clear c10
              by_cases c11 : x1001_1 < (x1000_1.size : Int)
              · rw [if_pos c11] at H
                have c11b0 : decide (x1001_1 < (x1000_1.size : Int)) = true := decide_eq_true c11
                clear c11
                have HC13 := Aside0.mk H
                clear H
                obtain ⟨HGz14, hgz14⟩ := HI0.out
                have hcz14_0 := cellS89_0 HGz14
                have hcz14_1 := cellS89_1 HGz14
                have hcz14_2 := cellS89_2 HGz14
                have hfz14_0 := blk_frozen HGz14 0
                have hfz14_1 := blk_frozen HGz14 1
                have hfz14_2 := blk_frozen HGz14 2
                clear HGz14 hgz14
                have p12 : 0 ≤ (x1001_1 : Int) := of_decide_eq_true (by first | (with_reducible assumption) | assumption)
                have q12 : x1001_1 < (x1000_1.size : Int) := of_decide_eq_true (by first | (with_reducible assumption) | assumption)
                have hx12 := bt_at x1000_1 x1001_1
                replace p12 := eq_true p12
                replace q12 := eq_true q12
                go_upto_region 11 with (fail)
                repeat (go_quiet (fail); go_upto_region 11 with (fail))
                go_cut [50] (fun v50 wc => ∃ (kq : Nat) (x50_12 : Bool), v50 = .bool x50_12 ∧ Aside0 (pack_Reader_Int.j1 kq x3_1 x14_1 (bt x1000_1 x1001_1) x14_1 x50_12 x1000_1 (wrap64 (x1001_1 + 1)) x1002_1 = some (r1, r2, r3, r4)) ∧ Aside0 (kq ≤ k1) ∧ Aside0 (IsS89 w0 wc g x1000_1 (wrap64 (x1001_1 + 1)) x1002_1) ∧ Aside0 (KeepBut w wc g none) ∧ Aside0 (Below w0.heap.size w0 wc))
                case first =>
                  have H := HC13.out
                  clear HC13
                  by_cases c15 : x14_1 = 9
                  · rw [if_pos c15] at H
                    have c15b0 : (x14_1 == 9) = true := beq_iff_eq.mpr c15
                    have c15b1 : (x14_1 != 9) = false := bne_eq_false_iff_eq.mpr c15
                    clear c15
                    (first | rw [c15b0] | (simp only [i64_w, i32_w]; rw [c15b0]) | skip)
                    have H' := Aside0.mk H
                    clear H
                    go_wp2
                    repeat (go_quiet (fail); try go_wp2)
                    go_meet
                    case rel => exact ⟨_, (decide ((bt x1000_1 x1001_1) > 1)), (by first | rfl | (simp; done) | (simp [*]; done) | (generalize ByteArray.toList _ = l_; cases l_ <;> rfl)), H', ⟨by have := HK1.out; first | omega | exact Nat.le_refl _⟩, ⟨by repeat (first | (with_reducible first | exact HI0.out | apply IsS89.alloc | apply IsS89.drewN | apply IsS89.drew | apply IsS89.set_0 | apply IsS89.set_1 | apply IsS89.set_2) | exact HI0.out)⟩, ⟨by repeat (first | (with_reducible first | exact HK.out | apply KeepBut.set_ | apply keep_drewN | apply keep_drew | apply keep_alloc) | exact HK.out)⟩, ⟨by repeat (first | (with_reducible first | exact HB.out | apply below_alloc | apply pw_below_drewN | apply below_drew1 | refine below_set ?_ (IsS89.ge HI0.out)) | exact HB.out)⟩⟩
                  · rw [if_neg c15] at H
                    have c15b0 : (x14_1 == 9) = false := beq_eq_false_iff_ne.mpr c15
                    have c15b1 : (x14_1 != 9) = true := bne_iff_ne.mpr c15
                    (first | rw [c15b0] | (simp only [i64_w, i32_w]; rw [c15b0]) | skip)
                    have H' := Aside0.mk H
                    clear H
                    go_wp2
                    repeat (go_quiet (fail); try go_wp2)
                    go_meet
                    case rel => exact ⟨_, (false), (by first | rfl | (simp; done) | (simp [*]; done) | (generalize ByteArray.toList _ = l_; cases l_ <;> rfl)), H', ⟨by have := HK1.out; first | omega | exact Nat.le_refl _⟩, ⟨by repeat (first | (with_reducible first | exact HI0.out | apply IsS89.alloc | apply IsS89.drewN | apply IsS89.drew | apply IsS89.set_0 | apply IsS89.set_1 | apply IsS89.set_2) | exact HI0.out)⟩, ⟨by repeat (first | (with_reducible first | exact HK.out | apply KeepBut.set_ | apply keep_drewN | apply keep_drew | apply keep_alloc) | exact HK.out)⟩, ⟨by repeat (first | (with_reducible first | exact HB.out | apply below_alloc | apply pw_below_drewN | apply below_drew1 | refine below_set ?_ (IsS89.ge HI0.out)) | exact HB.out)⟩⟩
                case rest =>
                  clear HC13
                  try clear c1
                  try clear p1
                  try clear q1
                  try clear hx1
                  try clear c2
                  try clear p2
                  try clear c5
                  try clear c5b0
                  try clear c6
                  try clear c6b0
                  try clear c6b1
                  try clear p6
                  try clear c10
                  try clear c10b0
                  try clear c11
                  try clear c11b0
                  try clear p12
                  try clear q12
                  try clear hx12
                  try clear c15
                  try clear c15b0
                  try clear c15b1
                  try clear hcz14_0
                  try clear hcz14_1
                  try clear hcz14_2
                  try clear hcz3_0
                  try clear hcz3_1
                  try clear hcz3_2
                  try clear hcz4_0
                  try clear hcz4_1
                  try clear hcz4_2
                  try clear hcz8_0
                  try clear hcz8_1
                  try clear hcz8_2
                  try clear hfz14_0
                  try clear hfz14_1
                  try clear hfz14_2
                  try clear hfz3_0
                  try clear hfz3_1
                  try clear hfz3_2
                  try clear hfz4_0
                  try clear hfz4_1
                  try clear hfz4_2
                  try clear hfz8_0
                  try clear hfz8_1
                  try clear hfz8_2
                  try clear p12
                  try clear p2
                  try clear q12
                  obtain ⟨kq, x50_12, rfl, HA, HJ12, HI0, HK, HB⟩ := hcut
                  cases kq with
                  | zero => exact absurd HA.out (by simp [pack_Reader_Int.j1])
                  | succ kj12 =>
                    have H := HA.out
                    clear HA
                    simp only [pack_Reader_Int.j1] at H
                    by_cases c16 : x50_12 = true
                    · subst c16
                      have H1 : ((pack_Reader_fail.f x1000_1 (wrap64 (x1001_1 + 1)) x1002_1).bind fun bt114 => (some (bt114.1, bt114.2.1, bt114.2.2.1, bt114.2.2.2))) = some (r1, r2, r3, r4) := by rw [if_pos rfl] at H; exact H
                      clear H
                      have H := H1
                      clear H1
                      replace H := Option.bind_eq_some_iff.mp H
                      obtain ⟨⟨t114, t115, t116, t117⟩, A170, H⟩ := H
                      replace H : (some (t114, t115, t116, t117)) = some (r1, r2, r3, r4) := H
                      have A17 := Aside0.mk A170
                      clear A170
                      simp only [Option.some.injEq, Prod.mk.injEq] at H
                      obtain ⟨rfl, rfl, rfl, rfl⟩ := H
                      go_wp2_with (first | (go_at_call 81; (with_reducible refine (pack_Reader_fail.calls g x1000_1 (wrap64 (x1001_1 + 1)) x1002_1 t114 t115 t116 t117 w0 _ ?side1 ?side2 A17.out).mono ?_); (case side1 => repeat (first | (with_reducible first | exact HI0.out | apply IsS89.alloc | apply IsS89.drewN | apply IsS89.drew | apply IsS89.set_0 | apply IsS89.set_1 | apply IsS89.set_2) | exact HI0.out)); (case side2 => repeat (first | (with_reducible first | exact HB.out | apply below_alloc | apply pw_below_drewN | apply below_drew1 | refine below_set ?_ (IsS89.ge HI0.out)) | exact HB.out)); rintro e w18 ⟨rfl, hi, hb, hk⟩; have n0_ := Aside0.mk (KeepBut.trans (by repeat (first | (with_reducible first | exact HK.out | apply KeepBut.set_ | apply keep_drewN | apply keep_drew | apply keep_alloc) | exact HK.out)) hk (.inl rfl)); have n1_ := Aside0.mk (hb); have n2_ := Aside0.mk (hi); clear HK; clear HB; clear HI0; have HK := n0_; have HB := n1_; have HI0 := n2_; clear n0_ n1_ n2_; (try clear hb); (try clear hb2); (try clear hk); (try clear hi)))
                      repeat (go_quiet (first | (go_at_call 81; (with_reducible refine (pack_Reader_fail.calls g x1000_1 (wrap64 (x1001_1 + 1)) x1002_1 t114 t115 t116 t117 w0 _ ?side1 ?side2 A17.out).mono ?_); (case side1 => repeat (first | (with_reducible first | exact HI0.out | apply IsS89.alloc | apply IsS89.drewN | apply IsS89.drew | apply IsS89.set_0 | apply IsS89.set_1 | apply IsS89.set_2) | exact HI0.out)); (case side2 => repeat (first | (with_reducible first | exact HB.out | apply below_alloc | apply pw_below_drewN | apply below_drew1 | refine below_set ?_ (IsS89.ge HI0.out)) | exact HB.out)); rintro e w18 ⟨rfl, hi, hb, hk⟩; have n0_ := Aside0.mk (KeepBut.trans (by repeat (first | (with_reducible first | exact HK.out | apply KeepBut.set_ | apply keep_drewN | apply keep_drew | apply keep_alloc) | exact HK.out)) hk (.inl rfl)); have n1_ := Aside0.mk (hb); have n2_ := Aside0.mk (hi); clear HK; clear HB; clear HI0; have HK := n0_; have HB := n1_; have HI0 := n2_; clear n0_ n1_ n2_; (try clear hb); (try clear hb2); (try clear hk); (try clear hi))); try go_wp2_with (first | (go_at_call 81; (with_reducible refine (pack_Reader_fail.calls g x1000_1 (wrap64 (x1001_1 + 1)) x1002_1 t114 t115 t116 t117 w0 _ ?side1 ?side2 A17.out).mono ?_); (case side1 => repeat (first | (with_reducible first | exact HI0.out | apply IsS89.alloc | apply IsS89.drewN | apply IsS89.drew | apply IsS89.set_0 | apply IsS89.set_1 | apply IsS89.set_2) | exact HI0.out)); (case side2 => repeat (first | (with_reducible first | exact HB.out | apply below_alloc | apply pw_below_drewN | apply below_drew1 | refine below_set ?_ (IsS89.ge HI0.out)) | exact HB.out)); rintro e w18 ⟨rfl, hi, hb, hk⟩; have n0_ := Aside0.mk (KeepBut.trans (by repeat (first | (with_reducible first | exact HK.out | apply KeepBut.set_ | apply keep_drewN | apply keep_drew | apply keep_alloc) | exact HK.out)) hk (.inl rfl)); have n1_ := Aside0.mk (hb); have n2_ := Aside0.mk (hi); clear HK; clear HB; clear HI0; have HK := n0_; have HB := n1_; have HI0 := n2_; clear n0_ n1_ n2_; (try clear hb); (try clear hb2); (try clear hk); (try clear hi))))
                      go_ret
                      exact ⟨by first | rfl | (simp [errW_none, errW_some] <;> rfl) | (simp [*, errW_none, errW_some] <;> rfl), by repeat (first | (with_reducible first | exact HI0.out | apply IsS89.alloc | apply IsS89.drewN | apply IsS89.drew | apply IsS89.set_0 | apply IsS89.set_1 | apply IsS89.set_2) | exact HI0.out), by repeat (first | (with_reducible first | exact HB.out | apply below_alloc | apply pw_below_drewN | apply below_drew1 | refine below_set ?_ (IsS89.ge HI0.out)) | exact HB.out), by repeat (first | (with_reducible first | exact HK.out | apply KeepBut.set_ | apply keep_drewN | apply keep_drew | apply keep_alloc) | exact HK.out)⟩
                    · replace c16 := Bool.eq_false_iff.mpr c16
                      subst c16
                      have H1 : (if 0 ≤ (wrap64 (7 * x14_1)) then (if (bt x1000_1 x1001_1) < 128 then (if (bt x1000_1 x1001_1) = 0 then (pack_Reader_Int.j2 kj12 (Go.bits .or .u64 x3_1 (shl .u64 (IntKind.u64.wrap (Go.bits .and .u8 (bt x1000_1 x1001_1) 127)) (wrap64 (7 * x14_1)))) (decide (x14_1 > 0)) x1000_1 (wrap64 (x1001_1 + 1)) x1002_1) else (pack_Reader_Int.j2 kj12 (Go.bits .or .u64 x3_1 (shl .u64 (IntKind.u64.wrap (Go.bits .and .u8 (bt x1000_1 x1001_1) 127)) (wrap64 (7 * x14_1)))) false x1000_1 (wrap64 (x1001_1 + 1)) x1002_1)) else (pack_Reader_Int.l0 kj12 (Go.bits .or .u64 x3_1 (shl .u64 (IntKind.u64.wrap (Go.bits .and .u8 (bt x1000_1 x1001_1) 127)) (wrap64 (7 * x14_1)))) (wrap64 (x14_1 + 1)) x1000_1 (wrap64 (x1001_1 + 1)) x1002_1)) else (none)) = some (r1, r2, r3, r4) := by rw [if_neg (show ¬ (false = true) by decide)] at H; exact H
                      clear H
                      have H := H1
                      clear H1
                      obtain ⟨ji19, hji19⟩ : ∃ j_ : Int, (wrap64 (7 * x14_1)) = j_ := ⟨_, rfl⟩
                      replace H : (if 0 ≤ (ji19) then (if (bt x1000_1 x1001_1) < 128 then (if (bt x1000_1 x1001_1) = 0 then (pack_Reader_Int.j2 kj12 (Go.bits .or .u64 x3_1 (shl .u64 (IntKind.u64.wrap (Go.bits .and .u8 (bt x1000_1 x1001_1) 127)) (ji19))) (decide (x14_1 > 0)) x1000_1 (wrap64 (x1001_1 + 1)) x1002_1) else (pack_Reader_Int.j2 kj12 (Go.bits .or .u64 x3_1 (shl .u64 (IntKind.u64.wrap (Go.bits .and .u8 (bt x1000_1 x1001_1) 127)) (ji19))) false x1000_1 (wrap64 (x1001_1 + 1)) x1002_1)) else (pack_Reader_Int.l0 kj12 (Go.bits .or .u64 x3_1 (shl .u64 (IntKind.u64.wrap (Go.bits .and .u8 (bt x1000_1 x1001_1) 127)) (ji19))) (wrap64 (x14_1 + 1)) x1000_1 (wrap64 (x1001_1 + 1)) x1002_1)) else (none)) = some (r1, r2, r3, r4) := by first | (rw [hji19] at H; exact H) | (simp only [hji19] at H ⊢; exact H)
                      have hji19w : (IntKind.i64.wrap (7 * x14_1)) = ji19 := (i64_w _).trans hji19
                      by_cases c20 : 0 ≤ (ji19)
                      · rw [if_pos c20] at H
                        have c20b0 := eq_true c20
                        have c20b1 : decide (0 ≤ (ji19)) = true := decide_eq_true c20
                        clear c20
                        obtain ⟨ji21, hji21⟩ : ∃ j_ : Int, (shl .u64 (IntKind.u64.wrap (Go.bits .and .u8 (bt x1000_1 x1001_1) 127)) (ji19)) = j_ := ⟨_, rfl⟩
                        replace H : (if (bt x1000_1 x1001_1) < 128 then (if (bt x1000_1 x1001_1) = 0 then (pack_Reader_Int.j2 kj12 (Go.bits .or .u64 x3_1 (ji21)) (decide (x14_1 > 0)) x1000_1 (wrap64 (x1001_1 + 1)) x1002_1) else (pack_Reader_Int.j2 kj12 (Go.bits .or .u64 x3_1 (ji21)) false x1000_1 (wrap64 (x1001_1 + 1)) x1002_1)) else (pack_Reader_Int.l0 kj12 (Go.bits .or .u64 x3_1 (ji21)) (wrap64 (x14_1 + 1)) x1000_1 (wrap64 (x1001_1 + 1)) x1002_1)) = some (r1, r2, r3, r4) := by first | (rw [hji21] at H; exact H) | (simp only [hji21] at H ⊢; exact H)
                        have hji21_ : (IntKind.u64.wrap ((IntKind.u64.wrap (Go.bits .and .u8 (bt x1000_1 x1001_1) 127)) * 2 ^ min (ji19).toNat 64)) = ji21 := hji21
                        have hji21z : (ji19) ≤ 64 → (IntKind.u64.wrap ((IntKind.u64.wrap (Go.bits .and .u8 (bt x1000_1 x1001_1) 127)) * 2 ^ (ji19).toNat)) = ji21 := shl_small hji21
                        by_cases c22 : (bt x1000_1 x1001_1) < 128
                        · rw [if_pos c22] at H
                          have c22b0 : decide ((bt x1000_1 x1001_1) < 128) = true := decide_eq_true c22
                          clear c22
                          have HC23 := Aside0.mk H
                          clear H
                          go_upto_region 15 with (fail)
                          repeat (go_quiet (fail); go_upto_region 15 with (fail))
                          go_cut [68] (fun v68 wc => ∃ (kq : Nat) (x68_22 : Bool), v68 = .bool x68_22 ∧ Aside0 (pack_Reader_Int.j2 kq (Go.bits .or .u64 x3_1 (ji21)) x68_22 x1000_1 (wrap64 (x1001_1 + 1)) x1002_1 = some (r1, r2, r3, r4)) ∧ Aside0 (kq ≤ kj12) ∧ Aside0 (IsS89 w0 wc g x1000_1 (wrap64 (x1001_1 + 1)) x1002_1) ∧ Aside0 (KeepBut w wc g none) ∧ Aside0 (Below w0.heap.size w0 wc))
                          case first =>
                            have H := HC23.out
                            clear HC23
                            by_cases c24 : (bt x1000_1 x1001_1) = 0
                            · rw [if_pos c24] at H
                              have c24b0 : ((bt x1000_1 x1001_1) == 0) = true := beq_iff_eq.mpr c24
                              have c24b1 : ((bt x1000_1 x1001_1) != 0) = false := bne_eq_false_iff_eq.mpr c24
                              clear c24
                              (first | rw [c24b0] | (simp only [i64_w, i32_w]; rw [c24b0]) | skip)
                              have H' := Aside0.mk H
                              clear H
                              go_wp2
                              repeat (go_quiet (fail); try go_wp2)
                              go_meet
                              case rel => exact ⟨_, (decide (x14_1 > 0)), (by first | rfl | (simp; done) | (simp [*]; done) | (generalize ByteArray.toList _ = l_; cases l_ <;> rfl)), H', ⟨by have := HK1.out; have := HJ12.out; first | omega | exact Nat.le_refl _⟩, ⟨by repeat (first | (with_reducible first | exact HI0.out | apply IsS89.alloc | apply IsS89.drewN | apply IsS89.drew | apply IsS89.set_0 | apply IsS89.set_1 | apply IsS89.set_2) | exact HI0.out)⟩, ⟨by repeat (first | (with_reducible first | exact HK.out | apply KeepBut.set_ | apply keep_drewN | apply keep_drew | apply keep_alloc) | exact HK.out)⟩, ⟨by repeat (first | (with_reducible first | exact HB.out | apply below_alloc | apply pw_below_drewN | apply below_drew1 | refine below_set ?_ (IsS89.ge HI0.out)) | exact HB.out)⟩⟩
                            · rw [if_neg c24] at H
                              have c24b0 : ((bt x1000_1 x1001_1) == 0) = false := beq_eq_false_iff_ne.mpr c24
                              have c24b1 : ((bt x1000_1 x1001_1) != 0) = true := bne_iff_ne.mpr c24
                              (first | rw [c24b0] | (simp only [i64_w, i32_w]; rw [c24b0]) | skip)
                              have H' := Aside0.mk H
                              clear H
                              go_wp2
                              repeat (go_quiet (fail); try go_wp2)
                              go_meet
                              case rel => exact ⟨_, (false), (by first | rfl | (simp; done) | (simp [*]; done) | (generalize ByteArray.toList _ = l_; cases l_ <;> rfl)), H', ⟨by have := HK1.out; have := HJ12.out; first | omega | exact Nat.le_refl _⟩, ⟨by repeat (first | (with_reducible first | exact HI0.out | apply IsS89.alloc | apply IsS89.drewN | apply IsS89.drew | apply IsS89.set_0 | apply IsS89.set_1 | apply IsS89.set_2) | exact HI0.out)⟩, ⟨by repeat (first | (with_reducible first | exact HK.out | apply KeepBut.set_ | apply keep_drewN | apply keep_drew | apply keep_alloc) | exact HK.out)⟩, ⟨by repeat (first | (with_reducible first | exact HB.out | apply below_alloc | apply pw_below_drewN | apply below_drew1 | refine below_set ?_ (IsS89.ge HI0.out)) | exact HB.out)⟩⟩
                          case rest =>
                            clear HC23
                            try clear c1
                            try clear p1
                            try clear q1
                            try clear hx1
                            try clear c2
                            try clear p2
                            try clear c5
                            try clear c5b0
                            try clear c6
                            try clear c6b0
                            try clear c6b1
                            try clear p6
                            try clear c10
                            try clear c10b0
                            try clear c11
                            try clear c11b0
                            try clear p12
                            try clear q12
                            try clear hx12
                            try clear c15
                            try clear c15b0
                            try clear c15b1
                            try clear c16
                            try clear c20
                            try clear c20b0
                            try clear c20b1
                            try clear c22
                            try clear c22b0
                            try clear c24
                            try clear c24b0
                            try clear c24b1
                            try clear hcz14_0
                            try clear hcz14_1
                            try clear hcz14_2
                            try clear hcz3_0
                            try clear hcz3_1
                            try clear hcz3_2
                            try clear hcz4_0
                            try clear hcz4_1
                            try clear hcz4_2
                            try clear hcz8_0
                            try clear hcz8_1
                            try clear hcz8_2
                            try clear hfz14_0
                            try clear hfz14_1
                            try clear hfz14_2
                            try clear hfz3_0
                            try clear hfz3_1
                            try clear hfz3_2
                            try clear hfz4_0
                            try clear hfz4_1
                            try clear hfz4_2
                            try clear hfz8_0
                            try clear hfz8_1
                            try clear hfz8_2
                            try clear p1
                            try clear p12
                            try clear p2
                            try clear p6
                            try clear q1
                            try clear q12
                            obtain ⟨kq, x68_22, rfl, HA, HJ22, HI0, HK, HB⟩ := hcut
                            cases kq with
                            | zero => exact absurd HA.out (by simp [pack_Reader_Int.j2])
                            | succ kj22 =>
                              have H := HA.out
                              clear HA
                              simp only [pack_Reader_Int.j2] at H
                              by_cases c25 : x68_22 = true
                              · subst c25
                                have H1 : ((pack_Reader_fail.f x1000_1 (wrap64 (x1001_1 + 1)) x1002_1).bind fun bt118 => (some (bt118.1, bt118.2.1, bt118.2.2.1, bt118.2.2.2))) = some (r1, r2, r3, r4) := by rw [if_pos rfl] at H; exact H
                                clear H
                                have H := H1
                                clear H1
                                replace H := Option.bind_eq_some_iff.mp H
                                obtain ⟨⟨t118, t119, t120, t121⟩, A260, H⟩ := H
                                replace H : (some (t118, t119, t120, t121)) = some (r1, r2, r3, r4) := H
                                have A26 := Aside0.mk A260
                                clear A260
                                simp only [Option.some.injEq, Prod.mk.injEq] at H
                                obtain ⟨rfl, rfl, rfl, rfl⟩ := H
                                go_wp2_with (first | (go_at_call 81; (with_reducible refine (pack_Reader_fail.calls g x1000_1 (wrap64 (x1001_1 + 1)) x1002_1 t118 t119 t120 t121 w0 _ ?side1 ?side2 A26.out).mono ?_); (case side1 => repeat (first | (with_reducible first | exact HI0.out | apply IsS89.alloc | apply IsS89.drewN | apply IsS89.drew | apply IsS89.set_0 | apply IsS89.set_1 | apply IsS89.set_2) | exact HI0.out)); (case side2 => repeat (first | (with_reducible first | exact HB.out | apply below_alloc | apply pw_below_drewN | apply below_drew1 | refine below_set ?_ (IsS89.ge HI0.out)) | exact HB.out)); rintro e w27 ⟨rfl, hi, hb, hk⟩; have n0_ := Aside0.mk (KeepBut.trans (by repeat (first | (with_reducible first | exact HK.out | apply KeepBut.set_ | apply keep_drewN | apply keep_drew | apply keep_alloc) | exact HK.out)) hk (.inl rfl)); have n1_ := Aside0.mk (hb); have n2_ := Aside0.mk (hi); clear HK; clear HB; clear HI0; have HK := n0_; have HB := n1_; have HI0 := n2_; clear n0_ n1_ n2_; (try clear hb); (try clear hb2); (try clear hk); (try clear hi)))
                                repeat (go_quiet (first | (go_at_call 81; (with_reducible refine (pack_Reader_fail.calls g x1000_1 (wrap64 (x1001_1 + 1)) x1002_1 t118 t119 t120 t121 w0 _ ?side1 ?side2 A26.out).mono ?_); (case side1 => repeat (first | (with_reducible first | exact HI0.out | apply IsS89.alloc | apply IsS89.drewN | apply IsS89.drew | apply IsS89.set_0 | apply IsS89.set_1 | apply IsS89.set_2) | exact HI0.out)); (case side2 => repeat (first | (with_reducible first | exact HB.out | apply below_alloc | apply pw_below_drewN | apply below_drew1 | refine below_set ?_ (IsS89.ge HI0.out)) | exact HB.out)); rintro e w27 ⟨rfl, hi, hb, hk⟩; have n0_ := Aside0.mk (KeepBut.trans (by repeat (first | (with_reducible first | exact HK.out | apply KeepBut.set_ | apply keep_drewN | apply keep_drew | apply keep_alloc) | exact HK.out)) hk (.inl rfl)); have n1_ := Aside0.mk (hb); have n2_ := Aside0.mk (hi); clear HK; clear HB; clear HI0; have HK := n0_; have HB := n1_; have HI0 := n2_; clear n0_ n1_ n2_; (try clear hb); (try clear hb2); (try clear hk); (try clear hi))); try go_wp2_with (first | (go_at_call 81; (with_reducible refine (pack_Reader_fail.calls g x1000_1 (wrap64 (x1001_1 + 1)) x1002_1 t118 t119 t120 t121 w0 _ ?side1 ?side2 A26.out).mono ?_); (case side1 => repeat (first | (with_reducible first | exact HI0.out | apply IsS89.alloc | apply IsS89.drewN | apply IsS89.drew | apply IsS89.set_0 | apply IsS89.set_1 | apply IsS89.set_2) | exact HI0.out)); (case side2 => repeat (first | (with_reducible first | exact HB.out | apply below_alloc | apply pw_below_drewN | apply below_drew1 | refine below_set ?_ (IsS89.ge HI0.out)) | exact HB.out)); rintro e w27 ⟨rfl, hi, hb, hk⟩; have n0_ := Aside0.mk (KeepBut.trans (by repeat (first | (with_reducible first | exact HK.out | apply KeepBut.set_ | apply keep_drewN | apply keep_drew | apply keep_alloc) | exact HK.out)) hk (.inl rfl)); have n1_ := Aside0.mk (hb); have n2_ := Aside0.mk (hi); clear HK; clear HB; clear HI0; have HK := n0_; have HB := n1_; have HI0 := n2_; clear n0_ n1_ n2_; (try clear hb); (try clear hb2); (try clear hk); (try clear hi))))
                                go_ret
                                exact ⟨by first | rfl | (simp [errW_none, errW_some] <;> rfl) | (simp only [← hji19, ← hji21]; first | rfl | (simp [errW_none, errW_some] <;> rfl)) | (simp [*, errW_none, errW_some] <;> rfl), by (try simp only [hji19, hji21]); repeat (first | (with_reducible first | exact HI0.out | apply IsS89.alloc | apply IsS89.drewN | apply IsS89.drew | apply IsS89.set_0 | apply IsS89.set_1 | apply IsS89.set_2) | exact HI0.out), by repeat (first | (with_reducible first | exact HB.out | apply below_alloc | apply pw_below_drewN | apply below_drew1 | refine below_set ?_ (IsS89.ge HI0.out)) | exact HB.out), by repeat (first | (with_reducible first | exact HK.out | apply KeepBut.set_ | apply keep_drewN | apply keep_drew | apply keep_alloc) | exact HK.out)⟩
                              · replace c25 := Bool.eq_false_iff.mpr c25
                                subst c25
                                have H1 : ((pack_zag.f (Go.bits .or .u64 x3_1 (ji21))).bind fun t122 => (some (t122, x1000_1, (wrap64 (x1001_1 + 1)), x1002_1))) = some (r1, r2, r3, r4) := by rw [if_neg (show ¬ (false = true) by decide)] at H; exact H
                                clear H
                                have H := H1
                                clear H1
                                replace H := Option.bind_eq_some_iff.mp H
                                obtain ⟨t122, A280, H⟩ := H
                                replace H : (some (t122, x1000_1, (wrap64 (x1001_1 + 1)), x1002_1)) = some (r1, r2, r3, r4) := H
                                have A28 := Aside0.mk A280
                                clear A280
                                simp only [Option.some.injEq, Prod.mk.injEq] at H
                                obtain ⟨rfl, rfl, rfl, rfl⟩ := H
                                go_wp2_with (first | (go_at_call 83; (with_reducible refine (pack_zag.calls (Go.bits .or .u64 x3_1 (ji21)) t122 _ A28.out).mono ?_); rintro e w' ⟨rfl, ⟨nd, rfl⟩⟩; (try first | exact ⟨rfl, _, World.drewN_drewN _ _ _⟩ | exact ⟨rfl, _, Eq.trans (World.drewN_drewN _ _ _) (congrArg (World.drewN _) (Nat.add_assoc _ _ _))⟩)))
                                repeat (go_quiet (first | (go_at_call 83; (with_reducible refine (pack_zag.calls (Go.bits .or .u64 x3_1 (ji21)) t122 _ A28.out).mono ?_); rintro e w' ⟨rfl, ⟨nd, rfl⟩⟩; (try first | exact ⟨rfl, _, World.drewN_drewN _ _ _⟩ | exact ⟨rfl, _, Eq.trans (World.drewN_drewN _ _ _) (congrArg (World.drewN _) (Nat.add_assoc _ _ _))⟩))); try go_wp2_with (first | (go_at_call 83; (with_reducible refine (pack_zag.calls (Go.bits .or .u64 x3_1 (ji21)) t122 _ A28.out).mono ?_); rintro e w' ⟨rfl, ⟨nd, rfl⟩⟩; (try first | exact ⟨rfl, _, World.drewN_drewN _ _ _⟩ | exact ⟨rfl, _, Eq.trans (World.drewN_drewN _ _ _) (congrArg (World.drewN _) (Nat.add_assoc _ _ _))⟩))))
                                go_ret
                                exact ⟨by first | rfl | (simp [errW_none, errW_some] <;> rfl) | (simp only [← hji19, ← hji21]; first | rfl | (simp [errW_none, errW_some] <;> rfl)) | (simp [*, errW_none, errW_some] <;> rfl), by (try simp only [hji19, hji21]); repeat (first | (with_reducible first | exact HI0.out | apply IsS89.alloc | apply IsS89.drewN | apply IsS89.drew | apply IsS89.set_0 | apply IsS89.set_1 | apply IsS89.set_2) | exact HI0.out), by repeat (first | (with_reducible first | exact HB.out | apply below_alloc | apply pw_below_drewN | apply below_drew1 | refine below_set ?_ (IsS89.ge HI0.out)) | exact HB.out), by repeat (first | (with_reducible first | exact HK.out | apply KeepBut.set_ | apply keep_drewN | apply keep_drew | apply keep_alloc) | exact HK.out)⟩
                        · rw [if_neg c22] at H
                          have c22b0 : decide ((bt x1000_1 x1001_1) < 128) = false := decide_eq_false c22
                          clear c22
                          have H' := Aside0.mk H
                          clear H
                          go_wp2
                          repeat (go_quiet (fail); try go_wp2)
                          go_roundg kj12
                          case measure => have := HK1.out; have := HJ12.out; omega
                          case rel => exact ⟨(Go.bits .or .u64 x3_1 (ji21)), (wrap64 (x14_1 + 1)), (x1000_1), ((wrap64 (x1001_1 + 1))), (x1002_1), (by first | rfl | (simp; done) | (simp only [← hji21] <;> (first | rfl | simp)) | (simp [*]; done)), (by first | rfl | (simp; done) | (simp [*]; done) | (generalize ByteArray.toList _ = l_; cases l_ <;> rfl)), H', ⟨by have := HK1.out; have := HJ12.out; omega⟩, ⟨by repeat (first | (with_reducible first | exact HI0.out | apply IsS89.alloc | apply IsS89.drewN | apply IsS89.drew | apply IsS89.set_0 | apply IsS89.set_1 | apply IsS89.set_2) | exact HI0.out)⟩, ⟨by repeat (first | (with_reducible first | exact HK.out | apply KeepBut.set_ | apply keep_drewN | apply keep_drew | apply keep_alloc) | exact HK.out)⟩, ⟨by repeat (first | (with_reducible first | exact HB.out | apply below_alloc | apply pw_below_drewN | apply below_drew1 | refine below_set ?_ (IsS89.ge HI0.out)) | exact HB.out)⟩⟩
                      · rw [if_neg c20] at H
                        exact absurd H (by simp)
              · rw [if_neg c11] at H
                exact absurd H (by simp)
            · rw [if_neg c10] at H
              exact absurd H (by simp)
        · rw [if_neg c5] at H
          have c5b0 : decide (x14_1 < 10) = false := decide_eq_false c5
          clear c5
          replace H := Option.bind_eq_some_iff.mp H
          obtain ⟨⟨t106, t107, t108, t109⟩, A290, H⟩ := H
          replace H : (some (t106, t107, t108, t109)) = some (r1, r2, r3, r4) := H
          have A29 := Aside0.mk A290
          clear A290
          simp only [Option.some.injEq, Prod.mk.injEq] at H
          obtain ⟨rfl, rfl, rfl, rfl⟩ := H
          go_wp2_with (first | (go_at_call 81; (with_reducible refine (pack_Reader_fail.calls g x1000_1 x1001_1 x1002_1 t106 t107 t108 t109 w0 _ ?side1 ?side2 A29.out).mono ?_); (case side1 => repeat (first | (with_reducible first | exact HI0.out | apply IsS89.alloc | apply IsS89.drewN | apply IsS89.drew | apply IsS89.set_0 | apply IsS89.set_1 | apply IsS89.set_2) | exact HI0.out)); (case side2 => repeat (first | (with_reducible first | exact HB.out | apply below_alloc | apply pw_below_drewN | apply below_drew1 | refine below_set ?_ (IsS89.ge HI0.out)) | exact HB.out)); rintro e w30 ⟨rfl, hi, hb, hk⟩; have n0_ := Aside0.mk (KeepBut.trans (by repeat (first | (with_reducible first | exact HK.out | apply KeepBut.set_ | apply keep_drewN | apply keep_drew | apply keep_alloc) | exact HK.out)) hk (.inl rfl)); have n1_ := Aside0.mk (hb); have n2_ := Aside0.mk (hi); clear HK; clear HB; clear HI0; have HK := n0_; have HB := n1_; have HI0 := n2_; clear n0_ n1_ n2_; (try clear hb); (try clear hb2); (try clear hk); (try clear hi)))
          repeat (go_quiet (first | (go_at_call 81; (with_reducible refine (pack_Reader_fail.calls g x1000_1 x1001_1 x1002_1 t106 t107 t108 t109 w0 _ ?side1 ?side2 A29.out).mono ?_); (case side1 => repeat (first | (with_reducible first | exact HI0.out | apply IsS89.alloc | apply IsS89.drewN | apply IsS89.drew | apply IsS89.set_0 | apply IsS89.set_1 | apply IsS89.set_2) | exact HI0.out)); (case side2 => repeat (first | (with_reducible first | exact HB.out | apply below_alloc | apply pw_below_drewN | apply below_drew1 | refine below_set ?_ (IsS89.ge HI0.out)) | exact HB.out)); rintro e w30 ⟨rfl, hi, hb, hk⟩; have n0_ := Aside0.mk (KeepBut.trans (by repeat (first | (with_reducible first | exact HK.out | apply KeepBut.set_ | apply keep_drewN | apply keep_drew | apply keep_alloc) | exact HK.out)) hk (.inl rfl)); have n1_ := Aside0.mk (hb); have n2_ := Aside0.mk (hi); clear HK; clear HB; clear HI0; have HK := n0_; have HB := n1_; have HI0 := n2_; clear n0_ n1_ n2_; (try clear hb); (try clear hb2); (try clear hk); (try clear hi))); try go_wp2_with (first | (go_at_call 81; (with_reducible refine (pack_Reader_fail.calls g x1000_1 x1001_1 x1002_1 t106 t107 t108 t109 w0 _ ?side1 ?side2 A29.out).mono ?_); (case side1 => repeat (first | (with_reducible first | exact HI0.out | apply IsS89.alloc | apply IsS89.drewN | apply IsS89.drew | apply IsS89.set_0 | apply IsS89.set_1 | apply IsS89.set_2) | exact HI0.out)); (case side2 => repeat (first | (with_reducible first | exact HB.out | apply below_alloc | apply pw_below_drewN | apply below_drew1 | refine below_set ?_ (IsS89.ge HI0.out)) | exact HB.out)); rintro e w30 ⟨rfl, hi, hb, hk⟩; have n0_ := Aside0.mk (KeepBut.trans (by repeat (first | (with_reducible first | exact HK.out | apply KeepBut.set_ | apply keep_drewN | apply keep_drew | apply keep_alloc) | exact HK.out)) hk (.inl rfl)); have n1_ := Aside0.mk (hb); have n2_ := Aside0.mk (hi); clear HK; clear HB; clear HI0; have HK := n0_; have HB := n1_; have HI0 := n2_; clear n0_ n1_ n2_; (try clear hb); (try clear hb2); (try clear hk); (try clear hi))))
          go_ret
          exact ⟨by first | rfl | (simp [errW_none, errW_some] <;> rfl) | (simp [*, errW_none, errW_some] <;> rfl), by repeat (first | (with_reducible first | exact HI0.out | apply IsS89.alloc | apply IsS89.drewN | apply IsS89.drew | apply IsS89.set_0 | apply IsS89.set_1 | apply IsS89.set_2) | exact HI0.out), by repeat (first | (with_reducible first | exact HB.out | apply below_alloc | apply pw_below_drewN | apply below_drew1 | refine below_set ?_ (IsS89.ge HI0.out)) | exact HB.out), by repeat (first | (with_reducible first | exact HK.out | apply KeepBut.set_ | apply keep_drewN | apply keep_drew | apply keep_alloc) | exact HK.out)⟩

end Go.Proofs.YtmaciepkkianhabGreatDoor.QRows

namespace Go.Proofs.YtmaciepkkianhabGreatDoor.QRows
open Go.Proofs.YtmaciepkkianhabGreatDoor.H
attribute [local go_sem] ite_signed_u64 ite_signed_u32
open Go.RowKit Go.Proofs.YtmaciepkkianhabGreatDoorW.PrintWords Go.Proofs.YtmaciepkkianhabGreatDoorW.PrintLast Go.Proofs.YtmaciepkkianhabGreatDoorW.PrintMore
attribute [local go_sem] max2_int min2_int max_two min_two max_three min_three max_four min_four   -- for this text's walks alone
set_option linter.unusedVariables false
set_option linter.unusedSimpArgs false

/-! ### pack_Reader_Many: function 52 -/
def pack_Reader_Many.j0 : Nat → Int → Bool → ByteArray → Int → Bool → Option (Int × ByteArray × Int × Bool)
  | 0, _, _, _, _, _ => none
  | k + 1, x5, x36, x1000, x1001, x1002 => if x36 = true then ((pack_Reader_fail.f x1000 x1001 x1002).bind fun bt127 => (some (bt127.1, bt127.2.1, bt127.2.2.1, bt127.2.2.2))) else (some (x5, x1000, x1001, x1002))
def pack_Reader_Many.f (k : Nat) (s0_0 : ByteArray) (s0_1 : Int) (s0_2 : Bool) (a1 : Int) : Option (Int × ByteArray × Int × Bool) := (pack_Reader_Int.f k s0_0 s0_1 s0_2).bind fun bt123 => (if bt123.2.2.2 = true then (some (0, bt123.2.1, bt123.2.2.1, bt123.2.2.2)) else (if bt123.1 < 0 then (pack_Reader_Many.j0 k bt123.1 true bt123.2.1 bt123.2.2.1 bt123.2.2.2) else (if bt123.1 > a1 then (pack_Reader_Many.j0 k bt123.1 true bt123.2.1 bt123.2.2.1 bt123.2.2.2) else (pack_Reader_Many.j0 k bt123.1 (decide (bt123.1 > (wrap64 ((bt123.2.1.size : Int) - bt123.2.2.1)))) bt123.2.1 bt123.2.2.1 bt123.2.2.2))))
set_option maxHeartbeats 8000000 in
set_option maxRecDepth 100000 in
theorem pack_Reader_Many.calls (k : Nat) (g : Nat) (s0_0 : ByteArray) (s0_1 : Int) (s0_2 : Bool) (a1 : Int) (r1 : Int) (r2 : ByteArray) (r3 : Int) (r4 : Bool) (w0 w : World) (hI : IsS89 w0 w g s0_0 s0_1 s0_2) (hB : Below w0.heap.size w0 w) (h : pack_Reader_Many.f k s0_0 s0_1 s0_2 a1 = some (r1, r2, r3, r4)) :
    Calls Tryz.prog 52 #[.pointer (some ⟨g, 0, none⟩), .int .i64 a1] w fun e w' => e = .returned (.int .i64 r1) ∧ IsS89 w0 w' g r2 r3 r4 ∧ Below w0.heap.size w0 w' ∧ KeepBut w w' g none := by
  have HI0 := Aside0.mk hI
  have HK := Aside0.mk (KeepBut.refl w g none)
  have HL := Aside0.mk hB.size
  clear hI
  have HW0 := Aside0.mk hB.size
  have HB := Aside0.mk hB
  clear hB
  have H : ((pack_Reader_Int.f k s0_0 s0_1 s0_2).bind fun bt123 => (if bt123.2.2.2 = true then (some (0, bt123.2.1, bt123.2.2.1, bt123.2.2.2)) else (if bt123.1 < 0 then (pack_Reader_Many.j0 k bt123.1 true bt123.2.1 bt123.2.2.1 bt123.2.2.2) else (if bt123.1 > a1 then (pack_Reader_Many.j0 k bt123.1 true bt123.2.1 bt123.2.2.1 bt123.2.2.2) else (pack_Reader_Many.j0 k bt123.1 (decide (bt123.1 > (wrap64 ((bt123.2.1.size : Int) - bt123.2.2.1)))) bt123.2.1 bt123.2.2.1 bt123.2.2.2))))) = some (r1, r2, r3, r4) := h
  clear h
  replace H := Option.bind_eq_some_iff.mp H
  obtain ⟨⟨t123, t124, t125, t126⟩, A30, H⟩ := H
  replace H : (if t126 = true then (some (0, t124, t125, t126)) else (if t123 < 0 then (pack_Reader_Many.j0 k t123 true t124 t125 t126) else (if t123 > a1 then (pack_Reader_Many.j0 k t123 true t124 t125 t126) else (pack_Reader_Many.j0 k t123 (decide (t123 > (wrap64 ((t124.size : Int) - t125)))) t124 t125 t126)))) = some (r1, r2, r3, r4) := H
  have A3 := Aside0.mk A30
  clear A30
  by_cases c4 : t126 = true
  · subst c4
    have H1 : (some (0, t124, t125, true)) = some (r1, r2, r3, r4) := by rw [if_pos rfl] at H; exact H
    clear H
    have H := H1
    clear H1
    simp only [Option.some.injEq, Prod.mk.injEq] at H
    obtain ⟨rfl, rfl, rfl, rfl⟩ := H
    go_enter Tryz.func52, Tryz.ntmps52
    go_wp2_with (first | (go_at_call 57; (with_reducible refine (pack_Reader_Int.calls k g s0_0 s0_1 s0_2 t123 t124 t125 true w0 _ ?side1 ?side2 A3.out).mono ?_); (case side1 => repeat (first | (with_reducible first | exact HI0.out | apply IsS89.alloc | apply IsS89.drewN | apply IsS89.drew | apply IsS89.set_0 | apply IsS89.set_1 | apply IsS89.set_2) | exact HI0.out)); (case side2 => repeat (first | (with_reducible first | exact HB.out | apply below_alloc | apply pw_below_drewN | apply below_drew1 | refine below_set ?_ (IsS89.ge HI0.out)) | exact HB.out)); rintro e w5 ⟨rfl, hi, hb, hk⟩; have n0_ := Aside0.mk (KeepBut.trans (by repeat (first | (with_reducible first | exact HK.out | apply KeepBut.set_ | apply keep_drewN | apply keep_drew | apply keep_alloc) | exact HK.out)) hk (.inl rfl)); have n1_ := Aside0.mk (hb); have n2_ := Aside0.mk (hi); clear HK; clear HB; clear HI0; have HK := n0_; have HB := n1_; have HI0 := n2_; clear n0_ n1_ n2_; (try clear hb); (try clear hb2); (try clear hk); (try clear hi); obtain ⟨HGz6, hgz6⟩ := HI0.out; have hcz6_0 := cellS89_0 HGz6; have hcz6_1 := cellS89_1 HGz6; have hcz6_2 := cellS89_2 HGz6; have hfz6_0 := blk_frozen HGz6 0; have hfz6_1 := blk_frozen HGz6 1; have hfz6_2 := blk_frozen HGz6 2; clear HGz6 hgz6))
    repeat (go_quiet (first | (go_at_call 57; (with_reducible refine (pack_Reader_Int.calls k g s0_0 s0_1 s0_2 t123 t124 t125 true w0 _ ?side1 ?side2 A3.out).mono ?_); (case side1 => repeat (first | (with_reducible first | exact HI0.out | apply IsS89.alloc | apply IsS89.drewN | apply IsS89.drew | apply IsS89.set_0 | apply IsS89.set_1 | apply IsS89.set_2) | exact HI0.out)); (case side2 => repeat (first | (with_reducible first | exact HB.out | apply below_alloc | apply pw_below_drewN | apply below_drew1 | refine below_set ?_ (IsS89.ge HI0.out)) | exact HB.out)); rintro e w5 ⟨rfl, hi, hb, hk⟩; have n0_ := Aside0.mk (KeepBut.trans (by repeat (first | (with_reducible first | exact HK.out | apply KeepBut.set_ | apply keep_drewN | apply keep_drew | apply keep_alloc) | exact HK.out)) hk (.inl rfl)); have n1_ := Aside0.mk (hb); have n2_ := Aside0.mk (hi); clear HK; clear HB; clear HI0; have HK := n0_; have HB := n1_; have HI0 := n2_; clear n0_ n1_ n2_; (try clear hb); (try clear hb2); (try clear hk); (try clear hi); obtain ⟨HGz6, hgz6⟩ := HI0.out; have hcz6_0 := cellS89_0 HGz6; have hcz6_1 := cellS89_1 HGz6; have hcz6_2 := cellS89_2 HGz6; have hfz6_0 := blk_frozen HGz6 0; have hfz6_1 := blk_frozen HGz6 1; have hfz6_2 := blk_frozen HGz6 2; clear HGz6 hgz6)); try go_wp2_with (first | (go_at_call 57; (with_reducible refine (pack_Reader_Int.calls k g s0_0 s0_1 s0_2 t123 t124 t125 true w0 _ ?side1 ?side2 A3.out).mono ?_); (case side1 => repeat (first | (with_reducible first | exact HI0.out | apply IsS89.alloc | apply IsS89.drewN | apply IsS89.drew | apply IsS89.set_0 | apply IsS89.set_1 | apply IsS89.set_2) | exact HI0.out)); (case side2 => repeat (first | (with_reducible first | exact HB.out | apply below_alloc | apply pw_below_drewN | apply below_drew1 | refine below_set ?_ (IsS89.ge HI0.out)) | exact HB.out)); rintro e w5 ⟨rfl, hi, hb, hk⟩; have n0_ := Aside0.mk (KeepBut.trans (by repeat (first | (with_reducible first | exact HK.out | apply KeepBut.set_ | apply keep_drewN | apply keep_drew | apply keep_alloc) | exact HK.out)) hk (.inl rfl)); have n1_ := Aside0.mk (hb); have n2_ := Aside0.mk (hi); clear HK; clear HB; clear HI0; have HK := n0_; have HB := n1_; have HI0 := n2_; clear n0_ n1_ n2_; (try clear hb); (try clear hb2); (try clear hk); (try clear hi); obtain ⟨HGz6, hgz6⟩ := HI0.out; have hcz6_0 := cellS89_0 HGz6; have hcz6_1 := cellS89_1 HGz6; have hcz6_2 := cellS89_2 HGz6; have hfz6_0 := blk_frozen HGz6 0; have hfz6_1 := blk_frozen HGz6 1; have hfz6_2 := blk_frozen HGz6 2; clear HGz6 hgz6)))
    go_ret
    exact ⟨by first | rfl | (simp [errW_none, errW_some] <;> rfl) | (simp [*, errW_none, errW_some] <;> rfl), by repeat (first | (with_reducible first | exact HI0.out | apply IsS89.alloc | apply IsS89.drewN | apply IsS89.drew | apply IsS89.set_0 | apply IsS89.set_1 | apply IsS89.set_2) | exact HI0.out), by repeat (first | (with_reducible first | exact HB.out | apply below_alloc | apply pw_below_drewN | apply below_drew1 | refine below_set ?_ (IsS89.ge HI0.out)) | exact HB.out), by repeat (first | (with_reducible first | exact HK.out | apply KeepBut.set_ | apply keep_drewN | apply keep_drew | apply keep_alloc) | exact HK.out)⟩
  · replace c4 := Bool.eq_false_iff.mpr c4
    subst c4
    have H1 : (if t123 < 0 then (pack_Reader_Many.j0 k t123 true t124 t125 false) else (if t123 > a1 then (pack_Reader_Many.j0 k t123 true t124 t125 false) else (pack_Reader_Many.j0 k t123 (decide (t123 > (wrap64 ((t124.size : Int) - t125)))) t124 t125 false))) = some (r1, r2, r3, r4) := by rw [if_neg (show ¬ (false = true) by decide)] at H; exact H
    clear H
    have H := H1
    clear H1
    have HC7 := Aside0.mk H
    clear H
    go_enter Tryz.func52, Tryz.ntmps52
    go_upto_region 4 with (first | (go_at_call 57; (with_reducible refine (pack_Reader_Int.calls k g s0_0 s0_1 s0_2 t123 t124 t125 false w0 _ ?side1 ?side2 A3.out).mono ?_); (case side1 => repeat (first | (with_reducible first | exact HI0.out | apply IsS89.alloc | apply IsS89.drewN | apply IsS89.drew | apply IsS89.set_0 | apply IsS89.set_1 | apply IsS89.set_2) | exact HI0.out)); (case side2 => repeat (first | (with_reducible first | exact HB.out | apply below_alloc | apply pw_below_drewN | apply below_drew1 | refine below_set ?_ (IsS89.ge HI0.out)) | exact HB.out)); rintro e w8 ⟨rfl, hi, hb, hk⟩; have n0_ := Aside0.mk (KeepBut.trans (by repeat (first | (with_reducible first | exact HK.out | apply KeepBut.set_ | apply keep_drewN | apply keep_drew | apply keep_alloc) | exact HK.out)) hk (.inl rfl)); have n1_ := Aside0.mk (hb); have n2_ := Aside0.mk (hi); clear HK; clear HB; clear HI0; have HK := n0_; have HB := n1_; have HI0 := n2_; clear n0_ n1_ n2_; (try clear hb); (try clear hb2); (try clear hk); (try clear hi); obtain ⟨HGz9, hgz9⟩ := HI0.out; have hcz9_0 := cellS89_0 HGz9; have hcz9_1 := cellS89_1 HGz9; have hcz9_2 := cellS89_2 HGz9; have hfz9_0 := blk_frozen HGz9 0; have hfz9_1 := blk_frozen HGz9 1; have hfz9_2 := blk_frozen HGz9 2; clear HGz9 hgz9))
    repeat (go_quiet (first | (go_at_call 57; (with_reducible refine (pack_Reader_Int.calls k g s0_0 s0_1 s0_2 t123 t124 t125 false w0 _ ?side1 ?side2 A3.out).mono ?_); (case side1 => repeat (first | (with_reducible first | exact HI0.out | apply IsS89.alloc | apply IsS89.drewN | apply IsS89.drew | apply IsS89.set_0 | apply IsS89.set_1 | apply IsS89.set_2) | exact HI0.out)); (case side2 => repeat (first | (with_reducible first | exact HB.out | apply below_alloc | apply pw_below_drewN | apply below_drew1 | refine below_set ?_ (IsS89.ge HI0.out)) | exact HB.out)); rintro e w8 ⟨rfl, hi, hb, hk⟩; have n0_ := Aside0.mk (KeepBut.trans (by repeat (first | (with_reducible first | exact HK.out | apply KeepBut.set_ | apply keep_drewN | apply keep_drew | apply keep_alloc) | exact HK.out)) hk (.inl rfl)); have n1_ := Aside0.mk (hb); have n2_ := Aside0.mk (hi); clear HK; clear HB; clear HI0; have HK := n0_; have HB := n1_; have HI0 := n2_; clear n0_ n1_ n2_; (try clear hb); (try clear hb2); (try clear hk); (try clear hi); obtain ⟨HGz9, hgz9⟩ := HI0.out; have hcz9_0 := cellS89_0 HGz9; have hcz9_1 := cellS89_1 HGz9; have hcz9_2 := cellS89_2 HGz9; have hfz9_0 := blk_frozen HGz9 0; have hfz9_1 := blk_frozen HGz9 1; have hfz9_2 := blk_frozen HGz9 2; clear HGz9 hgz9)); go_upto_region 4 with (first | (go_at_call 57; (with_reducible refine (pack_Reader_Int.calls k g s0_0 s0_1 s0_2 t123 t124 t125 false w0 _ ?side1 ?side2 A3.out).mono ?_); (case side1 => repeat (first | (with_reducible first | exact HI0.out | apply IsS89.alloc | apply IsS89.drewN | apply IsS89.drew | apply IsS89.set_0 | apply IsS89.set_1 | apply IsS89.set_2) | exact HI0.out)); (case side2 => repeat (first | (with_reducible first | exact HB.out | apply below_alloc | apply pw_below_drewN | apply below_drew1 | refine below_set ?_ (IsS89.ge HI0.out)) | exact HB.out)); rintro e w8 ⟨rfl, hi, hb, hk⟩; have n0_ := Aside0.mk (KeepBut.trans (by repeat (first | (with_reducible first | exact HK.out | apply KeepBut.set_ | apply keep_drewN | apply keep_drew | apply keep_alloc) | exact HK.out)) hk (.inl rfl)); have n1_ := Aside0.mk (hb); have n2_ := Aside0.mk (hi); clear HK; clear HB; clear HI0; have HK := n0_; have HB := n1_; have HI0 := n2_; clear n0_ n1_ n2_; (try clear hb); (try clear hb2); (try clear hk); (try clear hi); obtain ⟨HGz9, hgz9⟩ := HI0.out; have hcz9_0 := cellS89_0 HGz9; have hcz9_1 := cellS89_1 HGz9; have hcz9_2 := cellS89_2 HGz9; have hfz9_0 := blk_frozen HGz9 0; have hfz9_1 := blk_frozen HGz9 1; have hfz9_2 := blk_frozen HGz9 2; clear HGz9 hgz9)))
    (try simp only [Act.put, List.setIfInBounds_toArray, List.set_cons_zero, List.set_cons_succ])
    go_cut [36] (fun v36 wc => ∃ (kq : Nat) (x36_6 : Bool), v36 = .bool x36_6 ∧ Aside0 (pack_Reader_Many.j0 kq t123 x36_6 t124 t125 false = some (r1, r2, r3, r4)) ∧ Aside0 (kq ≤ k) ∧ Aside0 (IsS89 w0 wc g t124 t125 false) ∧ Aside0 (KeepBut w wc g none) ∧ Aside0 (Below w0.heap.size w0 wc))
    case first =>
      have H := HC7.out
      clear HC7
      by_cases c10 : t123 < 0
      · rw [if_pos c10] at H
        have c10b0 : decide (t123 < 0) = true := decide_eq_true c10
        clear c10
        (first | rw [c10b0] | (simp only [i64_w, i32_w]; rw [c10b0]) | skip)
        have H' := Aside0.mk H
        clear H
        go_wp2
        repeat (go_quiet (fail); try go_wp2)
        go_meet
        case rel => exact ⟨_, (true), (by first | rfl | (simp; done) | (simp [*]; done) | (generalize ByteArray.toList _ = l_; cases l_ <;> rfl)), H', ⟨by first | omega | exact Nat.le_refl _⟩, ⟨by repeat (first | (with_reducible first | exact HI0.out | apply IsS89.alloc | apply IsS89.drewN | apply IsS89.drew | apply IsS89.set_0 | apply IsS89.set_1 | apply IsS89.set_2) | exact HI0.out)⟩, ⟨by repeat (first | (with_reducible first | exact HK.out | apply KeepBut.set_ | apply keep_drewN | apply keep_drew | apply keep_alloc) | exact HK.out)⟩, ⟨by repeat (first | (with_reducible first | exact HB.out | apply below_alloc | apply pw_below_drewN | apply below_drew1 | refine below_set ?_ (IsS89.ge HI0.out)) | exact HB.out)⟩⟩
      · rw [if_neg c10] at H
        have c10b0 : decide (t123 < 0) = false := decide_eq_false c10
        clear c10
        (first | rw [c10b0] | (simp only [i64_w, i32_w]; rw [c10b0]) | skip)
        by_cases c11 : t123 > a1
        · rw [if_pos c11] at H
          have c11b0 : decide (a1 < t123) = true := decide_eq_true c11
          clear c11
          have H' := Aside0.mk H
          clear H
          go_wp2
          repeat (go_quiet (fail); try go_wp2)
          go_meet
          case rel => exact ⟨_, (true), (by first | rfl | (simp; done) | (simp [*]; done) | (generalize ByteArray.toList _ = l_; cases l_ <;> rfl)), H', ⟨by first | omega | exact Nat.le_refl _⟩, ⟨by repeat (first | (with_reducible first | exact HI0.out | apply IsS89.alloc | apply IsS89.drewN | apply IsS89.drew | apply IsS89.set_0 | apply IsS89.set_1 | apply IsS89.set_2) | exact HI0.out)⟩, ⟨by repeat (first | (with_reducible first | exact HK.out | apply KeepBut.set_ | apply keep_drewN | apply keep_drew | apply keep_alloc) | exact HK.out)⟩, ⟨by repeat (first | (with_reducible first | exact HB.out | apply below_alloc | apply pw_below_drewN | apply below_drew1 | refine below_set ?_ (IsS89.ge HI0.out)) | exact HB.out)⟩⟩
        · rw [if_neg c11] at H
          have c11b0 : decide (a1 < t123) = false := decide_eq_false c11
          clear c11
          have H' := Aside0.mk H
          clear H
          obtain ⟨HGz12, hgz12⟩ := HI0.out
          have hcz12_0 := cellS89_0 HGz12
          have hcz12_1 := cellS89_1 HGz12
          have hcz12_2 := cellS89_2 HGz12
          have hfz12_0 := blk_frozen HGz12 0
          have hfz12_1 := blk_frozen HGz12 1
          have hfz12_2 := blk_frozen HGz12 2
          clear HGz12 hgz12
          go_wp2
          repeat (go_quiet (fail); try go_wp2)
          go_meet
          case rel => exact ⟨_, (decide (t123 > (wrap64 ((t124.size : Int) - t125)))), (by first | rfl | (simp; done) | (simp [*]; done) | (generalize ByteArray.toList _ = l_; cases l_ <;> rfl)), H', ⟨by first | omega | exact Nat.le_refl _⟩, ⟨by repeat (first | (with_reducible first | exact HI0.out | apply IsS89.alloc | apply IsS89.drewN | apply IsS89.drew | apply IsS89.set_0 | apply IsS89.set_1 | apply IsS89.set_2) | exact HI0.out)⟩, ⟨by repeat (first | (with_reducible first | exact HK.out | apply KeepBut.set_ | apply keep_drewN | apply keep_drew | apply keep_alloc) | exact HK.out)⟩, ⟨by repeat (first | (with_reducible first | exact HB.out | apply below_alloc | apply pw_below_drewN | apply below_drew1 | refine below_set ?_ (IsS89.ge HI0.out)) | exact HB.out)⟩⟩
    case rest =>
      clear HC7
      try clear c1
      try clear p2
      try clear c4
      try clear c5
      try clear p6
      try clear c10
      try clear c10b0
      try clear c11
      try clear c11b0
      try clear hcz12_0
      try clear hcz12_1
      try clear hcz12_2
      try clear hcz6_0
      try clear hcz6_1
      try clear hcz6_2
      try clear hcz9_0
      try clear hcz9_1
      try clear hcz9_2
      try clear hfz12_0
      try clear hfz12_1
      try clear hfz12_2
      try clear hfz6_0
      try clear hfz6_1
      try clear hfz6_2
      try clear hfz9_0
      try clear hfz9_1
      try clear hfz9_2
      obtain ⟨kq, x36_6, rfl, HA, HJ6, HI0, HK, HB⟩ := hcut
      cases kq with
      | zero => exact absurd HA.out (by simp [pack_Reader_Many.j0])
      | succ kj6 =>
        have H := HA.out
        clear HA
        simp only [pack_Reader_Many.j0] at H
        by_cases c13 : x36_6 = true
        · subst c13
          have H1 : ((pack_Reader_fail.f t124 t125 false).bind fun bt127 => (some (bt127.1, bt127.2.1, bt127.2.2.1, bt127.2.2.2))) = some (r1, r2, r3, r4) := by rw [if_pos rfl] at H; exact H
          clear H
          have H := H1
          clear H1
          replace H := Option.bind_eq_some_iff.mp H
          obtain ⟨⟨t127, t128, t129, t130⟩, A140, H⟩ := H
          replace H : (some (t127, t128, t129, t130)) = some (r1, r2, r3, r4) := H
          have A14 := Aside0.mk A140
          clear A140
          simp only [Option.some.injEq, Prod.mk.injEq] at H
          obtain ⟨rfl, rfl, rfl, rfl⟩ := H
          go_wp2_with (first | (go_at_call 81; (with_reducible refine (pack_Reader_fail.calls g t124 t125 false t127 t128 t129 t130 w0 _ ?side1 ?side2 A14.out).mono ?_); (case side1 => repeat (first | (with_reducible first | exact HI0.out | apply IsS89.alloc | apply IsS89.drewN | apply IsS89.drew | apply IsS89.set_0 | apply IsS89.set_1 | apply IsS89.set_2) | exact HI0.out)); (case side2 => repeat (first | (with_reducible first | exact HB.out | apply below_alloc | apply pw_below_drewN | apply below_drew1 | refine below_set ?_ (IsS89.ge HI0.out)) | exact HB.out)); rintro e w15 ⟨rfl, hi, hb, hk⟩; have n0_ := Aside0.mk (KeepBut.trans (by repeat (first | (with_reducible first | exact HK.out | apply KeepBut.set_ | apply keep_drewN | apply keep_drew | apply keep_alloc) | exact HK.out)) hk (.inl rfl)); have n1_ := Aside0.mk (hb); have n2_ := Aside0.mk (hi); clear HK; clear HB; clear HI0; have HK := n0_; have HB := n1_; have HI0 := n2_; clear n0_ n1_ n2_; (try clear hb); (try clear hb2); (try clear hk); (try clear hi)))
          repeat (go_quiet (first | (go_at_call 81; (with_reducible refine (pack_Reader_fail.calls g t124 t125 false t127 t128 t129 t130 w0 _ ?side1 ?side2 A14.out).mono ?_); (case side1 => repeat (first | (with_reducible first | exact HI0.out | apply IsS89.alloc | apply IsS89.drewN | apply IsS89.drew | apply IsS89.set_0 | apply IsS89.set_1 | apply IsS89.set_2) | exact HI0.out)); (case side2 => repeat (first | (with_reducible first | exact HB.out | apply below_alloc | apply pw_below_drewN | apply below_drew1 | refine below_set ?_ (IsS89.ge HI0.out)) | exact HB.out)); rintro e w15 ⟨rfl, hi, hb, hk⟩; have n0_ := Aside0.mk (KeepBut.trans (by repeat (first | (with_reducible first | exact HK.out | apply KeepBut.set_ | apply keep_drewN | apply keep_drew | apply keep_alloc) | exact HK.out)) hk (.inl rfl)); have n1_ := Aside0.mk (hb); have n2_ := Aside0.mk (hi); clear HK; clear HB; clear HI0; have HK := n0_; have HB := n1_; have HI0 := n2_; clear n0_ n1_ n2_; (try clear hb); (try clear hb2); (try clear hk); (try clear hi))); try go_wp2_with (first | (go_at_call 81; (with_reducible refine (pack_Reader_fail.calls g t124 t125 false t127 t128 t129 t130 w0 _ ?side1 ?side2 A14.out).mono ?_); (case side1 => repeat (first | (with_reducible first | exact HI0.out | apply IsS89.alloc | apply IsS89.drewN | apply IsS89.drew | apply IsS89.set_0 | apply IsS89.set_1 | apply IsS89.set_2) | exact HI0.out)); (case side2 => repeat (first | (with_reducible first | exact HB.out | apply below_alloc | apply pw_below_drewN | apply below_drew1 | refine below_set ?_ (IsS89.ge HI0.out)) | exact HB.out)); rintro e w15 ⟨rfl, hi, hb, hk⟩; have n0_ := Aside0.mk (KeepBut.trans (by repeat (first | (with_reducible first | exact HK.out | apply KeepBut.set_ | apply keep_drewN | apply keep_drew | apply keep_alloc) | exact HK.out)) hk (.inl rfl)); have n1_ := Aside0.mk (hb); have n2_ := Aside0.mk (hi); clear HK; clear HB; clear HI0; have HK := n0_; have HB := n1_; have HI0 := n2_; clear n0_ n1_ n2_; (try clear hb); (try clear hb2); (try clear hk); (try clear hi))))
          go_ret
          exact ⟨by first | rfl | (simp [errW_none, errW_some] <;> rfl) | (simp [*, errW_none, errW_some] <;> rfl), by repeat (first | (with_reducible first | exact HI0.out | apply IsS89.alloc | apply IsS89.drewN | apply IsS89.drew | apply IsS89.set_0 | apply IsS89.set_1 | apply IsS89.set_2) | exact HI0.out), by repeat (first | (with_reducible first | exact HB.out | apply below_alloc | apply pw_below_drewN | apply below_drew1 | refine below_set ?_ (IsS89.ge HI0.out)) | exact HB.out), by repeat (first | (with_reducible first | exact HK.out | apply KeepBut.set_ | apply keep_drewN | apply keep_drew | apply keep_alloc) | exact HK.out)⟩
        · replace c13 := Bool.eq_false_iff.mpr c13
          subst c13
          have H1 : (some (t123, t124, t125, false)) = some (r1, r2, r3, r4) := by rw [if_neg (show ¬ (false = true) by decide)] at H; exact H
          clear H
          have H := H1
          clear H1
          simp only [Option.some.injEq, Prod.mk.injEq] at H
          obtain ⟨rfl, rfl, rfl, rfl⟩ := H
          go_wp2
          repeat (go_quiet (fail); try go_wp2)
          go_ret
          exact ⟨by first | rfl | (simp [errW_none, errW_some] <;> rfl) | (simp [*, errW_none, errW_some] <;> rfl), by repeat (first | (with_reducible first | exact HI0.out | apply IsS89.alloc | apply IsS89.drewN | apply IsS89.drew | apply IsS89.set_0 | apply IsS89.set_1 | apply IsS89.set_2) | exact HI0.out), by repeat (first | (with_reducible first | exact HB.out | apply below_alloc | apply pw_below_drewN | apply below_drew1 | refine below_set ?_ (IsS89.ge HI0.out)) | exact HB.out), by repeat (first | (with_reducible first | exact HK.out | apply KeepBut.set_ | apply keep_drewN | apply keep_drew | apply keep_alloc) | exact HK.out)⟩

/-! ### pack_Reader_Str: function 58 -/
def pack_Reader_Str.j0 : Nat → Int → Bool → ByteArray → Int → Bool → Option (ByteArray × ByteArray × Int × Bool)
  | 0, _, _, _, _, _ => none
  | k + 1, x3, x30, x1000, x1001, x1002 => if x30 = true then ((pack_Reader_fail.f x1000 x1001 x1002).bind fun bt135 => (some ((⟨#[]⟩ : ByteArray), bt135.2.1, bt135.2.2.1, bt135.2.2.2))) else (if 0 ≤ x1001 then (if x1001 ≤ (wrap64 (x1001 + x3)) then (if (wrap64 (x1001 + x3)) ≤ (x1000.size : Int) then (some (x1000.extract (x1001 : Int).toNat ((wrap64 (x1001 + x3)) : Int).toNat, x1000, wrap64 (x1001 + x3), x1002)) else (none)) else (none)) else (none))
def pack_Reader_Str.f (k : Nat) (s0_0 : ByteArray) (s0_1 : Int) (s0_2 : Bool) : Option (ByteArray × ByteArray × Int × Bool) := (pack_Reader_Int.f k s0_0 s0_1 s0_2).bind fun bt131 => (if bt131.2.2.2 = true then (some ((⟨#[]⟩ : ByteArray), bt131.2.1, bt131.2.2.1, bt131.2.2.2)) else (if bt131.1 < 0 then (pack_Reader_Str.j0 k bt131.1 true bt131.2.1 bt131.2.2.1 bt131.2.2.2) else (pack_Reader_Str.j0 k bt131.1 (decide (bt131.1 > (wrap64 ((bt131.2.1.size : Int) - bt131.2.2.1)))) bt131.2.1 bt131.2.2.1 bt131.2.2.2)))
set_option maxHeartbeats 8000000 in
set_option maxRecDepth 100000 in
theorem pack_Reader_Str.calls (k : Nat) (g : Nat) (s0_0 : ByteArray) (s0_1 : Int) (s0_2 : Bool) (r1 : ByteArray) (r2 : ByteArray) (r3 : Int) (r4 : Bool) (w0 w : World) (hI : IsS89 w0 w g s0_0 s0_1 s0_2) (hB : Below w0.heap.size w0 w) (h : pack_Reader_Str.f k s0_0 s0_1 s0_2 = some (r1, r2, r3, r4)) :
    Calls Tryz.prog 58 #[.pointer (some ⟨g, 0, none⟩)] w fun e w' => e = .returned (.string r1) ∧ IsS89 w0 w' g r2 r3 r4 ∧ Below w0.heap.size w0 w' ∧ KeepBut w w' g none := by
  have HI0 := Aside0.mk hI
  have HK := Aside0.mk (KeepBut.refl w g none)
  have HL := Aside0.mk hB.size
  clear hI
  have HW0 := Aside0.mk hB.size
  have HB := Aside0.mk hB
  clear hB
  have H : ((pack_Reader_Int.f k s0_0 s0_1 s0_2).bind fun bt131 => (if bt131.2.2.2 = true then (some ((⟨#[]⟩ : ByteArray), bt131.2.1, bt131.2.2.1, bt131.2.2.2)) else (if bt131.1 < 0 then (pack_Reader_Str.j0 k bt131.1 true bt131.2.1 bt131.2.2.1 bt131.2.2.2) else (pack_Reader_Str.j0 k bt131.1 (decide (bt131.1 > (wrap64 ((bt131.2.1.size : Int) - bt131.2.2.1)))) bt131.2.1 bt131.2.2.1 bt131.2.2.2)))) = some (r1, r2, r3, r4) := h
  clear h
  replace H := Option.bind_eq_some_iff.mp H
  obtain ⟨⟨t131, t132, t133, t134⟩, A20, H⟩ := H
  replace H : (if t134 = true then (some ((⟨#[]⟩ : ByteArray), t132, t133, t134)) else (if t131 < 0 then (pack_Reader_Str.j0 k t131 true t132 t133 t134) else (pack_Reader_Str.j0 k t131 (decide (t131 > (wrap64 ((t132.size : Int) - t133)))) t132 t133 t134))) = some (r1, r2, r3, r4) := H
  have A2 := Aside0.mk A20
  clear A20
  by_cases c3 : t134 = true
  · subst c3
    have H1 : (some ((⟨#[]⟩ : ByteArray), t132, t133, true)) = some (r1, r2, r3, r4) := by rw [if_pos rfl] at H; exact H
    clear H
    have H := H1
    clear H1
    simp only [Option.some.injEq, Prod.mk.injEq] at H
    obtain ⟨rfl, rfl, rfl, rfl⟩ := H
    go_enter Tryz.func58, Tryz.ntmps58
    go_wp2_with (first | (go_at_call 57; (with_reducible refine (pack_Reader_Int.calls k g s0_0 s0_1 s0_2 t131 t132 t133 true w0 _ ?side1 ?side2 A2.out).mono ?_); (case side1 => repeat (first | (with_reducible first | exact HI0.out | apply IsS89.alloc | apply IsS89.drewN | apply IsS89.drew | apply IsS89.set_0 | apply IsS89.set_1 | apply IsS89.set_2) | exact HI0.out)); (case side2 => repeat (first | (with_reducible first | exact HB.out | apply below_alloc | apply pw_below_drewN | apply below_drew1 | refine below_set ?_ (IsS89.ge HI0.out)) | exact HB.out)); rintro e w4 ⟨rfl, hi, hb, hk⟩; have n0_ := Aside0.mk (KeepBut.trans (by repeat (first | (with_reducible first | exact HK.out | apply KeepBut.set_ | apply keep_drewN | apply keep_drew | apply keep_alloc) | exact HK.out)) hk (.inl rfl)); have n1_ := Aside0.mk (hb); have n2_ := Aside0.mk (hi); clear HK; clear HB; clear HI0; have HK := n0_; have HB := n1_; have HI0 := n2_; clear n0_ n1_ n2_; (try clear hb); (try clear hb2); (try clear hk); (try clear hi); obtain ⟨HGz5, hgz5⟩ := HI0.out; have hcz5_0 := cellS89_0 HGz5; have hcz5_1 := cellS89_1 HGz5; have hcz5_2 := cellS89_2 HGz5; have hfz5_0 := blk_frozen HGz5 0; have hfz5_1 := blk_frozen HGz5 1; have hfz5_2 := blk_frozen HGz5 2; clear HGz5 hgz5))
    repeat (go_quiet (first | (go_at_call 57; (with_reducible refine (pack_Reader_Int.calls k g s0_0 s0_1 s0_2 t131 t132 t133 true w0 _ ?side1 ?side2 A2.out).mono ?_); (case side1 => repeat (first | (with_reducible first | exact HI0.out | apply IsS89.alloc | apply IsS89.drewN | apply IsS89.drew | apply IsS89.set_0 | apply IsS89.set_1 | apply IsS89.set_2) | exact HI0.out)); (case side2 => repeat (first | (with_reducible first | exact HB.out | apply below_alloc | apply pw_below_drewN | apply below_drew1 | refine below_set ?_ (IsS89.ge HI0.out)) | exact HB.out)); rintro e w4 ⟨rfl, hi, hb, hk⟩; have n0_ := Aside0.mk (KeepBut.trans (by repeat (first | (with_reducible first | exact HK.out | apply KeepBut.set_ | apply keep_drewN | apply keep_drew | apply keep_alloc) | exact HK.out)) hk (.inl rfl)); have n1_ := Aside0.mk (hb); have n2_ := Aside0.mk (hi); clear HK; clear HB; clear HI0; have HK := n0_; have HB := n1_; have HI0 := n2_; clear n0_ n1_ n2_; (try clear hb); (try clear hb2); (try clear hk); (try clear hi); obtain ⟨HGz5, hgz5⟩ := HI0.out; have hcz5_0 := cellS89_0 HGz5; have hcz5_1 := cellS89_1 HGz5; have hcz5_2 := cellS89_2 HGz5; have hfz5_0 := blk_frozen HGz5 0; have hfz5_1 := blk_frozen HGz5 1; have hfz5_2 := blk_frozen HGz5 2; clear HGz5 hgz5)); try go_wp2_with (first | (go_at_call 57; (with_reducible refine (pack_Reader_Int.calls k g s0_0 s0_1 s0_2 t131 t132 t133 true w0 _ ?side1 ?side2 A2.out).mono ?_); (case side1 => repeat (first | (with_reducible first | exact HI0.out | apply IsS89.alloc | apply IsS89.drewN | apply IsS89.drew | apply IsS89.set_0 | apply IsS89.set_1 | apply IsS89.set_2) | exact HI0.out)); (case side2 => repeat (first | (with_reducible first | exact HB.out | apply below_alloc | apply pw_below_drewN | apply below_drew1 | refine below_set ?_ (IsS89.ge HI0.out)) | exact HB.out)); rintro e w4 ⟨rfl, hi, hb, hk⟩; have n0_ := Aside0.mk (KeepBut.trans (by repeat (first | (with_reducible first | exact HK.out | apply KeepBut.set_ | apply keep_drewN | apply keep_drew | apply keep_alloc) | exact HK.out)) hk (.inl rfl)); have n1_ := Aside0.mk (hb); have n2_ := Aside0.mk (hi); clear HK; clear HB; clear HI0; have HK := n0_; have HB := n1_; have HI0 := n2_; clear n0_ n1_ n2_; (try clear hb); (try clear hb2); (try clear hk); (try clear hi); obtain ⟨HGz5, hgz5⟩ := HI0.out; have hcz5_0 := cellS89_0 HGz5; have hcz5_1 := cellS89_1 HGz5; have hcz5_2 := cellS89_2 HGz5; have hfz5_0 := blk_frozen HGz5 0; have hfz5_1 := blk_frozen HGz5 1; have hfz5_2 := blk_frozen HGz5 2; clear HGz5 hgz5)))
    go_ret
    exact ⟨by first | rfl | (simp [errW_none, errW_some] <;> rfl) | (simp [*, errW_none, errW_some] <;> rfl), by repeat (first | (with_reducible first | exact HI0.out | apply IsS89.alloc | apply IsS89.drewN | apply IsS89.drew | apply IsS89.set_0 | apply IsS89.set_1 | apply IsS89.set_2) | exact HI0.out), by repeat (first | (with_reducible first | exact HB.out | apply below_alloc | apply pw_below_drewN | apply below_drew1 | refine below_set ?_ (IsS89.ge HI0.out)) | exact HB.out), by repeat (first | (with_reducible first | exact HK.out | apply KeepBut.set_ | apply keep_drewN | apply keep_drew | apply keep_alloc) | exact HK.out)⟩
  · replace c3 := Bool.eq_false_iff.mpr c3
    subst c3
    have H1 : (if t131 < 0 then (pack_Reader_Str.j0 k t131 true t132 t133 false) else (pack_Reader_Str.j0 k t131 (decide (t131 > (wrap64 ((t132.size : Int) - t133)))) t132 t133 false)) = some (r1, r2, r3, r4) := by rw [if_neg (show ¬ (false = true) by decide)] at H; exact H
    clear H
    have H := H1
    clear H1
    have HC6 := Aside0.mk H
    clear H
    go_enter Tryz.func58, Tryz.ntmps58
    go_upto_region 4 with (first | (go_at_call 57; (with_reducible refine (pack_Reader_Int.calls k g s0_0 s0_1 s0_2 t131 t132 t133 false w0 _ ?side1 ?side2 A2.out).mono ?_); (case side1 => repeat (first | (with_reducible first | exact HI0.out | apply IsS89.alloc | apply IsS89.drewN | apply IsS89.drew | apply IsS89.set_0 | apply IsS89.set_1 | apply IsS89.set_2) | exact HI0.out)); (case side2 => repeat (first | (with_reducible first | exact HB.out | apply below_alloc | apply pw_below_drewN | apply below_drew1 | refine below_set ?_ (IsS89.ge HI0.out)) | exact HB.out)); rintro e w7 ⟨rfl, hi, hb, hk⟩; have n0_ := Aside0.mk (KeepBut.trans (by repeat (first | (with_reducible first | exact HK.out | apply KeepBut.set_ | apply keep_drewN | apply keep_drew | apply keep_alloc) | exact HK.out)) hk (.inl rfl)); have n1_ := Aside0.mk (hb); have n2_ := Aside0.mk (hi); clear HK; clear HB; clear HI0; have HK := n0_; have HB := n1_; have HI0 := n2_; clear n0_ n1_ n2_; (try clear hb); (try clear hb2); (try clear hk); (try clear hi); obtain ⟨HGz8, hgz8⟩ := HI0.out; have hcz8_0 := cellS89_0 HGz8; have hcz8_1 := cellS89_1 HGz8; have hcz8_2 := cellS89_2 HGz8; have hfz8_0 := blk_frozen HGz8 0; have hfz8_1 := blk_frozen HGz8 1; have hfz8_2 := blk_frozen HGz8 2; clear HGz8 hgz8))
    repeat (go_quiet (first | (go_at_call 57; (with_reducible refine (pack_Reader_Int.calls k g s0_0 s0_1 s0_2 t131 t132 t133 false w0 _ ?side1 ?side2 A2.out).mono ?_); (case side1 => repeat (first | (with_reducible first | exact HI0.out | apply IsS89.alloc | apply IsS89.drewN | apply IsS89.drew | apply IsS89.set_0 | apply IsS89.set_1 | apply IsS89.set_2) | exact HI0.out)); (case side2 => repeat (first | (with_reducible first | exact HB.out | apply below_alloc | apply pw_below_drewN | apply below_drew1 | refine below_set ?_ (IsS89.ge HI0.out)) | exact HB.out)); rintro e w7 ⟨rfl, hi, hb, hk⟩; have n0_ := Aside0.mk (KeepBut.trans (by repeat (first | (with_reducible first | exact HK.out | apply KeepBut.set_ | apply keep_drewN | apply keep_drew | apply keep_alloc) | exact HK.out)) hk (.inl rfl)); have n1_ := Aside0.mk (hb); have n2_ := Aside0.mk (hi); clear HK; clear HB; clear HI0; have HK := n0_; have HB := n1_; have HI0 := n2_; clear n0_ n1_ n2_; (try clear hb); (try clear hb2); (try clear hk); (try clear hi); obtain ⟨HGz8, hgz8⟩ := HI0.out; have hcz8_0 := cellS89_0 HGz8; have hcz8_1 := cellS89_1 HGz8; have hcz8_2 := cellS89_2 HGz8; have hfz8_0 := blk_frozen HGz8 0; have hfz8_1 := blk_frozen HGz8 1; have hfz8_2 := blk_frozen HGz8 2; clear HGz8 hgz8)); go_upto_region 4 with (first | (go_at_call 57; (with_reducible refine (pack_Reader_Int.calls k g s0_0 s0_1 s0_2 t131 t132 t133 false w0 _ ?side1 ?side2 A2.out).mono ?_); (case side1 => repeat (first | (with_reducible first | exact HI0.out | apply IsS89.alloc | apply IsS89.drewN | apply IsS89.drew | apply IsS89.set_0 | apply IsS89.set_1 | apply IsS89.set_2) | exact HI0.out)); (case side2 => repeat (first | (with_reducible first | exact HB.out | apply below_alloc | apply pw_below_drewN | apply below_drew1 | refine below_set ?_ (IsS89.ge HI0.out)) | exact HB.out)); rintro e w7 ⟨rfl, hi, hb, hk⟩; have n0_ := Aside0.mk (KeepBut.trans (by repeat (first | (with_reducible first | exact HK.out | apply KeepBut.set_ | apply keep_drewN | apply keep_drew | apply keep_alloc) | exact HK.out)) hk (.inl rfl)); have n1_ := Aside0.mk (hb); have n2_ := Aside0.mk (hi); clear HK; clear HB; clear HI0; have HK := n0_; have HB := n1_; have HI0 := n2_; clear n0_ n1_ n2_; (try clear hb); (try clear hb2); (try clear hk); (try clear hi); obtain ⟨HGz8, hgz8⟩ := HI0.out; have hcz8_0 := cellS89_0 HGz8; have hcz8_1 := cellS89_1 HGz8; have hcz8_2 := cellS89_2 HGz8; have hfz8_0 := blk_frozen HGz8 0; have hfz8_1 := blk_frozen HGz8 1; have hfz8_2 := blk_frozen HGz8 2; clear HGz8 hgz8)))
    (try simp only [Act.put, List.setIfInBounds_toArray, List.set_cons_zero, List.set_cons_succ])
    go_cut [30] (fun v30 wc => ∃ (kq : Nat) (x30_5 : Bool), v30 = .bool x30_5 ∧ Aside0 (pack_Reader_Str.j0 kq t131 x30_5 t132 t133 false = some (r1, r2, r3, r4)) ∧ Aside0 (kq ≤ k) ∧ Aside0 (IsS89 w0 wc g t132 t133 false) ∧ Aside0 (KeepBut w wc g none) ∧ Aside0 (Below w0.heap.size w0 wc))
    case first =>
      have H := HC6.out
      clear HC6
      by_cases c9 : t131 < 0
      · rw [if_pos c9] at H
        have c9b0 : decide (t131 < 0) = true := decide_eq_true c9
        clear c9
        (first | rw [c9b0] | (simp only [i64_w, i32_w]; rw [c9b0]) | skip)
        have H' := Aside0.mk H
        clear H
        go_wp2
        repeat (go_quiet (fail); try go_wp2)
        go_meet
        case rel => exact ⟨_, (true), (by first | rfl | (simp; done) | (simp [*]; done) | (generalize ByteArray.toList _ = l_; cases l_ <;> rfl)), H', ⟨by first | omega | exact Nat.le_refl _⟩, ⟨by repeat (first | (with_reducible first | exact HI0.out | apply IsS89.alloc | apply IsS89.drewN | apply IsS89.drew | apply IsS89.set_0 | apply IsS89.set_1 | apply IsS89.set_2) | exact HI0.out)⟩, ⟨by repeat (first | (with_reducible first | exact HK.out | apply KeepBut.set_ | apply keep_drewN | apply keep_drew | apply keep_alloc) | exact HK.out)⟩, ⟨by repeat (first | (with_reducible first | exact HB.out | apply below_alloc | apply pw_below_drewN | apply below_drew1 | refine below_set ?_ (IsS89.ge HI0.out)) | exact HB.out)⟩⟩
      · rw [if_neg c9] at H
        have c9b0 : decide (t131 < 0) = false := decide_eq_false c9
        clear c9
        (first | rw [c9b0] | (simp only [i64_w, i32_w]; rw [c9b0]) | skip)
        have H' := Aside0.mk H
        clear H
        obtain ⟨HGz10, hgz10⟩ := HI0.out
        have hcz10_0 := cellS89_0 HGz10
        have hcz10_1 := cellS89_1 HGz10
        have hcz10_2 := cellS89_2 HGz10
        have hfz10_0 := blk_frozen HGz10 0
        have hfz10_1 := blk_frozen HGz10 1
        have hfz10_2 := blk_frozen HGz10 2
        clear HGz10 hgz10
        go_wp2
        repeat (go_quiet (fail); try go_wp2)
        go_meet
        case rel => exact ⟨_, (decide (t131 > (wrap64 ((t132.size : Int) - t133)))), (by first | rfl | (simp; done) | (simp [*]; done) | (generalize ByteArray.toList _ = l_; cases l_ <;> rfl)), H', ⟨by first | omega | exact Nat.le_refl _⟩, ⟨by repeat (first | (with_reducible first | exact HI0.out | apply IsS89.alloc | apply IsS89.drewN | apply IsS89.drew | apply IsS89.set_0 | apply IsS89.set_1 | apply IsS89.set_2) | exact HI0.out)⟩, ⟨by repeat (first | (with_reducible first | exact HK.out | apply KeepBut.set_ | apply keep_drewN | apply keep_drew | apply keep_alloc) | exact HK.out)⟩, ⟨by repeat (first | (with_reducible first | exact HB.out | apply below_alloc | apply pw_below_drewN | apply below_drew1 | refine below_set ?_ (IsS89.ge HI0.out)) | exact HB.out)⟩⟩
    case rest =>
      clear HC6
      try clear p2
      try clear c3
      try clear c5
      try clear p6
      try clear c9
      try clear c9b0
      try clear hcz10_0
      try clear hcz10_1
      try clear hcz10_2
      try clear hcz5_0
      try clear hcz5_1
      try clear hcz5_2
      try clear hcz8_0
      try clear hcz8_1
      try clear hcz8_2
      try clear hfz10_0
      try clear hfz10_1
      try clear hfz10_2
      try clear hfz5_0
      try clear hfz5_1
      try clear hfz5_2
      try clear hfz8_0
      try clear hfz8_1
      try clear hfz8_2
      obtain ⟨kq, x30_5, rfl, HA, HJ5, HI0, HK, HB⟩ := hcut
      cases kq with
      | zero => exact absurd HA.out (by simp [pack_Reader_Str.j0])
      | succ kj5 =>
        have H := HA.out
        clear HA
        simp only [pack_Reader_Str.j0] at H
        by_cases c11 : x30_5 = true
        · subst c11
          have H1 : ((pack_Reader_fail.f t132 t133 false).bind fun bt135 => (some ((⟨#[]⟩ : ByteArray), bt135.2.1, bt135.2.2.1, bt135.2.2.2))) = some (r1, r2, r3, r4) := by rw [if_pos rfl] at H; exact H
          clear H
          have H := H1
          clear H1
          replace H := Option.bind_eq_some_iff.mp H
          obtain ⟨⟨t135, t136, t137, t138⟩, A120, H⟩ := H
          replace H : (some ((⟨#[]⟩ : ByteArray), t136, t137, t138)) = some (r1, r2, r3, r4) := H
          have A12 := Aside0.mk A120
          clear A120
          simp only [Option.some.injEq, Prod.mk.injEq] at H
          obtain ⟨rfl, rfl, rfl, rfl⟩ := H
          go_wp2_with (first | (go_at_call 81; (with_reducible refine (pack_Reader_fail.calls g t132 t133 false t135 t136 t137 t138 w0 _ ?side1 ?side2 A12.out).mono ?_); (case side1 => repeat (first | (with_reducible first | exact HI0.out | apply IsS89.alloc | apply IsS89.drewN | apply IsS89.drew | apply IsS89.set_0 | apply IsS89.set_1 | apply IsS89.set_2) | exact HI0.out)); (case side2 => repeat (first | (with_reducible first | exact HB.out | apply below_alloc | apply pw_below_drewN | apply below_drew1 | refine below_set ?_ (IsS89.ge HI0.out)) | exact HB.out)); rintro e w13 ⟨rfl, hi, hb, hk⟩; have n0_ := Aside0.mk (KeepBut.trans (by repeat (first | (with_reducible first | exact HK.out | apply KeepBut.set_ | apply keep_drewN | apply keep_drew | apply keep_alloc) | exact HK.out)) hk (.inl rfl)); have n1_ := Aside0.mk (hb); have n2_ := Aside0.mk (hi); clear HK; clear HB; clear HI0; have HK := n0_; have HB := n1_; have HI0 := n2_; clear n0_ n1_ n2_; (try clear hb); (try clear hb2); (try clear hk); (try clear hi)))
          repeat (go_quiet (first | (go_at_call 81; (with_reducible refine (pack_Reader_fail.calls g t132 t133 false t135 t136 t137 t138 w0 _ ?side1 ?side2 A12.out).mono ?_); (case side1 => repeat (first | (with_reducible first | exact HI0.out | apply IsS89.alloc | apply IsS89.drewN | apply IsS89.drew | apply IsS89.set_0 | apply IsS89.set_1 | apply IsS89.set_2) | exact HI0.out)); (case side2 => repeat (first | (with_reducible first | exact HB.out | apply below_alloc | apply pw_below_drewN | apply below_drew1 | refine below_set ?_ (IsS89.ge HI0.out)) | exact HB.out)); rintro e w13 ⟨rfl, hi, hb, hk⟩; have n0_ := Aside0.mk (KeepBut.trans (by repeat (first | (with_reducible first | exact HK.out | apply KeepBut.set_ | apply keep_drewN | apply keep_drew | apply keep_alloc) | exact HK.out)) hk (.inl rfl)); have n1_ := Aside0.mk (hb); have n2_ := Aside0.mk (hi); clear HK; clear HB; clear HI0; have HK := n0_; have HB := n1_; have HI0 := n2_; clear n0_ n1_ n2_; (try clear hb); (try clear hb2); (try clear hk); (try clear hi))); try go_wp2_with (first | (go_at_call 81; (with_reducible refine (pack_Reader_fail.calls g t132 t133 false t135 t136 t137 t138 w0 _ ?side1 ?side2 A12.out).mono ?_); (case side1 => repeat (first | (with_reducible first | exact HI0.out | apply IsS89.alloc | apply IsS89.drewN | apply IsS89.drew | apply IsS89.set_0 | apply IsS89.set_1 | apply IsS89.set_2) | exact HI0.out)); (case side2 => repeat (first | (with_reducible first | exact HB.out | apply below_alloc | apply pw_below_drewN | apply below_drew1 | refine below_set ?_ (IsS89.ge HI0.out)) | exact HB.out)); rintro e w13 ⟨rfl, hi, hb, hk⟩; have n0_ := Aside0.mk (KeepBut.trans (by repeat (first | (with_reducible first | exact HK.out | apply KeepBut.set_ | apply keep_drewN | apply keep_drew | apply keep_alloc) | exact HK.out)) hk (.inl rfl)); have n1_ := Aside0.mk (hb); have n2_ := Aside0.mk (hi); clear HK; clear HB; clear HI0; have HK := n0_; have HB := n1_; have HI0 := n2_; clear n0_ n1_ n2_; (try clear hb); (try clear hb2); (try clear hk); (try clear hi))))
          go_ret
          exact ⟨by first | rfl | (simp [errW_none, errW_some] <;> rfl) | (simp [*, errW_none, errW_some] <;> rfl), by repeat (first | (with_reducible first | exact HI0.out | apply IsS89.alloc | apply IsS89.drewN | apply IsS89.drew | apply IsS89.set_0 | apply IsS89.set_1 | apply IsS89.set_2) | exact HI0.out), by repeat (first | (with_reducible first | exact HB.out | apply below_alloc | apply pw_below_drewN | apply below_drew1 | refine below_set ?_ (IsS89.ge HI0.out)) | exact HB.out), by repeat (first | (with_reducible first | exact HK.out | apply KeepBut.set_ | apply keep_drewN | apply keep_drew | apply keep_alloc) | exact HK.out)⟩
        · replace c11 := Bool.eq_false_iff.mpr c11
          subst c11
          have H1 : (if 0 ≤ t133 then (if t133 ≤ (wrap64 (t133 + t131)) then (if (wrap64 (t133 + t131)) ≤ (t132.size : Int) then (some (t132.extract (t133 : Int).toNat ((wrap64 (t133 + t131)) : Int).toNat, t132, wrap64 (t133 + t131), false)) else (none)) else (none)) else (none)) = some (r1, r2, r3, r4) := by rw [if_neg (show ¬ (false = true) by decide)] at H; exact H
          clear H
          have H := H1
          clear H1
          by_cases c14 : 0 ≤ t133
          · rw [if_pos c14] at H
            have c14b0 := eq_true c14
            have c14b1 : decide (0 ≤ t133) = true := decide_eq_true c14
            clear c14
            by_cases c15 : t133 ≤ (wrap64 (t133 + t131))
            · rw [if_pos c15] at H
              have c15b0 := eq_true c15
              have c15b1 : decide (t133 ≤ (wrap64 (t133 + t131))) = true := decide_eq_true c15
              by_cases c16 : (wrap64 (t133 + t131)) ≤ (t132.size : Int)
              · rw [if_pos c16] at H
                have c16b0 := eq_true c16
                have c16b1 : decide ((wrap64 (t133 + t131)) ≤ (t132.size : Int)) = true := decide_eq_true c16
                simp only [Option.some.injEq, Prod.mk.injEq] at H
                obtain ⟨rfl, rfl, rfl, rfl⟩ := H
                obtain ⟨HGz17, hgz17⟩ := HI0.out
                have hcz17_0 := cellS89_0 HGz17
                have hcz17_1 := cellS89_1 HGz17
                have hcz17_2 := cellS89_2 HGz17
                have hfz17_0 := blk_frozen HGz17 0
                have hfz17_1 := blk_frozen HGz17 1
                have hfz17_2 := blk_frozen HGz17 2
                clear HGz17 hgz17
                go_wp2
                repeat (go_quiet (fail); try go_wp2)
                go_ret
                exact ⟨by first | rfl | (simp [errW_none, errW_some] <;> rfl) | (simp [*, errW_none, errW_some] <;> rfl), by repeat (first | (with_reducible first | exact HI0.out | apply IsS89.alloc | apply IsS89.drewN | apply IsS89.drew | apply IsS89.set_0 | apply IsS89.set_1 | apply IsS89.set_2) | exact HI0.out), by repeat (first | (with_reducible first | exact HB.out | apply below_alloc | apply pw_below_drewN | apply below_drew1 | refine below_set ?_ (IsS89.ge HI0.out)) | exact HB.out), by repeat (first | (with_reducible first | exact HK.out | apply KeepBut.set_ | apply keep_drewN | apply keep_drew | apply keep_alloc) | exact HK.out)⟩
              · rw [if_neg c16] at H
                exact absurd H (by simp)
            · rw [if_neg c15] at H
              exact absurd H (by simp)
          · rw [if_neg c14] at H
            exact absurd H (by simp)

end Go.Proofs.YtmaciepkkianhabGreatDoor.QRows
