/- The law mortmainlaw02.RealReckons: its row and its card, out of the walk (printed) and the plain fact that it answers true. Written by rowgen.py, this claim's own program. Lean checks it. -/
import Derived.Laws.BitsAllLaws
import Derived.Laws.FloatBits
import Derived.WalkKit
import Derived.Lib.LaidU8
import Derived.OpenShut
import GoSem.PinnedTables
import Derived.Test.YtmaciepkkianhaaDoorWWords
import Derived.Test.YtmaciepkkianhaaDoorWLast
import Derived.Test.YtmaciepkkianhaaDoorWMore
import Derived.Test.YtmaciepkkianhaaDoorProg
import Derived.KernelRfl
import Derived.Lib.LaidTab
import Derived.Lib.ItoaNum
import Derived.Laws.Externs
import Derived.BigCall
import Derived.IntWalk
import Derived.Outline
import Derived.Deep.RegionWith
import Derived.WalkLawsBesides
import Derived.Below
import Derived.Deep.Draws
import Derived.Deep.AppendLies
import Derived.Maps.AppendAt
import Derived.OwnWalk
import Derived.Laws.BytesArg
import Derived.Laws.MakeOwn
import Derived.Laws.OwnMore
import Derived.Deep.OwnRows
import Derived.Tactics
import Derived.Lib.ConvBytes
import Derived.Laws.Slices
import Derived.RowKit3
import Derived.Deep.LoopGhost
import Derived.Deep.QuietTactic
import Derived.BigQuiet
import Derived.WideLaws
import Derived.Deep.DeepCutAuto
import Derived.Deep.CutBlock
import Derived.Deep.RegionHeld3
import Derived.Laws.Rows
import Derived.Lib.AppendStr
import Derived.ArgAppend
import Derived.Laws.IdiomCopy
import Derived.OrdersHeld
import Derived.Laws.BitsLemmas
import Derived.RowKit
import Derived.Test.YtmaciepkkianhaaDoorWTab
import Derived.Test.YtmaciepkkianhaaDoorWQPut
import Derived.Test.YtmaciepkkianhaaDoorWApart
import Derived.Test.YtmaciepkkianhaaDoorWArr
import Derived.Test.YtmaciepkkianhaaDoorWZeros
import Derived.Test.YtmaciepkkianhaaDoorWFoot
import Derived.Test.YtmaciepkkianhaaDoorWKept
import Derived.Test.YtmaciepkkianhaaDoorWShare
import Derived.Test.YtmaciepkkianhaaDoorWN
import Derived.Test.YtmaciepkkianhaaDoorWRepsOne
import Derived.Test.YtmaciepkkianhaaDoorWInv
import Derived.Test.YtmaciepkkianhaaDoorWNEv
import Derived.Shelf.Strings.Builder1
import Derived.Shelf.Strings.Builder2
import Derived.Shelf.Small.Strs
import Derived.Shelf.Strings.BuilderF
import Derived.Shelf.Strings.BuilderK
import Derived.Shelf.Utf8.RuneCount
import Derived.Shelf.Strconv.Itoa0
import Derived.Shelf.Strconv.Itoa1
import Derived.Shelf.LaysM
import Derived.Shelf.Strconv.Itoa2
import Derived.Shelf.Strings.Search1
import Derived.Shelf.Strings.Search2
import Derived.Shelf.Strings.Search3
import Derived.Shelf.Strings.Count
import Derived.Shelf.Strings.Shaped
import Derived.Shelf.Strconv.AppendUint10
import Derived.Shelf.Strconv.AppendInt10
import Derived.Shelf.Strings.Split
import Derived.Shelf.Strings.Replace
import Derived.Shelf.Strings.SplitShaped
import Derived.Shelf.Unicode.Decode
import Derived.Shelf.Strings.RuneCount
import Derived.Shelf.Bits.Mul64
import Derived.Shelf.Unicode.DecodeSlow
import Derived.Shelf.Unicode.DecodeAny
import Derived.WalkSpells
import Derived.Laws.Strings
import Derived.Laws.FloatArith
import Derived.Shaped
import Derived.Lay
import Derived.Deep.DeepHandedRow
import Derived.Test.YtmaciepkkianhaaDoorCards
import Derived.Test.YtmaciepkkianhaaDoorTie
import Derived.ProofKit
import Derived.ShutString
import Derived.ChangeOld
import Derived.SizedLaws
import Derived.Carry
import Derived.Lib.SmallJoins
import Derived.Shelf.Vars
import Derived.Laws.Cover2
namespace Go.Proofs.YtmaciepkkianhaaDoor.M
open Go.RowKit

/-! ### Floats by their bits -/
abbrev F := FloatKind.f64.format
/-- The magnitude that a rung has, in units of the least one. -/
def mval (r : Nat) : Nat := if r < 4503599627370496 then r else (4503599627370496 + r % 4503599627370496) * 2 ^ (r / 4503599627370496 - 1)
theorem mval_step (r : Nat) : mval r < mval (r + 1) := by
  unfold mval
  by_cases h : r + 1 < 4503599627370496
  · rw [if_pos h, if_pos (by omega)]; omega
  · rw [if_neg h]
    by_cases h2 : r < 4503599627370496
    · obtain rfl : r = 4503599627370495 := by omega
      decide
    · rw [if_neg h2]
      by_cases h3 : r % 4503599627370496 = 4503599627370495
      · have e1 : (r + 1) / 4503599627370496 - 1 = (r / 4503599627370496 - 1) + 1 := by omega
        have e2 : (r + 1) % 4503599627370496 = 0 := by omega
        rw [e1, e2, h3, Nat.pow_succ]
        have := Nat.two_pow_pos (r / 4503599627370496 - 1)
        generalize 2 ^ (r / 4503599627370496 - 1) = p at *
        omega
      · have e1 : (r + 1) / 4503599627370496 - 1 = r / 4503599627370496 - 1 := by omega
        have e2 : (r + 1) % 4503599627370496 = r % 4503599627370496 + 1 := by omega
        rw [e1, e2]
        exact Nat.mul_lt_mul_of_pos_right (by omega) (Nat.two_pow_pos _)
theorem mval_lt {r s : Nat} (h : r < s) : mval r < mval s := by
  induction s with
  | zero => omega
  | succ s ih =>
    rcases Nat.lt_or_ge r s with hl | hg
    · exact Nat.lt_trans (ih hl) (mval_step s)
    · obtain rfl : r = s := by omega
      exact mval_step r
theorem mval_lt_iff {r s : Nat} : mval r < mval s ↔ r < s := by
  constructor
  · intro h
    rcases Nat.lt_trichotomy r s with hl | he | hg
    · exact hl
    · subst he; omega
    · have := mval_lt hg; omega
  · exact mval_lt

/-- What is no number; what a float is ordered by. -/
def isNan (u : Nat) : Bool := decide (u % 9223372036854775808 > 9218868437227405312)
def skey (u : Nat) : Int := if u < 9223372036854775808 then (u : Int) else -((u - 9223372036854775808 : Nat) : Int)

theorem read_eq (u : Nat) : F.read u =
    (let neg := u / 9223372036854775808 % 2 == 1
     let r := u % 9223372036854775808
     if r < 4503599627370496 then .number neg r (-1074)
     else if r < 9218868437227405312 then .number neg (4503599627370496 + r % 4503599627370496) (-1074 + (r / 4503599627370496 - 1 : Nat))
     else if r = 9218868437227405312 then .infinity neg
     else .nan neg (r - 9218868437227405312)) := by
  rfl

def sg (s : Bool) (n : Nat) : Int := if s then -(n : Int) else n
theorem cmp_congr {a b c d : Int} (h1 : a < b ↔ c < d) (h2 : a = b ↔ c = d) : compare a b = compare c d := by
  simp only [compare, compareOfLessAndEq, h1, h2]
theorem sg_lt {f : Nat → Nat} (hf : ∀ {r s : Nat}, f r < f s ↔ r < s) (h0 : f 0 = 0) (s t : Bool) (a b : Nat) : sg s (f a) < sg t (f b) ↔ sg s a < sg t b := by
  have h1 := @hf a b
  have h2 := @hf b a
  have h3 := @hf 0 a
  have h4 := @hf 0 b
  rw [h0] at h3 h4
  cases s <;> cases t <;> simp only [sg] <;> simp <;> omega
theorem sg_eq {f : Nat → Nat} (hf : ∀ {r s : Nat}, f r < f s ↔ r < s) (h0 : f 0 = 0) (s t : Bool) (a b : Nat) : sg s (f a) = sg t (f b) ↔ sg s a = sg t b := by
  have h1 := @hf a b
  have h2 := @hf b a
  have h3 := @hf 0 a
  have h4 := @hf 0 b
  rw [h0] at h3 h4
  cases s <;> cases t <;> simp only [sg] <;> simp <;> omega
theorem signed_sg (s : Bool) (m up : Nat) : Ieee.signed s m up = sg s (m * 2 ^ up) := by
  unfold Ieee.signed sg
  rw [Nat.shiftLeft_eq]
theorem sg_mul (s : Bool) (m p : Nat) : sg s (m * p) = sg s m * (p : Int) := by
  cases s <;> simp [sg, Int.neg_mul]
theorem cmp_scale (s t : Bool) (m n e1 e2 : Nat) :
    compare (Ieee.signed s m ((-1074 + (e1 : Int)) - min (-1074 + (e1 : Int)) (-1074 + (e2 : Int))).toNat) (Ieee.signed t n ((-1074 + (e2 : Int)) - min (-1074 + (e1 : Int)) (-1074 + (e2 : Int))).toNat) = compare (sg s (m * 2 ^ e1)) (sg t (n * 2 ^ e2)) := by
  rw [signed_sg, signed_sg]
  have q1 : ((-1074 + (e1 : Int)) - min (-1074 + (e1 : Int)) (-1074 + (e2 : Int))).toNat = e1 - min e1 e2 := by omega
  have q2 : ((-1074 + (e2 : Int)) - min (-1074 + (e1 : Int)) (-1074 + (e2 : Int))).toNat = e2 - min e1 e2 := by omega
  rw [q1, q2]
  have p1 : m * 2 ^ e1 = m * 2 ^ (e1 - min e1 e2) * 2 ^ min e1 e2 := by rw [Nat.mul_assoc, ← Nat.pow_add]; congr 2; omega
  have p2 : n * 2 ^ e2 = n * 2 ^ (e2 - min e1 e2) * 2 ^ min e1 e2 := by rw [Nat.mul_assoc, ← Nat.pow_add]; congr 2; omega
  rw [p1, p2, sg_mul s (m * 2 ^ (e1 - min e1 e2)), sg_mul t (n * 2 ^ (e2 - min e1 e2))]
  have hp : (0 : Int) < ((2 ^ min e1 e2 : Nat) : Int) := by exact_mod_cast Nat.two_pow_pos _
  generalize ((2 ^ min e1 e2 : Nat) : Int) = p at *
  apply cmp_congr
  · exact (Int.mul_lt_mul_right hp).symm
  · exact ⟨fun h => by rw [h], fun h => Int.eq_of_mul_eq_mul_right (by omega) h⟩

def neg (u : Nat) : Bool := u / 9223372036854775808 % 2 == 1
theorem skey_sg (u : Nat) (hu : u < 18446744073709551616) : skey u = sg (neg u) (u % 9223372036854775808) := by
  unfold skey sg neg
  by_cases h : u < 9223372036854775808
  · rw [if_pos h, if_neg (by simp; omega)]; omega
  · rw [if_neg h, if_pos (by simp; omega)]; omega
/-- A finite float's datum: the magnitude of its rung, in units of the least one. -/
theorem read_fin (u : Nat) (h : u % 9223372036854775808 < 9218868437227405312) :
    ∃ m e : Nat, F.read u = .number (neg u) m (-1074 + (e : Int)) ∧ m * 2 ^ e = mval (u % 9223372036854775808) := by
  rw [read_eq]
  by_cases h1 : u % 9223372036854775808 < 4503599627370496
  · exact ⟨u % 9223372036854775808, 0, by simp only [if_pos h1]; rfl, by unfold mval; rw [if_pos h1]; simp⟩
  · exact ⟨_, _, by simp only [if_neg h1, if_pos h]; rfl, by unfold mval; rw [if_neg h1]⟩
theorem read_inf (u : Nat) (h : u % 9223372036854775808 = 9218868437227405312) : F.read u = .infinity (neg u) := by
  rw [read_eq]
  simp only [h]; rfl
theorem read_nan (u : Nat) (h : isNan u = true) : ∃ t, F.read u = .nan (neg u) t := by
  have h' : u % 9223372036854775808 > 9218868437227405312 := by simpa [isNan] using h
  rw [read_eq]
  exact ⟨_, by simp only [if_neg (show ¬ u % 9223372036854775808 < 4503599627370496 by omega), if_neg (show ¬ u % 9223372036854775808 < 9218868437227405312 by omega), if_neg (show ¬ u % 9223372036854775808 = 9218868437227405312 by omega)]; rfl⟩

theorem cmp_eq_iff (a b : Int) : compare a b = .eq ↔ a = b := by
  simp only [compare, compareOfLessAndEq]
  split
  · constructor
    · intro h; cases h
    · intro h; omega
  · split <;> simp_all
theorem cmp_lt_iff (a b : Int) : compare a b = .lt ↔ a < b := by
  simp only [compare, compareOfLessAndEq]
  split
  · simp_all
  · split <;> simp_all
theorem cmp_gt_iff (a b : Int) : compare a b = .gt ↔ b < a := by
  simp only [compare, compareOfLessAndEq]
  split
  · constructor
    · intro h; cases h
    · intro h; omega
  · split
    · constructor
      · intro h; cases h
      · intro h; omega
    · constructor
      · intro _; omega
      · intro _; rfl
theorem sg_bound (s : Bool) (r : Nat) (h : r < 9218868437227405312) : sg s r < sg false 9218868437227405312 ∧ sg true 9218868437227405312 < sg s r := by
  simp only [sg, if_true, Bool.false_eq_true, if_false]
  cases s <;> simp <;> omega
/-- The order of two floats that are numbers. -/
theorem order_num (u v : Nat) (hu : u < 18446744073709551616) (hv : v < 18446744073709551616) (nu : isNan u = false) (nv : isNan v = false) :
    F.order u v = some (compare (skey u) (skey v)) := by
  have au : u % 9223372036854775808 ≤ 9218868437227405312 := by simpa [isNan] using nu
  have av : v % 9223372036854775808 ≤ 9218868437227405312 := by simpa [isNan] using nv
  rw [skey_sg u hu, skey_sg v hv]
  show (F.read u).order (F.read v) = _
  by_cases fu : u % 9223372036854775808 < 9218868437227405312
  · obtain ⟨m, e, ru, mu⟩ := read_fin u fu
    rw [ru]
    by_cases fv : v % 9223372036854775808 < 9218868437227405312
    · obtain ⟨n, f, rv, mv⟩ := read_fin v fv
      rw [rv]
      simp only [Ieee.Datum.order]
      rw [cmp_scale, mu, mv]
      exact congrArg some (cmp_congr (sg_lt mval_lt_iff (by decide) _ _ _ _) (sg_eq mval_lt_iff (by decide) _ _ _ _))
    · have rv := read_inf v (by omega)
      rw [rv]
      simp only [Ieee.Datum.order]
      have ev : v % 9223372036854775808 = 9218868437227405312 := by omega
      rw [ev]
      have hb := sg_bound (neg u) _ fu
      generalize sg (neg u) (u % 9223372036854775808) = q at *
      congr 1
      cases neg v
      · exact ((cmp_lt_iff _ _).mpr hb.1).symm
      · exact ((cmp_gt_iff _ _).mpr hb.2).symm
  · have ru := read_inf u (by omega)
    rw [ru]
    have eu : u % 9223372036854775808 = 9218868437227405312 := by omega
    rw [eu]
    by_cases fv : v % 9223372036854775808 < 9218868437227405312
    · obtain ⟨n, f, rv, mv⟩ := read_fin v fv
      rw [rv]
      simp only [Ieee.Datum.order]
      have hb := sg_bound (neg v) _ fv
      generalize sg (neg v) (v % 9223372036854775808) = q at *
      congr 1
      cases neg u
      · exact ((cmp_gt_iff _ _).mpr hb.1).symm
      · exact ((cmp_lt_iff _ _).mpr hb.2).symm
    · have rv := read_inf v (by omega)
      rw [rv]
      have ev : v % 9223372036854775808 = 9218868437227405312 := by omega
      rw [ev]
      simp only [Ieee.Datum.order]
      generalize neg u = s
      generalize neg v = t
      cases s <;> cases t <;> decide
theorem order_nan_l (u v : Nat) (h : isNan u = true) : F.order u v = none := by
  obtain ⟨t, hr⟩ := read_nan u h
  show (F.read u).order (F.read v) = _
  rw [hr]; rfl
theorem ne_self (u : Nat) (hu : u < 18446744073709551616) : (F.order u u != some Ordering.eq) = isNan u := by
  cases h : isNan u
  · rw [order_num u u hu hu h h, (cmp_eq_iff _ _).mpr rfl]; rfl
  · rw [order_nan_l u u h]; rfl
theorem eq_zero (u : Nat) (hu : u < 18446744073709551616) (h : isNan u = false) : (F.order u 0 == some Ordering.eq) = decide (u % 9223372036854775808 = 0) := by
  rw [order_num u 0 hu (by omega) h (by decide)]
  have e : compare (skey u) (skey 0) = .eq ↔ u % 9223372036854775808 = 0 := by
    rw [cmp_eq_iff, skey_sg u hu]
    show sg (neg u) _ = 0 ↔ _
    cases neg u <;> simp [sg] <;> omega
  by_cases q : u % 9223372036854775808 = 0
  · rw [e.mpr q]; simp [q]
  · simp only [q, decide_false]
    have : compare (skey u) (skey 0) ≠ .eq := fun h => q (e.mp h)
    cases hc : compare (skey u) (skey 0) <;> simp_all
/-- The bits by which a float is kept. -/
def kept (u : Nat) : Int := if isNan u = true then 9221120237041090560 else if u % 9223372036854775808 = 0 then 0 else wrap64 (u : Int)
/-- The bits that an int's are. -/
def ub (n : Int) : Nat := (IntKind.u64.wrap n).toNat
end Go.Proofs.YtmaciepkkianhaaDoor.M

namespace Go.Proofs.YtmaciepkkianhaaDoor.T
open Go.Lib

/-- An array of structs of two numbers each, that reads as these pairs, holds them. -/
theorem pairs_of_array {H : Type} {enc : TypeId × Value → H} {P : Program} {w : World} {base : Nat} {sp : Nat → Bool} {held : Bool} {fuel : Nat} {t e : TypeId} {n : Nat} {fs : Array Field} {k : IntKind} {cs : List Value} {zs : List (Nat × Nat)} {p : List MemPlace}
    (ht : P.underlying t = some (.array n e)) (he : P.underlying e = some (.struct fs)) (hf : ∀ (i : Nat) (f : Field), fs[i]? = some f → P.underlying f.type = some (.int k) ∧ f.offset = i ∧ P.cellsOf f.type = 1)
    (hfs : fs.size = 2) (hce : P.cellsOf e = 2)
    (h : DataW.trod enc P w base sp held fuel t cs = some (.agg (zs.map fun x => .agg [.lit (.int k x.1), .lit (.int k x.2)]), p)) (i : Nat) (x : Nat × Nat) (hx : zs[i]? = some x) :
    cs[2 * i]? = some (.int k x.1) ∧ cs[2 * i + 1]? = some (.int k x.2) := by
  obtain ⟨xs, m, rfl, hd, hl, hn, hall⟩ := DataW.trod_array ht h
  have hxs : xs.map (·.1) = zs.map fun x => (.agg [.lit (.int k x.1), .lit (.int k x.2)] : DataW H) := by
    have := congrArg Prod.fst hd
    simpa using this.symm
  have hi : i < zs.length := by
    rcases Nat.lt_or_ge i zs.length with h | h
    · exact h
    · rw [List.getElem?_eq_none h] at hx; cases hx
  have hzl : zs.length = n := by
    have := congrArg List.length hxs
    simp at this
    omega
  have h1 := hall i (by omega)
  obtain ⟨b, hb⟩ : ∃ b, xs[i]? = some b := ⟨xs[i]'(by omega), List.getElem?_eq_getElem (by omega)⟩
  have h2 : (xs.map (·.1))[i]? = some b.1 := by simp [hb]
  rw [hxs, List.getElem?_map, hx] at h2
  have hb1 : b.1 = .agg [.lit (.int k x.1), .lit (.int k x.2)] := (Option.some.inj h2).symm
  rw [hb, hce] at h1
  have h3 := ints_of_struct (enc := enc) (P := P) (w := w) (base := base) (sp := sp) (held := held) (zs := [(x.1 : Int), (x.2 : Int)]) (p := b.2) he hf (by rw [hce, hfs]) (by rw [h1]; exact congrArg some (Prod.ext hb1 rfl))
  constructor
  · have := congrArg (·[0]?) h3
    simpa [List.getElem?_take, List.getElem?_drop, Nat.mul_comm] using this
  · have := congrArg (·[1]?) h3
    simpa [List.getElem?_take, List.getElem?_drop, Nat.mul_comm] using this
/-- What a walk reads of such a variable. -/
theorem pairs_cell {P : Program} {w : World} {name : String} {g : Nat} {t e : TypeId} {n : Nat} {fs : Array Field} {k : IntKind} {zs : List (Nat × Nat)}
    (hg : P.globalNamed name = some g) (hty : (P.globals[g]?).map (·.type) = some t)
    (ht : P.underlying t = some (.array n e)) (he : P.underlying e = some (.struct fs)) (hf : ∀ (i : Nat) (f : Field), fs[i]? = some f → P.underlying f.type = some (.int k) ∧ f.offset = i ∧ P.cellsOf f.type = 1)
    (hfs : fs.size = 2) (hce : P.cellsOf e = 2)
    (h : VarReads P w name (.agg (zs.map fun x => .agg [.lit (.int k x.1), .lit (.int k x.2)]))) (i : Nat) (x : Nat × Nat) (hx : zs[i]? = some x) :
    w.cell? ⟨g, i * 2, none⟩ = some (.int k x.1) ∧ w.cell? ⟨g, i * 2 + 1, none⟩ = some (.int k x.2) := by
  obtain ⟨g', t', cs, fuel, p, hg', ht', hvar, hd⟩ := h
  obtain rfl := Option.some.inj (hg.symm.trans hg')
  obtain rfl := Option.some.inj (hty.symm.trans ht')
  obtain ⟨h1, h2⟩ := pairs_of_array ht he hf hfs hce hd i x hx
  rw [Nat.mul_comm] at h1 h2
  have r := World.var?_cell hg hvar
  constructor
  · rw [r]; simpa using h1
  · rw [r]; simpa using h2
/-- A table of numbers, wherever it stands on the list. -/
theorem tabIs_of_reads {P : Program} {W : World} {name : String} {k : IntKind} {zs : List Int} {g : Nat} {t e : TypeId} {n : Nat}
    (hg : P.globalNamed name = some g) (hty : (P.globals[g]?).map (·.type) = some t) (ht : P.underlying t = some (.array n e)) (he : P.underlying e = some (.int k)) (hce : P.cellsOf e = 1) (hct : P.cellsOf t = n)
    (h : VarReads P W name (tabData k zs)) : TabIs P W name k zs := by
  obtain ⟨g', t', cs, fuel, p, hg', ht', hvar, hd⟩ := h
  obtain rfl := Option.some.inj (hg.symm.trans hg')
  obtain rfl := Option.some.inj (hty.symm.trans ht')
  unfold TabIs
  rw [hvar, ← cells_of_tab ht he hce hct hd]
end Go.Proofs.YtmaciepkkianhaaDoor.T

namespace Go.Proofs.YtmaciepkkianhaaDoor.H
open Go.RowKit Go.Proofs Go.Proofs.YtmaciepkkianhaaDoorW.PrintWords Go.Proofs.YtmaciepkkianhaaDoorW.PrintLast

theorem ite_signed_u64 (a b : Int) : (if IntKind.u64.signed = true then a else b) = b := if_neg (by decide)
theorem ite_signed_u32 (a b : Int) : (if IntKind.u32.signed = true then a else b) = b := if_neg (by decide)

/-- What the library's tables hold. -/
structure Tabs (w : World) : Prop where
  max : ∃ m, w.cell? ⟨1, 0, none⟩ = some (.int .i64 m)
  tens : Lib.TabIs Tryd.prog w "internal/strconv.uint64pow10" .u64 Lib.pow10Tab
  pows : ∀ (i : Nat) (x : Nat × Nat), Go.Pinned.pow10Rows[i]? = some x → w.cell? ⟨6, i * 2, none⟩ = some (.int .u64 x.1) ∧ w.cell? ⟨6, i * 2 + 1, none⟩ = some (.int .u64 x.2)
theorem g_tens : Tryd.prog.globalNamed "internal/strconv.uint64pow10" = some 5 := by kernel_rfl
theorem Tabs.below {w W : World} (h : Tabs w) (hb : Below w.heap.size w W) : Tabs W := by
  obtain ⟨m, hm⟩ := h.max
  refine ⟨⟨m, pw_cell_below hb hm⟩, ?_, fun i x hx => ⟨pw_cell_below hb (h.pows i x hx).1, pw_cell_below hb (h.pows i x hx).2⟩⟩
  have hc := h.tens.cell g_tens 0 (by decide)
  exact var?_below hb g_tens (World.block_lt_of_cell? w _ hc) h.tens
theorem Tabs.drewN {w : World} (h : Tabs w) (n : Nat) : Tabs (w.drewN n) := ⟨h.max, h.tens, h.pows⟩
theorem run_f64bits (P : Program) {f : FuncId} {fn : Func} (hf : P.funcs[f]? = some fn) (hname : (fn.name == "runtime.NumGoroutine") = false)
    (hb : fn.body.isNone = true) (hn : Extern.findNext fn = none) (he : Extern.find fn = some Extern.MathFloatBits.float64bits) (b : Nat) (w : World) :
    (callFunc f #[.float .f64 b]).run P w = .ok (.value (.int .u64 b)) w := by
  rw [run_callFunc_extern hf hname hb hn he]
  rfl
theorem run_f64frombits (P : Program) {f : FuncId} {fn : Func} (hf : P.funcs[f]? = some fn) (hname : (fn.name == "runtime.NumGoroutine") = false)
    (hb : fn.body.isNone = true) (hn : Extern.findNext fn = none) (he : Extern.find fn = some Extern.MathFloatBits.float64frombits) (n : Int) (w : World) :
    (callFunc f #[.int .u64 n]).run P w = .ok (.value (.float .f64 n.toNat)) w := by
  rw [run_callFunc_extern hf hname hb hn he]
  rfl
theorem ext38 (b : Nat) (w : World) : (callFunc 38 #[.float .f64 b]).run Tryd.prog w = .ok (.value (.int .u64 b)) w :=
  run_f64bits Tryd.prog Tryd.func38 (by kernel_rfl) (by kernel_rfl) (by kernel_rfl) (by kernel_rfl) b w
theorem ext61 (b : Int) (w : World) : (callFunc 61 #[.int .u64 b]).run Tryd.prog w = .ok (.value (.float .f64 b.toNat)) w :=
  run_f64frombits Tryd.prog Tryd.func61 (by kernel_rfl) (by kernel_rfl) (by kernel_rfl) (by kernel_rfl) b w
theorem ext94 (b : Nat) (w : World) : (callFunc 94 #[.float .f64 b]).run Tryd.prog w = .ok (.value (.int .u64 b)) w :=
  run_f64bits Tryd.prog Tryd.func94 (by kernel_rfl) (by kernel_rfl) (by kernel_rfl) (by kernel_rfl) b w

/-- What the table holds. -/
def pw (i : Nat) : Nat × Nat := Go.Pinned.pow10Rows.getD i (0, 0)
def strconv_prescale.f (_s0 _s1 _s2 a1 a2 a3 : Int) : Option (Int × Int × Int) :=
  if -348 ≤ a2 ∧ a2 < 348 then some ((pw (a2 + 348).toNat).1, (pw (a2 + 348).toNat).2, wrap64 (-(wrap64 (wrap64 (a1 + a3) + 3)))) else none
theorem pows_len : Go.Pinned.pow10Rows.length = 696 := by kernel_rfl
theorem pw_at (i : Nat) (h : i < 696) : Go.Pinned.pow10Rows[i]? = some (pw i) := by
  unfold pw
  rw [List.getD_eq_getElem?_getD, List.getElem?_eq_getElem (by rw [pows_len]; exact h)]
  rfl
set_option maxHeartbeats 4000000 in
set_option maxRecDepth 100000 in
theorem strconv_prescale.calls (g : Nat) (s0 s1 s2 a1 a2 a3 r1 r2 r3 : Int) (w0 w : World)
    (hI : w.heap[g]? = some (.cells #[.int .u64 s0, .int .u64 s1, .int .i64 s2] 133 (0, 0)) ∧ w0.heap.size ≤ g) (hB : Below w0.heap.size w0 w) (hT : Tabs w) (h : strconv_prescale.f s0 s1 s2 a1 a2 a3 = some (r1, r2, r3)) :
    Calls Tryd.prog 117 #[.pointer (some ⟨g, 0, none⟩), .int .i64 a1, .int .i64 a2, .int .i64 a3] w fun e w' => e = .returned (.tuple #[]) ∧ (w'.heap[g]? = some (.cells #[.int .u64 r1, .int .u64 r2, .int .i64 r3] 133 (0, 0)) ∧ w0.heap.size ≤ g) ∧ Below w0.heap.size w0 w' ∧ KeepBut w w' g none := by
  unfold strconv_prescale.f at h
  split at h
  case isFalse => cases h
  rename_i hr
  simp only [Option.some.injEq, Prod.mk.injEq] at h
  obtain ⟨h1, h2, h3⟩ := h
  obtain ⟨i, hi⟩ : ∃ i : Nat, a2 = (i : Int) - 348 := ⟨(a2 + 348).toNat, by omega⟩
  have hi2 : i < 696 := by omega
  have hp := hT.pows i _ (pw_at i hi2)
  have ei : (a2 + 348).toNat = i := by omega
  rw [ei] at h1 h2
  rw [h1, h2] at hp
  obtain ⟨hp1, hp2⟩ := hp
  have H3 := Aside0.mk h3
  have HI := Aside0.mk hI
  have HT := Aside0.mk hT
  have HB := Aside0.mk hB
  have hcz0 : w.cell? ⟨g, 0, none⟩ = some (.int .u64 s0) := (blk_cell hI.1 0).trans rfl
  have hcz1 : w.cell? ⟨g, 1, none⟩ = some (.int .u64 s1) := (blk_cell hI.1 1).trans rfl
  have hcz2 : w.cell? ⟨g, 2, none⟩ = some (.int .i64 s2) := (blk_cell hI.1 2).trans rfl
  have hfz0 := blk_frozen hI.1 0
  have hfz1 := blk_frozen hI.1 1
  have hfz2 := blk_frozen hI.1 2
  subst hi
  clear hI hT hB h1 h2 h3 ei hr
  go_enter Tryd.func117, Tryd.ntmps117
  go_wp2
  go_end0
  rw [H3.out]
  refine ⟨rfl, ⟨?_, HI.out.2⟩, ?_, ?_⟩
  · refine blk_put (cs := #[.int .u64 r1, .int .u64 r2, .int .i64 s2]) ?_ 2 _ rfl
    refine blk_put (cs := #[.int .u64 r1, .int .u64 s1, .int .i64 s2]) ?_ 1 _ rfl
    exact blk_put (cs := #[.int .u64 s0, .int .u64 s1, .int .i64 s2]) HI.out.1 0 _ rfl
  · exact ((HB.out.setCell (p := ⟨g, 0, none⟩) HI.out.2 _).setCell (p := ⟨g, 1, none⟩) HI.out.2 _).setCell (p := ⟨g, 2, none⟩) HI.out.2 _
  · exact KeepBut.set_ (KeepBut.set_ (KeepBut.set_ (KeepBut.refl w g none) _ _) _ _) _ _
end Go.Proofs.YtmaciepkkianhaaDoor.H

namespace Go.Proofs.YtmaciepkkianhaaDoor.QFF
open Go.Proofs.YtmaciepkkianhaaDoor.H
attribute [local go_sem] ite_signed_u64 ite_signed_u32
open Go.RowKit Go.Proofs.YtmaciepkkianhaaDoorW.PrintWords Go.Proofs.YtmaciepkkianhaaDoorW.PrintLast Go.Proofs.YtmaciepkkianhaaDoorW.PrintMore
attribute [local go_sem] max2_int min2_int max_two min_two max_three min_three max_four min_four   -- for this text's walks alone
set_option linter.unusedVariables false
set_option linter.unusedSimpArgs false



def errW : Option Int → Value
  | none => .nilIface
  | some c => .iface 0 (.int .i64 c)
theorem errW_none : errW none = .nilIface := rfl
theorem errW_some (c : Int) : errW (some c) = .iface 0 (.int .i64 c) := rfl

-- the values' own types

end Go.Proofs.YtmaciepkkianhaaDoor.QFF

namespace Go.Proofs.YtmaciepkkianhaaDoor.QFF
open Go.Proofs.YtmaciepkkianhaaDoor.H
attribute [local go_sem] ite_signed_u64 ite_signed_u32
open Go.RowKit Go.Proofs.YtmaciepkkianhaaDoorW.PrintWords Go.Proofs.YtmaciepkkianhaaDoorW.PrintLast Go.Proofs.YtmaciepkkianhaaDoorW.PrintMore
attribute [local go_sem] max2_int min2_int max_two min_two max_three min_three max_four min_four   -- for this text's walks alone
set_option linter.unusedVariables false
set_option linter.unusedSimpArgs false

/-! ### bits_Mul64: function 137 -/
def bits_Mul64.f (a0 : Int) (a1 : Int) : Option (Int × Int) := some (IntKind.u64.wrap ((IntKind.u64.wrap ((IntKind.u64.wrap ((a0 / 4294967296) * (a1 / 4294967296))) + ((IntKind.u64.wrap ((IntKind.u64.wrap ((a0 / 4294967296) * (Go.bits .and .u64 a1 4294967295))) + ((IntKind.u64.wrap ((Go.bits .and .u64 a0 4294967295) * (Go.bits .and .u64 a1 4294967295))) / 4294967296))) / 4294967296))) + ((IntKind.u64.wrap ((Go.bits .and .u64 (IntKind.u64.wrap ((IntKind.u64.wrap ((a0 / 4294967296) * (Go.bits .and .u64 a1 4294967295))) + ((IntKind.u64.wrap ((Go.bits .and .u64 a0 4294967295) * (Go.bits .and .u64 a1 4294967295))) / 4294967296))) 4294967295) + (IntKind.u64.wrap ((Go.bits .and .u64 a0 4294967295) * (a1 / 4294967296))))) / 4294967296)), IntKind.u64.wrap (a0 * a1))
set_option maxHeartbeats 8000000 in
set_option maxRecDepth 100000 in
theorem bits_Mul64.calls (a0 : Int) (a1 : Int) (r1 : Int) (r2 : Int) (w : World) (h : bits_Mul64.f a0 a1 = some (r1, r2)) :
    Calls Tryd.prog 137 #[.int .u64 a0, .int .u64 a1] w fun e w' => e = .returned (.tuple #[.int .u64 r1, .int .u64 r2]) ∧ Drawn0 w w' := by
  have H : (some (IntKind.u64.wrap ((IntKind.u64.wrap ((IntKind.u64.wrap ((a0 / 4294967296) * (a1 / 4294967296))) + ((IntKind.u64.wrap ((IntKind.u64.wrap ((a0 / 4294967296) * (Go.bits .and .u64 a1 4294967295))) + ((IntKind.u64.wrap ((Go.bits .and .u64 a0 4294967295) * (Go.bits .and .u64 a1 4294967295))) / 4294967296))) / 4294967296))) + ((IntKind.u64.wrap ((Go.bits .and .u64 (IntKind.u64.wrap ((IntKind.u64.wrap ((a0 / 4294967296) * (Go.bits .and .u64 a1 4294967295))) + ((IntKind.u64.wrap ((Go.bits .and .u64 a0 4294967295) * (Go.bits .and .u64 a1 4294967295))) / 4294967296))) 4294967295) + (IntKind.u64.wrap ((Go.bits .and .u64 a0 4294967295) * (a1 / 4294967296))))) / 4294967296)), IntKind.u64.wrap (a0 * a1))) = some (r1, r2) := h
  clear h
  simp only [Option.some.injEq, Prod.mk.injEq] at H
  obtain ⟨rfl, rfl⟩ := H
  go_enter Tryd.func137, Tryd.ntmps137
  go_wp2
  go_ret2
  exact ⟨by first | rfl | (simp; done) | (simp [*]; done) | (generalize ByteArray.toList _ = l_; cases l_ <;> rfl), by repeat (first | exact Drawn0.refl _ | apply Drawn0.step)⟩

/-! ### strconv_bool2_uint64: function 138 -/
def strconv_bool2_uint64.f (a0 : Bool) : Option (Int) := if a0 = true then (some 1) else (some 0)
set_option maxHeartbeats 8000000 in
set_option maxRecDepth 100000 in
theorem strconv_bool2_uint64.calls (a0 : Bool) (r : Int) (w : World) (h : strconv_bool2_uint64.f a0 = some r) :
    Calls Tryd.prog 138 #[.bool a0] w fun e w' => e = .returned (.int .u64 r) ∧ Drawn0 w w' := by
  have H : (if a0 = true then (some 1) else (some 0)) = some r := h
  clear h
  by_cases c2 : a0 = true
  · subst c2
    have H1 : (some 1) = some r := by rw [if_pos rfl] at H; exact H
    clear H
    have H := H1
    clear H1
    obtain rfl := Option.some.inj H
    go_enter Tryd.func138, Tryd.ntmps138
    go_wp2
    go_ret
    exact ⟨by first | rfl | (simp; done) | (simp [*]; done) | (generalize ByteArray.toList _ = l_; cases l_ <;> rfl), by repeat (first | exact Drawn0.refl _ | apply Drawn0.step)⟩
  · replace c2 := Bool.eq_false_iff.mpr c2
    subst c2
    have H1 : (some 0) = some r := by rw [if_neg (show ¬ (false = true) by decide)] at H; exact H
    clear H
    have H := H1
    clear H1
    obtain rfl := Option.some.inj H
    go_enter Tryd.func138, Tryd.ntmps138
    go_wp2
    go_ret
    exact ⟨by first | rfl | (simp; done) | (simp [*]; done) | (generalize ByteArray.toList _ = l_; cases l_ <;> rfl), by repeat (first | exact Drawn0.refl _ | apply Drawn0.step)⟩

/-- A state of type 133 at block g of W; what its slices lead to came in by w0. -/
def IsS133 (w0 W : World) (g : Nat) (f0 : Int) (f1 : Int) (f2 : Int) : Prop := W.heap[g]? = some (.cells #[.int .u64 f0, .int .u64 f1, .int .i64 f2] 133 (0, 0)) ∧ w0.heap.size ≤ g
theorem IsS133.grown {w0 W : World} {g : Nat} {f0 : Int} {f1 : Int} {f2 : Int} {W1 : World} {row : Option Nat} (h : IsS133 w0 W g f0 f1 f2) (hw : W.grownBy W1 row) (hne : some g ≠ row) : IsS133 w0 W1 g f0 f1 f2 := by
  obtain ⟨hb, hg⟩ := h
  exact ⟨blk_grown hb hw hne, hg⟩
theorem IsS133.kept {w0 W : World} {g : Nat} {f0 : Int} {f1 : Int} {f2 : Int} {W1 : World} {S : Nat → Prop} (h : IsS133 w0 W g f0 f1 f2) (hk : Kept W W1 S) (hne : ¬ S g) : IsS133 w0 W1 g f0 f1 f2 := by
  obtain ⟨hb, hg⟩ := h
  exact ⟨blk_kept hb hk hne, hg⟩
theorem IsS133.below {w0 W : World} {g : Nat} {f0 : Int} {f1 : Int} {f2 : Int} {W1 : World} (h : IsS133 w0 W g f0 f1 f2) (hw : Below W.heap.size W W1) : IsS133 w0 W1 g f0 f1 f2 := h.grown (grown_of_below hw none) (by simp)
theorem IsS133.alloc {w0 W : World} {g : Nat} {f0 : Int} {f1 : Int} {f2 : Int} (h : IsS133 w0 W g f0 f1 f2) (o : Obj) : IsS133 w0 (W.alloc o) g f0 f1 f2 := h.below (below_alloc (Below.refl _ _) o)
theorem IsS133.drewN {w0 W : World} {g : Nat} {f0 : Int} {f1 : Int} {f2 : Int} (h : IsS133 w0 W g f0 f1 f2) (m : Nat) : IsS133 w0 (W.drewN m) g f0 f1 f2 := h
theorem IsS133.drew {w0 W : World} {g : Nat} {f0 : Int} {f1 : Int} {f2 : Int} (h : IsS133 w0 W g f0 f1 f2) : IsS133 w0 W.drew g f0 f1 f2 := h
theorem IsS133.apart {w0 W : World} {g : Nat} {f0 : Int} {f1 : Int} {f2 : Int} {α : Type} {d : Kd α} {e : Nat} {base : Nat} {ok : Nat → Prop} {v : Value} {xs : List α} (h : IsS133 w0 W g f0 f1 f2) (ho : d.R e W base ok v xs) (ht : ∀ q, q ∈ e :: d.E → q ≠ 133) : d.R e W base (fun k => ok k ∧ k ≠ g) v xs := by
  obtain ⟨hb, hg⟩ := h
  exact Kd.R_types ho hb ht
theorem IsS133.lt {w0 W : World} {g : Nat} {f0 : Int} {f1 : Int} {f2 : Int} (h : IsS133 w0 W g f0 f1 f2) : g < W.heap.size := by
  obtain ⟨hb, hg⟩ := h
  exact blk_lt hb
theorem IsS133.ge {w0 W : World} {g : Nat} {f0 : Int} {f1 : Int} {f2 : Int} (h : IsS133 w0 W g f0 f1 f2) : w0.heap.size ≤ g := by
  obtain ⟨hb, hg⟩ := h
  exact hg
theorem cellS133_0 {W : World} {g : Nat} {f0 : Int} {f1 : Int} {f2 : Int} (h : W.heap[g]? = some (.cells #[.int .u64 f0, .int .u64 f1, .int .i64 f2] 133 (0, 0))) : W.cell? ⟨g, 0, none⟩ = some (.int .u64 f0) := (blk_cell h 0).trans rfl
theorem IsS133.set_0 {w0 W : World} {g : Nat} {f0 : Int} {f1 : Int} {f2 : Int} (h : IsS133 w0 W g f0 f1 f2) (x : Int) : IsS133 w0 (W.setCell ⟨g, 0, none⟩ (.int .u64 x)) g x f1 f2 := by
  obtain ⟨hb, hg⟩ := h
  exact ⟨by simpa using blk_set hb 0 (.int .u64 x), hg⟩
theorem cellS133_1 {W : World} {g : Nat} {f0 : Int} {f1 : Int} {f2 : Int} (h : W.heap[g]? = some (.cells #[.int .u64 f0, .int .u64 f1, .int .i64 f2] 133 (0, 0))) : W.cell? ⟨g, 1, none⟩ = some (.int .u64 f1) := (blk_cell h 1).trans rfl
theorem IsS133.set_1 {w0 W : World} {g : Nat} {f0 : Int} {f1 : Int} {f2 : Int} (h : IsS133 w0 W g f0 f1 f2) (x : Int) : IsS133 w0 (W.setCell ⟨g, 1, none⟩ (.int .u64 x)) g f0 x f2 := by
  obtain ⟨hb, hg⟩ := h
  exact ⟨by simpa using blk_set hb 1 (.int .u64 x), hg⟩
theorem cellS133_2 {W : World} {g : Nat} {f0 : Int} {f1 : Int} {f2 : Int} (h : W.heap[g]? = some (.cells #[.int .u64 f0, .int .u64 f1, .int .i64 f2] 133 (0, 0))) : W.cell? ⟨g, 2, none⟩ = some (.int .i64 f2) := (blk_cell h 2).trans rfl
theorem IsS133.set_2 {w0 W : World} {g : Nat} {f0 : Int} {f1 : Int} {f2 : Int} (h : IsS133 w0 W g f0 f1 f2) (x : Int) : IsS133 w0 (W.setCell ⟨g, 2, none⟩ (.int .i64 x)) g f0 f1 x := by
  obtain ⟨hb, hg⟩ := h
  exact ⟨by simpa using blk_set hb 2 (.int .i64 x), hg⟩
theorem IsS133.new (w0 W : World) (f0 : Int) (f1 : Int) (f2 : Int) (hB : Below w0.heap.size w0 W) : IsS133 w0 (W.alloc (.cells #[.int .u64 f0, .int .u64 f1, .int .i64 f2] 133)) W.heap.size f0 f1 f2 := ⟨by simpa using heap_alloc_new W _, hB.size⟩

/-! ### strconv_uscale: function 119 -/
def strconv_uscale.f (a0 : Int) (s1_0 : Int) (s1_1 : Int) (s1_2 : Int) : Option (Int × Int × Int × Int) := (bits_Mul64.f a0 s1_0).bind fun bt101 => (if 0 ≤ (Go.bits .and .i64 s1_2 63) then (if (shl .u64 (shr .u64 bt101.1 (Go.bits .and .i64 s1_2 63)) (Go.bits .and .i64 s1_2 63)) = bt101.1 then ((bits_Mul64.f a0 s1_1).bind fun bt103 => ((strconv_bool2_uint64.f (decide (bt101.2 < bt103.1))).bind fun t105 => ((strconv_bool2_uint64.f (decide ((IntKind.u64.wrap (bt101.2 - bt103.1)) > 1))).bind fun t106 => (some (Go.bits .or .u64 (shr .u64 (IntKind.u64.wrap (bt101.1 - t105)) (Go.bits .and .i64 s1_2 63)) t106, s1_0, s1_1, s1_2))))) else (some (Go.bits .or .u64 (shr .u64 bt101.1 (Go.bits .and .i64 s1_2 63)) 1, s1_0, s1_1, s1_2))) else (none))
set_option maxHeartbeats 8000000 in
set_option maxRecDepth 100000 in
theorem strconv_uscale.calls (a0 : Int) (g : Nat) (s1_0 : Int) (s1_1 : Int) (s1_2 : Int) (r1 : Int) (r2 : Int) (r3 : Int) (r4 : Int) (w0 w : World) (hI : IsS133 w0 w g s1_0 s1_1 s1_2) (hB : Below w0.heap.size w0 w) (h : strconv_uscale.f a0 s1_0 s1_1 s1_2 = some (r1, r2, r3, r4)) :
    Calls Tryd.prog 119 #[.int .u64 a0, .pointer (some ⟨g, 0, none⟩)] w fun e w' => e = .returned (.int .u64 r1) ∧ IsS133 w0 w' g r2 r3 r4 ∧ Below w0.heap.size w0 w' ∧ KeepBut w w' g none := by
  have HI1 := Aside0.mk hI
  have HK := Aside0.mk (KeepBut.refl w g none)
  have HL := Aside0.mk hB.size
  clear hI
  have HW0 := Aside0.mk hB.size
  have HB := Aside0.mk hB
  clear hB
  have H : ((bits_Mul64.f a0 s1_0).bind fun bt101 => (if 0 ≤ (Go.bits .and .i64 s1_2 63) then (if (shl .u64 (shr .u64 bt101.1 (Go.bits .and .i64 s1_2 63)) (Go.bits .and .i64 s1_2 63)) = bt101.1 then ((bits_Mul64.f a0 s1_1).bind fun bt103 => ((strconv_bool2_uint64.f (decide (bt101.2 < bt103.1))).bind fun t105 => ((strconv_bool2_uint64.f (decide ((IntKind.u64.wrap (bt101.2 - bt103.1)) > 1))).bind fun t106 => (some (Go.bits .or .u64 (shr .u64 (IntKind.u64.wrap (bt101.1 - t105)) (Go.bits .and .i64 s1_2 63)) t106, s1_0, s1_1, s1_2))))) else (some (Go.bits .or .u64 (shr .u64 bt101.1 (Go.bits .and .i64 s1_2 63)) 1, s1_0, s1_1, s1_2))) else (none))) = some (r1, r2, r3, r4) := h
  clear h
  replace H := Option.bind_eq_some_iff.mp H
  obtain ⟨⟨t101, t102⟩, A30, H⟩ := H
  replace H : (if 0 ≤ (Go.bits .and .i64 s1_2 63) then (if (shl .u64 (shr .u64 t101 (Go.bits .and .i64 s1_2 63)) (Go.bits .and .i64 s1_2 63)) = t101 then ((bits_Mul64.f a0 s1_1).bind fun bt103 => ((strconv_bool2_uint64.f (decide (t102 < bt103.1))).bind fun t105 => ((strconv_bool2_uint64.f (decide ((IntKind.u64.wrap (t102 - bt103.1)) > 1))).bind fun t106 => (some (Go.bits .or .u64 (shr .u64 (IntKind.u64.wrap (t101 - t105)) (Go.bits .and .i64 s1_2 63)) t106, s1_0, s1_1, s1_2))))) else (some (Go.bits .or .u64 (shr .u64 t101 (Go.bits .and .i64 s1_2 63)) 1, s1_0, s1_1, s1_2))) else (none)) = some (r1, r2, r3, r4) := H
  have A3 := Aside0.mk A30
  clear A30
  by_cases c4 : 0 ≤ (Go.bits .and .i64 s1_2 63)
  · rw [if_pos c4] at H
    have c4b0 := eq_true c4
    have c4b1 : decide (0 ≤ (Go.bits .and .i64 s1_2 63)) = true := decide_eq_true c4
    clear c4
    obtain ⟨ji5, hji5⟩ : ∃ j_ : Int, (shr .u64 t101 (Go.bits .and .i64 s1_2 63)) = j_ := ⟨_, rfl⟩
    replace H : (if (shl .u64 (ji5) (Go.bits .and .i64 s1_2 63)) = t101 then ((bits_Mul64.f a0 s1_1).bind fun bt103 => ((strconv_bool2_uint64.f (decide (t102 < bt103.1))).bind fun t105 => ((strconv_bool2_uint64.f (decide ((IntKind.u64.wrap (t102 - bt103.1)) > 1))).bind fun t106 => (some (Go.bits .or .u64 (shr .u64 (IntKind.u64.wrap (t101 - t105)) (Go.bits .and .i64 s1_2 63)) t106, s1_0, s1_1, s1_2))))) else (some (Go.bits .or .u64 (ji5) 1, s1_0, s1_1, s1_2))) = some (r1, r2, r3, r4) := by first | (rw [hji5] at H; exact H) | (simp only [hji5] at H ⊢; exact H)
    (try rw [hji5] at A3)
    have hji5_ : (t101 / 2 ^ min (Go.bits .and .i64 s1_2 63).toNat 64) = ji5 := hji5
    have hji5z : (Go.bits .and .i64 s1_2 63) ≤ 64 → (t101 / 2 ^ (Go.bits .and .i64 s1_2 63).toNat) = ji5 := shr_small hji5
    have c6b0 := eq_true (of_decide_eq_true (by first | (with_reducible assumption) | assumption) : 0 ≤ (Go.bits .and .i64 s1_2 63))
    obtain ⟨ji7, hji7⟩ : ∃ j_ : Int, (shl .u64 (ji5) (Go.bits .and .i64 s1_2 63)) = j_ := ⟨_, rfl⟩
    replace H : (if (ji7) = t101 then ((bits_Mul64.f a0 s1_1).bind fun bt103 => ((strconv_bool2_uint64.f (decide (t102 < bt103.1))).bind fun t105 => ((strconv_bool2_uint64.f (decide ((IntKind.u64.wrap (t102 - bt103.1)) > 1))).bind fun t106 => (some (Go.bits .or .u64 (shr .u64 (IntKind.u64.wrap (t101 - t105)) (Go.bits .and .i64 s1_2 63)) t106, s1_0, s1_1, s1_2))))) else (some (Go.bits .or .u64 (ji5) 1, s1_0, s1_1, s1_2))) = some (r1, r2, r3, r4) := by first | (rw [hji7] at H; exact H) | (simp only [hji7] at H ⊢; exact H)
    (try rw [hji7] at A3)
    have hji7_ : (IntKind.u64.wrap ((ji5) * 2 ^ min (Go.bits .and .i64 s1_2 63).toNat 64)) = ji7 := hji7
    have hji7z : (Go.bits .and .i64 s1_2 63) ≤ 64 → (IntKind.u64.wrap ((ji5) * 2 ^ (Go.bits .and .i64 s1_2 63).toNat)) = ji7 := shl_small hji7
    by_cases c8 : (ji7) = t101
    · rw [if_pos c8] at H
      have c8b0 : ((ji7) == t101) = true := beq_iff_eq.mpr c8
      have c8b1 : ((ji7) != t101) = false := bne_eq_false_iff_eq.mpr c8
      clear c8
      replace H := Option.bind_eq_some_iff.mp H
      obtain ⟨⟨t103, t104⟩, A90, H⟩ := H
      replace H : ((strconv_bool2_uint64.f (decide (t102 < t103))).bind fun t105 => ((strconv_bool2_uint64.f (decide ((IntKind.u64.wrap (t102 - t103)) > 1))).bind fun t106 => (some (Go.bits .or .u64 (shr .u64 (IntKind.u64.wrap (t101 - t105)) (Go.bits .and .i64 s1_2 63)) t106, s1_0, s1_1, s1_2)))) = some (r1, r2, r3, r4) := H
      have A9 := Aside0.mk A90
      clear A90
      replace H := Option.bind_eq_some_iff.mp H
      obtain ⟨t105, A100, H⟩ := H
      replace H : ((strconv_bool2_uint64.f (decide ((IntKind.u64.wrap (t102 - t103)) > 1))).bind fun t106 => (some (Go.bits .or .u64 (shr .u64 (IntKind.u64.wrap (t101 - t105)) (Go.bits .and .i64 s1_2 63)) t106, s1_0, s1_1, s1_2))) = some (r1, r2, r3, r4) := H
      have A10 := Aside0.mk A100
      clear A100
      have c11b0 := eq_true (of_decide_eq_true (by first | (with_reducible assumption) | assumption) : 0 ≤ (Go.bits .and .i64 s1_2 63))
      obtain ⟨ji12, hji12⟩ : ∃ j_ : Int, (shr .u64 (IntKind.u64.wrap (t101 - t105)) (Go.bits .and .i64 s1_2 63)) = j_ := ⟨_, rfl⟩
      replace H : ((strconv_bool2_uint64.f (decide ((IntKind.u64.wrap (t102 - t103)) > 1))).bind fun t106 => (some (Go.bits .or .u64 (ji12) t106, s1_0, s1_1, s1_2))) = some (r1, r2, r3, r4) := by first | (rw [hji12] at H; exact H) | (simp only [hji12] at H ⊢; exact H)
      (try rw [hji12] at A3)
      (try rw [hji12] at A9)
      (try rw [hji12] at A10)
      have hji12_ : ((IntKind.u64.wrap (t101 - t105)) / 2 ^ min (Go.bits .and .i64 s1_2 63).toNat 64) = ji12 := hji12
      have hji12z : (Go.bits .and .i64 s1_2 63) ≤ 64 → ((IntKind.u64.wrap (t101 - t105)) / 2 ^ (Go.bits .and .i64 s1_2 63).toNat) = ji12 := shr_small hji12
      replace H := Option.bind_eq_some_iff.mp H
      obtain ⟨t106, A130, H⟩ := H
      replace H : (some (Go.bits .or .u64 (ji12) t106, s1_0, s1_1, s1_2)) = some (r1, r2, r3, r4) := H
      have A13 := Aside0.mk A130
      clear A130
      simp only [Option.some.injEq, Prod.mk.injEq] at H
      obtain ⟨rfl, rfl, rfl, rfl⟩ := H
      obtain ⟨HGz14, hgz14⟩ := HI1.out
      have hcz14_0 := cellS133_0 HGz14
      have hcz14_1 := cellS133_1 HGz14
      have hcz14_2 := cellS133_2 HGz14
      have hfz14_0 := blk_frozen HGz14 0
      have hfz14_1 := blk_frozen HGz14 1
      have hfz14_2 := blk_frozen HGz14 2
      clear HGz14 hgz14
      go_enter Tryd.func119, Tryd.ntmps119
      go_wp2_with (first | (go_at_call 137; (with_reducible refine (bits_Mul64.calls a0 s1_0 t101 t102 _ A3.out).mono ?_); rintro e w' ⟨rfl, ⟨nd, rfl⟩⟩; (try first | exact ⟨rfl, _, World.drewN_drewN _ _ _⟩ | exact ⟨rfl, _, Eq.trans (World.drewN_drewN _ _ _) (congrArg (World.drewN _) (Nat.add_assoc _ _ _))⟩)) | (go_at_call 137; (with_reducible refine (bits_Mul64.calls a0 s1_1 t103 t104 _ A9.out).mono ?_); rintro e w' ⟨rfl, ⟨nd, rfl⟩⟩; (try first | exact ⟨rfl, _, World.drewN_drewN _ _ _⟩ | exact ⟨rfl, _, Eq.trans (World.drewN_drewN _ _ _) (congrArg (World.drewN _) (Nat.add_assoc _ _ _))⟩)) | (go_at_call 138; (with_reducible refine (strconv_bool2_uint64.calls (decide (t102 < t103)) t105 _ A10.out).mono ?_); rintro e w' ⟨rfl, ⟨nd, rfl⟩⟩; (try first | exact ⟨rfl, _, World.drewN_drewN _ _ _⟩ | exact ⟨rfl, _, Eq.trans (World.drewN_drewN _ _ _) (congrArg (World.drewN _) (Nat.add_assoc _ _ _))⟩)) | (go_at_call 138; (with_reducible refine (strconv_bool2_uint64.calls (decide ((IntKind.u64.wrap (t102 - t103)) > 1)) t106 _ A13.out).mono ?_); rintro e w' ⟨rfl, ⟨nd, rfl⟩⟩; (try first | exact ⟨rfl, _, World.drewN_drewN _ _ _⟩ | exact ⟨rfl, _, Eq.trans (World.drewN_drewN _ _ _) (congrArg (World.drewN _) (Nat.add_assoc _ _ _))⟩)))
      repeat (go_quiet (first | (go_at_call 137; (with_reducible refine (bits_Mul64.calls a0 s1_0 t101 t102 _ A3.out).mono ?_); rintro e w' ⟨rfl, ⟨nd, rfl⟩⟩; (try first | exact ⟨rfl, _, World.drewN_drewN _ _ _⟩ | exact ⟨rfl, _, Eq.trans (World.drewN_drewN _ _ _) (congrArg (World.drewN _) (Nat.add_assoc _ _ _))⟩)) | (go_at_call 137; (with_reducible refine (bits_Mul64.calls a0 s1_1 t103 t104 _ A9.out).mono ?_); rintro e w' ⟨rfl, ⟨nd, rfl⟩⟩; (try first | exact ⟨rfl, _, World.drewN_drewN _ _ _⟩ | exact ⟨rfl, _, Eq.trans (World.drewN_drewN _ _ _) (congrArg (World.drewN _) (Nat.add_assoc _ _ _))⟩)) | (go_at_call 138; (with_reducible refine (strconv_bool2_uint64.calls (decide (t102 < t103)) t105 _ A10.out).mono ?_); rintro e w' ⟨rfl, ⟨nd, rfl⟩⟩; (try first | exact ⟨rfl, _, World.drewN_drewN _ _ _⟩ | exact ⟨rfl, _, Eq.trans (World.drewN_drewN _ _ _) (congrArg (World.drewN _) (Nat.add_assoc _ _ _))⟩)) | (go_at_call 138; (with_reducible refine (strconv_bool2_uint64.calls (decide ((IntKind.u64.wrap (t102 - t103)) > 1)) t106 _ A13.out).mono ?_); rintro e w' ⟨rfl, ⟨nd, rfl⟩⟩; (try first | exact ⟨rfl, _, World.drewN_drewN _ _ _⟩ | exact ⟨rfl, _, Eq.trans (World.drewN_drewN _ _ _) (congrArg (World.drewN _) (Nat.add_assoc _ _ _))⟩))); try go_wp2_with (first | (go_at_call 137; (with_reducible refine (bits_Mul64.calls a0 s1_0 t101 t102 _ A3.out).mono ?_); rintro e w' ⟨rfl, ⟨nd, rfl⟩⟩; (try first | exact ⟨rfl, _, World.drewN_drewN _ _ _⟩ | exact ⟨rfl, _, Eq.trans (World.drewN_drewN _ _ _) (congrArg (World.drewN _) (Nat.add_assoc _ _ _))⟩)) | (go_at_call 137; (with_reducible refine (bits_Mul64.calls a0 s1_1 t103 t104 _ A9.out).mono ?_); rintro e w' ⟨rfl, ⟨nd, rfl⟩⟩; (try first | exact ⟨rfl, _, World.drewN_drewN _ _ _⟩ | exact ⟨rfl, _, Eq.trans (World.drewN_drewN _ _ _) (congrArg (World.drewN _) (Nat.add_assoc _ _ _))⟩)) | (go_at_call 138; (with_reducible refine (strconv_bool2_uint64.calls (decide (t102 < t103)) t105 _ A10.out).mono ?_); rintro e w' ⟨rfl, ⟨nd, rfl⟩⟩; (try first | exact ⟨rfl, _, World.drewN_drewN _ _ _⟩ | exact ⟨rfl, _, Eq.trans (World.drewN_drewN _ _ _) (congrArg (World.drewN _) (Nat.add_assoc _ _ _))⟩)) | (go_at_call 138; (with_reducible refine (strconv_bool2_uint64.calls (decide ((IntKind.u64.wrap (t102 - t103)) > 1)) t106 _ A13.out).mono ?_); rintro e w' ⟨rfl, ⟨nd, rfl⟩⟩; (try first | exact ⟨rfl, _, World.drewN_drewN _ _ _⟩ | exact ⟨rfl, _, Eq.trans (World.drewN_drewN _ _ _) (congrArg (World.drewN _) (Nat.add_assoc _ _ _))⟩))))
      go_ret
      exact ⟨by first | rfl | (simp [errW_none, errW_some] <;> rfl) | (simp only [← hji5, ← hji7, ← hji12]; first | rfl | (simp [errW_none, errW_some] <;> rfl)) | (simp [*, errW_none, errW_some] <;> rfl), by repeat (first | (with_reducible first | exact HI1.out | apply IsS133.alloc | apply IsS133.drewN | apply IsS133.drew | apply IsS133.set_0 | apply IsS133.set_1 | apply IsS133.set_2) | exact HI1.out), by repeat (first | (with_reducible first | exact HB.out | apply below_alloc | apply pw_below_drewN | apply below_drew1 | refine below_set ?_ (IsS133.ge HI1.out)) | exact HB.out), by repeat (first | (with_reducible first | exact HK.out | apply KeepBut.set_ | apply keep_drewN | apply keep_drew | apply keep_alloc) | exact HK.out)⟩
    · rw [if_neg c8] at H
      have c8b0 : ((ji7) == t101) = false := beq_eq_false_iff_ne.mpr c8
      have c8b1 : ((ji7) != t101) = true := bne_iff_ne.mpr c8
      have c15b0 := eq_true (of_decide_eq_true (by first | (with_reducible assumption) | assumption) : 0 ≤ (Go.bits .and .i64 s1_2 63))
      simp only [Option.some.injEq, Prod.mk.injEq] at H
      obtain ⟨rfl, rfl, rfl, rfl⟩ := H
      obtain ⟨HGz17, hgz17⟩ := HI1.out
      have hcz17_0 := cellS133_0 HGz17
      have hcz17_1 := cellS133_1 HGz17
      have hcz17_2 := cellS133_2 HGz17
      have hfz17_0 := blk_frozen HGz17 0
      have hfz17_1 := blk_frozen HGz17 1
      have hfz17_2 := blk_frozen HGz17 2
      clear HGz17 hgz17
      go_enter Tryd.func119, Tryd.ntmps119
      go_wp2_with (first | (go_at_call 137; (with_reducible refine (bits_Mul64.calls a0 s1_0 t101 t102 _ A3.out).mono ?_); rintro e w' ⟨rfl, ⟨nd, rfl⟩⟩; (try first | exact ⟨rfl, _, World.drewN_drewN _ _ _⟩ | exact ⟨rfl, _, Eq.trans (World.drewN_drewN _ _ _) (congrArg (World.drewN _) (Nat.add_assoc _ _ _))⟩)))
      repeat (go_quiet (first | (go_at_call 137; (with_reducible refine (bits_Mul64.calls a0 s1_0 t101 t102 _ A3.out).mono ?_); rintro e w' ⟨rfl, ⟨nd, rfl⟩⟩; (try first | exact ⟨rfl, _, World.drewN_drewN _ _ _⟩ | exact ⟨rfl, _, Eq.trans (World.drewN_drewN _ _ _) (congrArg (World.drewN _) (Nat.add_assoc _ _ _))⟩))); try go_wp2_with (first | (go_at_call 137; (with_reducible refine (bits_Mul64.calls a0 s1_0 t101 t102 _ A3.out).mono ?_); rintro e w' ⟨rfl, ⟨nd, rfl⟩⟩; (try first | exact ⟨rfl, _, World.drewN_drewN _ _ _⟩ | exact ⟨rfl, _, Eq.trans (World.drewN_drewN _ _ _) (congrArg (World.drewN _) (Nat.add_assoc _ _ _))⟩))))
      go_ret
      exact ⟨by first | rfl | (simp [errW_none, errW_some] <;> rfl) | (simp only [← hji5, ← hji7]; first | rfl | (simp [errW_none, errW_some] <;> rfl)) | (simp [*, errW_none, errW_some] <;> rfl), by repeat (first | (with_reducible first | exact HI1.out | apply IsS133.alloc | apply IsS133.drewN | apply IsS133.drew | apply IsS133.set_0 | apply IsS133.set_1 | apply IsS133.set_2) | exact HI1.out), by repeat (first | (with_reducible first | exact HB.out | apply below_alloc | apply pw_below_drewN | apply below_drew1 | refine below_set ?_ (IsS133.ge HI1.out)) | exact HB.out), by repeat (first | (with_reducible first | exact HK.out | apply KeepBut.set_ | apply keep_drewN | apply keep_drew | apply keep_alloc) | exact HK.out)⟩
  · rw [if_neg c4] at H
    exact absurd H (by simp)

/-! ### strconv_skewed: function 116 -/
def strconv_skewed.f (a0 : Int) : Option (Int) := some ((wrap64 ((wrap64 (a0 * 631305)) - 261663)) / 2097152)
set_option maxHeartbeats 8000000 in
set_option maxRecDepth 100000 in
theorem strconv_skewed.calls (a0 : Int) (r : Int) (w : World) (h : strconv_skewed.f a0 = some r) :
    Calls Tryd.prog 116 #[.int .i64 a0] w fun e w' => e = .returned (.int .i64 r) ∧ Drawn0 w w' := by
  have H : (some ((wrap64 ((wrap64 (a0 * 631305)) - 261663)) / 2097152)) = some r := h
  clear h
  obtain rfl := Option.some.inj H
  go_enter Tryd.func116, Tryd.ntmps116
  go_wp2
  go_ret
  exact ⟨by first | rfl | (simp; done) | (simp [*]; done) | (generalize ByteArray.toList _ = l_; cases l_ <;> rfl), by repeat (first | exact Drawn0.refl _ | apply Drawn0.step)⟩

/-! ### strconv_log2Pow10: function 118 -/
def strconv_log2Pow10.f (a0 : Int) : Option (Int) := some ((wrap64 (a0 * 108853)) / 32768)
set_option maxHeartbeats 8000000 in
set_option maxRecDepth 100000 in
theorem strconv_log2Pow10.calls (a0 : Int) (r : Int) (w : World) (h : strconv_log2Pow10.f a0 = some r) :
    Calls Tryd.prog 118 #[.int .i64 a0] w fun e w' => e = .returned (.int .i64 r) ∧ Drawn0 w w' := by
  have H : (some ((wrap64 (a0 * 108853)) / 32768)) = some r := h
  clear h
  obtain rfl := Option.some.inj H
  go_enter Tryd.func118, Tryd.ntmps118
  go_wp2
  go_ret
  exact ⟨by first | rfl | (simp; done) | (simp [*]; done) | (generalize ByteArray.toList _ = l_; cases l_ <;> rfl), by repeat (first | exact Drawn0.refl _ | apply Drawn0.step)⟩

/-! ### strconv_unrounded_nudge: function 120 -/
def strconv_unrounded_nudge.f (a0 : Int) (a1 : Int) : Option (Int) := some (IntKind.u64.wrap (a0 + (IntKind.u64.wrap (a1))))
set_option maxHeartbeats 8000000 in
set_option maxRecDepth 100000 in
theorem strconv_unrounded_nudge.calls (a0 : Int) (a1 : Int) (r : Int) (w : World) (h : strconv_unrounded_nudge.f a0 a1 = some r) :
    Calls Tryd.prog 120 #[.int .u64 a0, .int .i64 a1] w fun e w' => e = .returned (.int .u64 r) ∧ Drawn0 w w' := by
  have H : (some (IntKind.u64.wrap (a0 + (IntKind.u64.wrap (a1))))) = some r := h
  clear h
  obtain rfl := Option.some.inj H
  go_enter Tryd.func120, Tryd.ntmps120
  go_wp2
  go_ret
  exact ⟨by first | rfl | (simp; done) | (simp [*]; done) | (generalize ByteArray.toList _ = l_; cases l_ <;> rfl), by repeat (first | exact Drawn0.refl _ | apply Drawn0.step)⟩

/-! ### strconv_unrounded_ceil: function 121 -/
def strconv_unrounded_ceil.f (a0 : Int) : Option (Int) := some ((IntKind.u64.wrap (a0 + 3)) / 4)
set_option maxHeartbeats 8000000 in
set_option maxRecDepth 100000 in
theorem strconv_unrounded_ceil.calls (a0 : Int) (r : Int) (w : World) (h : strconv_unrounded_ceil.f a0 = some r) :
    Calls Tryd.prog 121 #[.int .u64 a0] w fun e w' => e = .returned (.int .u64 r) ∧ Drawn0 w w' := by
  have H : (some ((IntKind.u64.wrap (a0 + 3)) / 4)) = some r := h
  clear h
  obtain rfl := Option.some.inj H
  go_enter Tryd.func121, Tryd.ntmps121
  go_wp2
  go_ret
  exact ⟨by first | rfl | (simp; done) | (simp [*]; done) | (generalize ByteArray.toList _ = l_; cases l_ <;> rfl), by repeat (first | exact Drawn0.refl _ | apply Drawn0.step)⟩

/-! ### strconv_unrounded_floor: function 122 -/
def strconv_unrounded_floor.f (a0 : Int) : Option (Int) := some ((IntKind.u64.wrap (a0 + 0)) / 4)
set_option maxHeartbeats 8000000 in
set_option maxRecDepth 100000 in
theorem strconv_unrounded_floor.calls (a0 : Int) (r : Int) (w : World) (h : strconv_unrounded_floor.f a0 = some r) :
    Calls Tryd.prog 122 #[.int .u64 a0] w fun e w' => e = .returned (.int .u64 r) ∧ Drawn0 w w' := by
  have H : (some ((IntKind.u64.wrap (a0 + 0)) / 4)) = some r := h
  clear h
  obtain rfl := Option.some.inj H
  go_enter Tryd.func122, Tryd.ntmps122
  go_wp2
  go_ret
  exact ⟨by first | rfl | (simp; done) | (simp [*]; done) | (generalize ByteArray.toList _ = l_; cases l_ <;> rfl), by repeat (first | exact Drawn0.refl _ | apply Drawn0.step)⟩

end Go.Proofs.YtmaciepkkianhaaDoor.QFF

namespace Go.Proofs
open Go.Shelf
def Tryd.laysM284_ren : Go.Shelf.Ren := ⟨fun | 284 => 101 | 129 => 98 | 317 => 102 | 318 => 125 | n => n, fun | 53 => 47 | 3 => 3 | 212 => 142 | 0 => 0 | 4 => 4 | 46 => 85 | 5 => 5 | 9 => 9 | n => n, fun | 17 => 5 | n => n⟩

theorem Tryd.laysM284 : Go.Proofs.LaysM.n284 Tryd.prog Tryd.laysM284_ren := {
  mixed := by kernel_rfl
  f129 := Tryd.func98.trans (congrArg some (by kernel_rfl))
  f284 := Tryd.func101.trans (congrArg some (by kernel_rfl))
  f317 := Tryd.func102.trans (congrArg some (by kernel_rfl))
  f318 := Tryd.func125.trans (congrArg some (by kernel_rfl))
  t0 := Tryd.underlying0
  a0 := Tryd.isAgg0
  z0 := Tryd.sizeOf0
  v0 := Tryd.zeroValue0
  t3 := Tryd.underlying3
  a3 := Tryd.isAgg3
  z3 := Tryd.sizeOf3
  v3 := Tryd.zeroValue3
  t4 := Tryd.underlying4
  a4 := Tryd.isAgg4
  z4 := Tryd.sizeOf4
  v4 := Tryd.zeroValue4
  t5 := Tryd.underlying5
  a5 := Tryd.isAgg5
  z5 := Tryd.sizeOf5
  v5 := Tryd.zeroValue5
  t9 := Tryd.underlying9
  a9 := Tryd.isAgg9
  z9 := Tryd.sizeOf9
  v9 := Tryd.zeroValue9
  t46 := Tryd.underlying85
  a46 := Tryd.isAgg85
  z46 := Tryd.sizeOf85
  v46 := Tryd.zeroValue85
  t53 := Tryd.underlying47
  a53 := Tryd.isAgg47
  z53 := Tryd.sizeOf47
  v53 := Tryd.zeroValue47
  t212 := Tryd.underlying142
  a212 := Tryd.isAgg142
  z212 := Tryd.sizeOf142
  v212 := Tryd.zeroValue142
  g17 := by kernel_rfl
  i0 := by kernel_rfl
  i3 := by kernel_rfl
  i4 := by kernel_rfl
  i5 := by kernel_rfl
  i9 := by kernel_rfl
  i46 := by kernel_rfl
  i53 := by kernel_rfl
  i212 := by kernel_rfl
  m17 := by kernel_rfl }

open Go.Lib in
theorem Tryd.internal_strconv_numDigits (u : Nat) (h1 : 1 ≤ u) (h2 : u < 18446744073709551616) (w : World) (htab : Lib.TabIs Tryd.prog w "internal/strconv.uint64pow10" .u64 Lib.pow10Tab) :
    Calls Tryd.prog 101 #[.int .u64 u] w fun e w' => e = .returned (.int .i64 (Lib.nDigits u)) ∧ w' = w := Any.internal_strconv_numDigits Tryd.laysM284 u h1 h2 w htab

def Tryd.lays285_ren : Go.Shelf.Ren := ⟨fun | 285 => 124 | n => n, fun | 37 => 65 | 53 => 47 | 3 => 3 | 4 => 4 | 51 => 62 | 9 => 9 | 5 => 5 | 0 => 0 | n => n, fun | n => n⟩

theorem Tryd.lays285 : Go.Proofs.Lays.n285 Tryd.prog Tryd.lays285_ren := {
  mixed := by kernel_rfl
  f285 := Tryd.func124.trans (congrArg some (by kernel_rfl))
  t0 := Tryd.underlying0
  a0 := Tryd.isAgg0
  z0 := Tryd.sizeOf0
  v0 := Tryd.zeroValue0
  t3 := Tryd.underlying3
  a3 := Tryd.isAgg3
  z3 := Tryd.sizeOf3
  v3 := Tryd.zeroValue3
  t4 := Tryd.underlying4
  a4 := Tryd.isAgg4
  z4 := Tryd.sizeOf4
  v4 := Tryd.zeroValue4
  t5 := Tryd.underlying5
  a5 := Tryd.isAgg5
  z5 := Tryd.sizeOf5
  v5 := Tryd.zeroValue5
  t9 := Tryd.underlying9
  a9 := Tryd.isAgg9
  z9 := Tryd.sizeOf9
  v9 := Tryd.zeroValue9
  t37 := Tryd.underlying65
  a37 := Tryd.isAgg65
  z37 := Tryd.sizeOf65
  v37 := Tryd.zeroValue65
  t51 := Tryd.underlying62
  a51 := Tryd.isAgg62
  z51 := Tryd.sizeOf62
  v51 := Tryd.zeroValue62
  t53 := Tryd.underlying47
  a53 := Tryd.isAgg47
  z53 := Tryd.sizeOf47
  v53 := Tryd.zeroValue47 }

open Go.RowKit Go.Sort Go.Lib in
theorem Tryd.internal_strconv_formatBase10 (blk off cap : Nat) (u : Nat) (d : Array UInt8) (w : World) (hH : Holds (fun (b : UInt8) => Value.int .u8 (b.toNat : Int)) w blk off d) (hu : u < 10 ^ d.size) (hu64 : u < 18446744073709551616) (hsz : d.size < 4611686018427387904) :
    Calls Tryd.prog 124 #[.slice (some ⟨blk, off, none⟩) d.size cap, .int .u64 u] w fun e w' =>
      e = .returned (.tuple #[]) ∧ ∃ (n v' : Nat) (dk : Array UInt8), w' = (putRow (fun (b : UInt8) => Value.int .u8 (b.toNat : Int)) w blk off dk).drewN n ∧ FmtInv d.size u 0 v' dk := Any.internal_strconv_formatBase10 Tryd.lays285 blk off cap u d w hH hu hu64 hsz

end Go.Proofs

namespace Go.Proofs.YtmaciepkkianhaaDoor.H
open Go.RowKit Go.Proofs Go.Proofs.YtmaciepkkianhaaDoorW.PrintWords Go.Proofs.YtmaciepkkianhaaDoorW.PrintLast Go.Proofs.YtmaciepkkianhaaDoorW.PrintMore Go.Proofs.YtmaciepkkianhaaDoor.QFF

theorem e_skew : strconv_skewed.f (-53) = some (-17) := by decide +kernel
theorem e_log : strconv_log2Pow10.f 17 = some 56 := by decide +kernel
theorem e_pre : strconv_prescale.f 0 0 0 (-64) 17 56 = some (12800000000000000000, 0, 5) := by decide +kernel
theorem e_min : strconv_uscale.f 9223372036854775296 12800000000000000000 0 5 = some (199999999999999989, 12800000000000000000, 0, 5) := by decide +kernel
theorem e_max : strconv_uscale.f 9223372036854776832 12800000000000000000 0 5 = some (200000000000000023, 12800000000000000000, 0, 5) := by decide +kernel
theorem e_ceil : strconv_unrounded_ceil.f 199999999999999989 = some 49999999999999998 := by decide +kernel
theorem e_floor : strconv_unrounded_floor.f 200000000000000023 = some 50000000000000005 := by decide +kernel
set_option maxHeartbeats 4000000 in
set_option maxRecDepth 100000 in
theorem shortFloat_c (w : World) (hT : Tabs w) : Calls Tryd.prog 107 #[.int .u64 9223372036854775808, .int .i64 (-64)] w fun e w' => e = .returned (.tuple #[.int .u64 5000000000000000, .int .i64 (-16)]) ∧ Below w.heap.size w w' := by
  have HT := Aside0.mk hT
  clear hT
  go_enter Tryd.func107, Tryd.ntmps107
  go_wp2_with (first | (go_at_call 116; (with_reducible refine (strconv_skewed.calls (-53) (-17) _ e_skew).mono ?_); rintro e w' ⟨rfl, ⟨nd, rfl⟩⟩) | (go_at_call 118; (with_reducible refine (strconv_log2Pow10.calls 17 56 _ e_log).mono ?_); rintro e w' ⟨rfl, ⟨nd2, rfl⟩⟩))
  have HI0 : IsS133 w (((w.drewN nd).alloc (.cells #[.int .u64 0, .int .u64 0, .int .i64 0] 133)).drewN nd2) w.heap.size 0 0 0 := IsS133.drewN (IsS133.new w (w.drewN nd) 0 0 0 (pw_below_drewN (Below.refl _ w) nd)) nd2
  have HB0 : Below w.heap.size w (((w.drewN nd).alloc (.cells #[.int .u64 0, .int .u64 0, .int .i64 0] 133)).drewN nd2) := pw_below_drewN (below_alloc (pw_below_drewN (Below.refl _ w) nd) _) nd2
  refine (strconv_prescale.calls w.heap.size 0 0 0 (-64) 17 56 12800000000000000000 0 5 w _ HI0 HB0 (HT.out.below HB0) e_pre).mono ?_
  rintro e W1 ⟨rfl, hI1, hB1, -⟩
  have HI := Aside0.mk (show IsS133 w W1 w.heap.size 12800000000000000000 0 5 from hI1)
  have HB := Aside0.mk hB1
  clear hI1 hB1 HI0 HB0
  go_wp2_with (first | (go_at_call 119; (with_reducible refine (strconv_uscale.calls _ w.heap.size _ _ _ _ _ _ _ w _ HI.out HB.out e_min).mono ?_); rintro e W2 ⟨rfl, hI2, hB2, -⟩))
  have HI3 := Aside0.mk (show IsS133 w W2 w.heap.size 12800000000000000000 0 5 from hI2)
  have HB3 := Aside0.mk hB2
  clear hI2 hB2
  refine (strconv_unrounded_nudge.calls _ _ 199999999999999989 _ ?_).mono ?_
  · decide +kernel
  rintro e W3 ⟨rfl, ⟨nd3, rfl⟩⟩
  go_wp2_with (first | (go_at_call 121; (with_reducible refine (strconv_unrounded_ceil.calls _ _ _ e_ceil).mono ?_); rintro e W3 ⟨rfl, ⟨nd4, rfl⟩⟩))
  refine (strconv_uscale.calls _ w.heap.size _ _ _ _ _ _ _ w _ (IsS133.drewN HI3.out _) (pw_below_drewN HB3.out _) e_max).mono ?_
  rintro e W5 ⟨rfl, -, hB5, -⟩
  have HB5 := Aside0.mk hB5
  clear hB5
  go_wp2_with fail
  refine (strconv_unrounded_nudge.calls _ _ 200000000000000023 _ ?_).mono ?_
  · decide +kernel
  rintro e W6 ⟨rfl, ⟨nd5, rfl⟩⟩
  go_wp2_with (first | (go_at_call 122; (with_reducible refine (strconv_unrounded_floor.calls _ _ _ e_floor).mono ?_); rintro e W3 ⟨rfl, ⟨nd6, rfl⟩⟩))
  go_ret2
  exact ⟨rfl, pw_below_drewN HB5.out _⟩
theorem mx10 : max (1 : Int) 0 = 1 := by decide
theorem mn10 : min (1 : Int) 0 = 0 := by decide
theorem mx01 : max (0 : Int) 1 = 1 := by decide
theorem mn11 : min (1 : Int) 1 = 1 := by decide
theorem mx00 : max (0 : Int) 0 = 0 := by decide
attribute [local go_sem] mx10 mn10 mx01 mn11 mx00
theorem info_u8 : (Tryd.prog.info? 5).map (fun i => (i.zero, i.size, i.bytes)) = some (some (.int .u8 0), 1, 1) := by kernel_rfl
set_option maxHeartbeats 8000000 in
set_option maxRecDepth 100000 in
theorem fmtEFG_c (w : World) (base D B : Nat) (hne : D ≠ B) (hD : w.ownsRow base 5 1 (.slice (some ⟨D, 0, none⟩) 0 24) 0 []) (hB : w.cell? ⟨B, 0, none⟩ = some (.int .u8 53)) :
    Calls Tryd.prog 97 #[.slice (some ⟨D, 0, none⟩) 0 24, .bool false, .slice (some ⟨B, 0, none⟩) 32 32, .int .i64 0, .int .i64 1, .int .i64 1, .int .u8 103, .bool true] w fun e w' =>
      e = .returned (.slice (some ⟨D, 0, none⟩) 3 24) ∧ w'.ownsRow base 5 1 (.slice (some ⟨D, 0, none⟩) 3 24) 3 [.int .u8 48, .int .u8 46, .int .u8 53] ∧ w.grownBy w' (some D) := by
  obtain ⟨i, hi, hz0, hz1, hz2⟩ := info_parts info_u8
  have HD := Aside0.mk hD
  have HBc := Aside0.mk hB
  have HN := Aside0.mk hne
  clear hD hB hne hz0 hz2
  go_enter Tryd.func97, Tryd.ntmps97
  go_wp2_with (first | (at_builtin; refine wpList_append_fits _ rfl _ _ _ rfl base 5 i 1 Tryd.underlying65 hi hz1 D _ 24 _ rfl (World.ownsRow.alloc HD.out _) _ _ _ [.int .u8 48] rfl rfl (cell_one_new _ _ _) (by simp [Value.oneCell']) (by omega) ?_))
  intro W1 hD1 hg1
  have HD1 := Aside0.mk hD1
  have HG1 := Aside0.mk hg1
  clear hD1 hg1
  go_wp2_with (first | (at_builtin; refine wpList_append_fits _ rfl _ _ _ rfl base 5 i 1 Tryd.underlying65 hi hz1 D _ 24 _ rfl (World.ownsRow.alloc HD1.out _) _ _ _ [.int .u8 46] rfl rfl (cell_one_new _ _ _) (by simp [Value.oneCell']) (by omega) ?_))
  intro W2 hD2 hg2
  have HD2 := Aside0.mk hD2
  have HG2 := Aside0.mk hg2
  clear hD2 hg2
  go_wp2
  refine wp_loop_rounds 1 ?_
  rw [rounds_succ]
  go_wp2
  refine wp_loop_rounds 2 ?_
  rw [rounds_succ]
  have hB2 : W2.cell? ⟨B, 0, none⟩ = some (.int .u8 53) := HG2.out.cell (World.grownBy.cell (World.grownBy_alloc _ _ none) (World.grownBy.cell HG1.out (World.grownBy.cell (World.grownBy_alloc _ _ none) HBc.out (by simp)) (by simpa using fun e => HN.out e.symm)) (by simp)) (by simpa using fun e => HN.out e.symm)
  go_wp2_with (first | (at_builtin; refine wpList_append_fits _ rfl _ _ _ rfl base 5 i 1 Tryd.underlying65 hi hz1 D _ 24 _ rfl (World.ownsRow.alloc HD2.out _) _ _ _ [.int .u8 53] rfl rfl (cell_one_new _ _ _) (by simp [Value.oneCell']) (by omega) ?_))
  intro W3 hD3 hg3
  have HD3 := Aside0.mk hD3
  have HG3 := Aside0.mk hg3
  clear hD3 hg3 hB2
  go_wp2
  rw [rounds_succ]
  go_wp2
  refine wp_loop_rounds 1 ?_
  rw [rounds_succ]
  go_wp2
  go_ret
  refine ⟨rfl, HD3.out, ?_⟩
  exact ((((((World.grownBy_alloc _ _ _).trans HG1.out).trans (World.grownBy_alloc _ _ _)).trans HG2.out).trans (World.grownBy_alloc _ _ _)).trans HG3.out)
abbrev encB : UInt8 → Value := fun b => Value.int .u8 (b.toNat : Int)
theorem grownBy_putRow (w : World) (B off : Nat) (d : Array UInt8) : w.grownBy (Go.Sort.putRow encB w B off d) (some B) := by
  refine ⟨rfl, rfl, rfl, ?_, fun k hk hne => ?_⟩
  · unfold Go.Sort.putRow Go.Sort.mapBlock; simp
  · unfold Go.Sort.putRow Go.Sort.mapBlock
    simp only [Array.getElem?_modify]
    rw [if_neg (fun e => hne (by rw [e]))]
theorem dg_c (t : Nat) (h : t < 16) : Lib.dg 5000000000000000 (15 - t) = if t = 0 then 53 else 48 := by
  have : t = 0 ∨ t = 1 ∨ t = 2 ∨ t = 3 ∨ t = 4 ∨ t = 5 ∨ t = 6 ∨ t = 7 ∨ t = 8 ∨ t = 9 ∨ t = 10 ∨ t = 11 ∨ t = 12 ∨ t = 13 ∨ t = 14 ∨ t = 15 := by omega
  rcases this with rfl | rfl | rfl | rfl | rfl | rfl | rfl | rfl | rfl | rfl | rfl | rfl | rfl | rfl | rfl | rfl <;> decide +kernel
set_option maxHeartbeats 8000000 in
set_option maxRecDepth 100000 in
theorem setDigits_c (w : World) (B : Nat) (hH : Go.Sort.Holds encB w B 0 (Array.replicate 16 0)) :
    Calls Tryd.prog 100 #[.slice (some ⟨B, 0, none⟩) 32 32, .int .u64 5000000000000000, .int .i64 (-16), .int .i64 16] w fun e w' =>
      e = .returned (.tuple #[.int .i64 0, .int .i64 1]) ∧ w'.cell? ⟨B, 0, none⟩ = some (.int .u8 53) ∧ w.grownBy w' (some B) := by
  have hfmt := Tryd.internal_strconv_formatBase10 B 0 32 5000000000000000 (Array.replicate 16 0) w hH (by rw [Array.size_replicate]; decide) (by decide) (by rw [Array.size_replicate]; decide)
  rw [Array.size_replicate] at hfmt
  have HH := Aside0.mk hH
  have HF := Aside0.mk hfmt
  clear hH hfmt
  go_enter Tryd.func100, Tryd.ntmps100
  go_wp2_with (first | (go_at_call 124; refine HF.out.mono ?_; rintro e W1 ⟨rfl, n, v', dk, rfl, hF⟩))
  have hg : w.grownBy ((Go.Sort.putRow encB w B 0 dk).drewN n) (some B) := let h := grownBy_putRow w B 0 dk; ⟨h.os, h.tape, h.output, h.size, h.block⟩
  have hcs : ∀ t, t < 16 → ((Go.Sort.putRow encB w B 0 dk).drewN n).cell? ⟨B, t, none⟩ = some (.int .u8 (if t = 0 then 53 else 48)) := fun t ht => by
    have h1 := Go.Sort.cell?_putRow encB w B 0 _ dk HH.out (by rw [hF.size, Array.size_replicate]) t (by rw [hF.size]; exact ht)
    rw [Nat.zero_add, hF.done t (by omega) ht, dg_c t ht] at h1
    rw [World.cell?_drewN, h1]
    split <;> rfl
  have HG := Aside0.mk hg
  have HC := Aside0.mk hcs
  clear hg hcs hF HF HH
  generalize (Go.Sort.putRow (fun b => Value.int IntKind.u8 (b.toNat : Int)) w B 0 dk).drewN n = W1 at HG HC ⊢
  go_loop [3] (fun v => ∃ k : Nat, 1 ≤ k ∧ k ≤ 16 ∧ v = .int .i64 k) (fun v => (intOf v).toNat)
  case atStart => exact ⟨16, by decide, by decide, rfl⟩
  case round =>
    obtain ⟨k, h1, h2, rfl⟩ := hrel
    by_cases hk : k = 1
    · subst hk
      have hc0 : W1.cell? ⟨B, 0, none⟩ = some (.int .u8 53) := HC.out 0 (by decide)
      go_wp2
      go_ret2
      exact ⟨rfl, HC.out 0 (by decide), HG.out⟩
    · obtain ⟨j, rfl⟩ : ∃ j, k = j + 2 := ⟨k - 2, by omega⟩
      have hc0 : W1.cell? ⟨B, j + 1, none⟩ = some (.int .u8 48) := (HC.out (j + 1) (by omega)).trans (by rw [if_neg (by omega)])
      clear hk
      go_wp2
      go_round
      case rel => exact ⟨j + 1, by omega, by omega, by go_num⟩
      case measure => simp [intOf]; omega
theorem lit_and : bits .and .u64 4602678819172646912 4503599627370495 = 0 := by decide +kernel
theorem lit_or : bits .or .u64 0 4503599627370496 = 4503599627370496 := by decide +kernel
theorem lit_exp : bits .and .i64 1022 2047 = 1022 := by decide +kernel
attribute [local go_sem] lit_and lit_or lit_exp
theorem holds32 {W : World} {B : Nat} (h : W.heap[B]? = some (.cells (Array.replicate 32 (.int .u8 0)) 108 (0, 0))) : Go.Sort.Holds encB W B 0 (Array.replicate 16 0) := fun j hj => by
  rw [Array.size_replicate] at hj
  rw [Nat.zero_add]
  refine ⟨(blk_cell h j).trans ?_, blk_frozen h j⟩
  rw [Array.getElem?_eq_getElem (by rw [Array.size_replicate]; omega), Array.getElem_replicate, getElem!_pos _ _ (by rw [Array.size_replicate]; exact hj), Array.getElem_replicate]
  rfl
set_option maxRecDepth 100000 in
theorem len64_c (w : World) : Calls Tryd.prog 98 #[.int .u64 4503599627370496] w fun e w' => e = .returned (.int .i64 53) ∧ w = w' := by
  go_enter Tryd.func98, Tryd.ntmps98
  go_wp2
  go_ret
  refine ⟨?_, rfl⟩
  kernel_rfl
theorem numDigits_c (w : World) (hT : Tabs w) : Calls Tryd.prog 101 #[.int .u64 5000000000000000] w fun e w' => e = .returned (.int .i64 16) ∧ w = w' := by
  refine (Tryd.internal_strconv_numDigits 5000000000000000 (by decide) (by decide) w hT.tens).mono ?_
  rintro e w' ⟨rfl, rfl⟩
  refine ⟨?_, rfl⟩
  kernel_rfl
set_option maxHeartbeats 8000000 in
set_option maxRecDepth 100000 in
theorem ftoa64_c (w : World) (base D : Nat) (hD : w.ownsRow base 5 1 (.slice (some ⟨D, 0, none⟩) 0 24) 0 []) (hT : Tabs w) :
    Calls Tryd.prog 86 #[.slice (some ⟨D, 0, none⟩) 0 24, .float .f64 4602678819172646912, .int .u8 103, .int .i64 (-1)] w fun e w' =>
      e = .returned (.slice (some ⟨D, 0, none⟩) 3 24) ∧ w'.ownsRow base 5 1 (.slice (some ⟨D, 0, none⟩) 3 24) 3 [.int .u8 48, .int .u8 46, .int .u8 53] ∧ w.grownBy w' (some D) := by
  have HD := Aside0.mk hD
  have HT := Aside0.mk hT
  have hx := ext94
  clear hD hT
  go_enter Tryd.func86, Tryd.ntmps86
  go_wp2_with (first | (go_at_call 98; (with_reducible refine (len64_c _).mono ?_); rintro e w' ⟨rfl, rfl⟩))
  go_quiet (fail)
  go_wp2_with (first | (go_at_call 98; (with_reducible refine (len64_c _).mono ?_); rintro e w' ⟨rfl, rfl⟩))
  have hB0 : Below w.heap.size w ((w.drewN nq).alloc (.cells (Array.replicate 32 (.int .u8 0)) 108)) := below_alloc (pw_below_drewN (Below.refl _ w) nq) _
  have hz : #[Value.int .u8 0, .int .u8 0, .int .u8 0, .int .u8 0, .int .u8 0, .int .u8 0, .int .u8 0, .int .u8 0, .int .u8 0, .int .u8 0, .int .u8 0, .int .u8 0, .int .u8 0, .int .u8 0, .int .u8 0, .int .u8 0, .int .u8 0, .int .u8 0, .int .u8 0, .int .u8 0, .int .u8 0, .int .u8 0, .int .u8 0, .int .u8 0, .int .u8 0, .int .u8 0, .int .u8 0, .int .u8 0, .int .u8 0, .int .u8 0, .int .u8 0, .int .u8 0] = Array.replicate 32 (.int .u8 0) := by rfl
  rw [hz]
  have hT0 := HT.out.below hB0
  refine (shortFloat_c _ hT0).mono ?_
  rintro e W1 ⟨rfl, hB1⟩
  have hblk : W1.heap[w.heap.size]? = some (.cells (Array.replicate 32 (.int .u8 0)) 108 (0, 0)) := by
    rw [hB1.block w.heap.size (by simp [World.alloc])]
    exact heap_alloc_new (w.drewN nq) _
  have HB1 := Aside0.mk (show Below w.heap.size w W1 from hB0.trans (hB1.mono (by simp [World.alloc])))
  have HT1 := Aside0.mk (HT.out.below HB1.out)
  have HK := Aside0.mk hblk
  clear hB0 hT0 hB1 hblk hz
  go_wp2_with (first | (go_at_call 101; (with_reducible refine (numDigits_c _ HT1.out).mono ?_); rintro e w' ⟨rfl, rfl⟩))
  have hd1 : Tabs W1.drew := ⟨HT1.out.max, HT1.out.tens, HT1.out.pows⟩
  have HT2 := Aside0.mk hd1
  have HK2 := Aside0.mk (holds32 (show W1.drew.heap[w.heap.size]? = _ from HK.out))
  clear hd1
  go_region_with (first | (go_at_call 101; (with_reducible refine (numDigits_c _ HT2.out).mono ?_); rintro e w' ⟨rfl, rfl⟩) | (go_at_call 100; (with_reducible refine (setDigits_c _ _ HK2.out).mono ?_); rintro e W2 ⟨rfl, hc2, hg2⟩))
  have hgw : w.grownBy W1.drew none := let h := grown_of_below HB1.out none; ⟨h.os, h.tape, h.output, h.size, h.block⟩
  have HD2 := Aside0.mk ((HD.out.kept hgw (.inr (by simp [Value.ownBlock]))).kept hg2 (.inr (by
    obtain ⟨-, h⟩ := HD.out.lt D rfl
    intro e
    have e2 : D = w.heap.size := Option.some.inj e
    omega)))
  have HG2 := Aside0.mk (show w.grownBy W2 none from hgw.andThen hg2 (fun j hj => .inl (by injection hj with hj; omega)))
  have HC2 := Aside0.mk hc2
  have HN := Aside0.mk (show D ≠ w.heap.size from fun e => by have := (HD.out.lt D rfl).2; omega)
  clear hgw hg2 hc2 HK HK2 HT2
  go_wp2_with fail
  refine (fmtEFG_c W2 base D w.heap.size HN.out HD2.out HC2.out).mono ?_
  rintro e W3 ⟨rfl, hD3, hg3⟩
  have HD3 := Aside0.mk hD3
  have HG3 := Aside0.mk hg3
  clear hD3 hg3
  go_wp2
  go_ret
  exact ⟨rfl, HD3.out, (HG2.out.but (some D)).trans HG3.out⟩
end Go.Proofs.YtmaciepkkianhaaDoor.H

namespace Go.Proofs.YtmaciepkkianhaaDoor.H
open Go.RowKit Go.Proofs Go.Proofs.YtmaciepkkianhaaDoorW.PrintWords Go.Proofs.YtmaciepkkianhaaDoorW.PrintLast Go.Proofs.YtmaciepkkianhaaDoorW.PrintMore Go.Proofs.YtmaciepkkianhaaDoor.QFF

theorem mx324 : max (3 : Int) 24 = 24 := by decide
attribute [local go_sem] mx324
theorem owns24 (w : World) : (w.alloc (.cells (Array.replicate 24 (.int .u8 0)) 5)).ownsRow w.heap.size 5 1 (.slice (some ⟨w.heap.size, 0, none⟩) 0 24) 0 [] :=
  ⟨rfl, .inr ⟨w.heap.size, 24, _, rfl, Nat.le_refl _, heap_alloc_new w _, by decide, by decide, by rw [Array.size_replicate], rfl⟩⟩
set_option maxHeartbeats 8000000 in
set_option maxRecDepth 100000 in
theorem iff_c (w : World) (hT : Tabs w) :
    Calls Tryd.prog 77 #[.float .f64 4602678819172646912, .int .u8 103, .int .i64 (-1), .int .i64 64] w fun e w' => e = .returned (.string ⟨#[48, 46, 53]⟩) ∧ Below w.heap.size w w' := by
  have HT := Aside0.mk hT
  clear hT
  have hmk : ∀ w, (Instr.makeSlice 65 (.int .i64 0) (.int .i64 24)).run Tryd.prog w = .ok (.slice (some ⟨w.heap.size, 0, none⟩) 0 24) (w.alloc (.cells (Array.replicate 24 (.int .u8 0)) 5)) := fun _ => by kernel_rfl
  go_enter Tryd.func77, Tryd.ntmps77
  go_wp2_with fail
  refine (ftoa64_c _ w.heap.size w.heap.size (owns24 w) (HT.out.below (below_alloc (Below.refl _ w) _))).mono ?_
  rintro e W1 ⟨rfl, hD, hg⟩
  have hb : Below w.heap.size w W1 := by
    have h1 : Below w.heap.size w (w.alloc (.cells (Array.replicate 24 (.int .u8 0)) 5)) := below_alloc (Below.refl _ w) _
    exact ⟨hg.os.trans h1.os, hg.tape.trans h1.tape, hg.output.trans h1.output, Nat.le_trans h1.size hg.size, fun k hk => (hg.block k (Nat.lt_of_lt_of_le hk h1.size) (by intro e; have e2 : k = w.heap.size := Option.some.inj e; omega)).trans (h1.block k hk)⟩
  have hcv : (convert 65 9 (.slice (some ⟨w.heap.size, 0, none⟩) 3 24)).run Tryd.prog W1 = .ok (.string ⟨#[48, 46, 53]⟩) W1 := by
    have h := run_convert_bytes_back (P := Tryd.prog) W1 65 9 5 ⟨w.heap.size, 0, none⟩ 24 [48, 46, 53] Tryd.underlying65 Tryd.underlying5 Tryd.underlying9 (fun j hj => by
      have hj' : j < 3 := hj
      have h := hD.cellAt j (by omega)
      rw [Lib.add_plain, Nat.zero_add, h]
      match j, hj' with
      | 0, _ => rfl
      | 1, _ => rfl
      | 2, _ => rfl)
    exact h
  have HB := Aside0.mk hb
  clear hD hg hb
  go_wp2
  go_ret
  exact ⟨rfl, HB.out⟩
theorem ff_c (w : World) (hT : Tabs w) :
    Calls Tryd.prog 71 #[.float .f64 4602678819172646912, .int .u8 103, .int .i64 (-1), .int .i64 64] w fun e w' => e = .returned (.string ⟨#[48, 46, 53]⟩) ∧ Below w.heap.size w w' := by
  have HT := Aside0.mk hT
  clear hT
  go_enter Tryd.func71, Tryd.ntmps71
  go_wp2_with (first | (go_at_call 77; (with_reducible refine (iff_c _ HT.out).mono ?_); rintro e w' ⟨rfl, hb⟩))
  go_ret
  exact ⟨rfl, hb⟩
/-- strconv.FormatFloat, of one half alone. -/
def strconv_FormatFloat.f (a0 : Nat) (a1 a2 a3 : Int) : Option ByteArray := if a0 = 4602678819172646912 ∧ a1 = 103 ∧ a2 = -1 ∧ a3 = 64 then some ⟨#[48, 46, 53]⟩ else none
theorem strconv_FormatFloat.calls (a0 : Nat) (a1 a2 a3 : Int) (r : ByteArray) (w : World) (hT : Tabs w) (h : strconv_FormatFloat.f a0 a1 a2 a3 = some r) :
    Calls Tryd.prog 71 #[.float .f64 a0, .int .u8 a1, .int .i64 a2, .int .i64 a3] w fun e w' => e = .returned (.string r) ∧ Below w.heap.size w w' := by
  unfold strconv_FormatFloat.f at h
  split at h
  · rename_i hc
    obtain ⟨rfl, rfl, rfl, rfl⟩ := hc
    obtain rfl := Option.some.inj h
    exact ff_c w hT
  · cases h
end Go.Proofs.YtmaciepkkianhaaDoor.H

namespace Go.Proofs.YtmaciepkkianhaaDoor.QReal
open Go.Proofs.YtmaciepkkianhaaDoor.H
attribute [local go_sem] ite_signed_u64 ite_signed_u32
open Go.RowKit Go.Proofs.YtmaciepkkianhaaDoorW.PrintWords Go.Proofs.YtmaciepkkianhaaDoorW.PrintLast Go.Proofs.YtmaciepkkianhaaDoorW.PrintMore
attribute [local go_sem] max2_int min2_int max_two min_two max_three min_three max_four min_four   -- for this text's walks alone
set_option linter.unusedVariables false
set_option linter.unusedSimpArgs false



def errW : Option Int → Value
  | none => .nilIface
  | some c => .iface 0 (.int .i64 c)
theorem errW_none : errW none = .nilIface := rfl
theorem errW_some (c : Int) : errW (some c) = .iface 0 (.int .i64 c) := rfl

-- the values' own types

end Go.Proofs.YtmaciepkkianhaaDoor.QReal

namespace Go.Proofs.YtmaciepkkianhaaDoor.QReal
open Go.Proofs.YtmaciepkkianhaaDoor.H
attribute [local go_sem] ite_signed_u64 ite_signed_u32
open Go.RowKit Go.Proofs.YtmaciepkkianhaaDoorW.PrintWords Go.Proofs.YtmaciepkkianhaaDoorW.PrintLast Go.Proofs.YtmaciepkkianhaaDoorW.PrintMore
attribute [local go_sem] max2_int min2_int max_two min_two max_three min_three max_four min_four   -- for this text's walks alone
set_option linter.unusedVariables false
set_option linter.unusedSimpArgs false

/-! ### real_Canon: function 35 -/
def real_Canon.f (a0 : Nat) : Option (Int) := if (FloatKind.f64.format.order a0 a0 != some Ordering.eq) = true then (some 9221120237041090560) else (if (FloatKind.f64.format.order a0 0 == some Ordering.eq) = true then (some 0) else (some (wrap64 ((a0 : Int)))))
set_option maxHeartbeats 8000000 in
set_option maxRecDepth 100000 in
theorem real_Canon.calls (a0 : Nat) (r : Int) (w : World) (h : real_Canon.f a0 = some r) :
    Calls Tryd.prog 35 #[.float .f64 a0] w fun e w' => e = .returned (.int .i64 r) ∧ Drawn0 w w' := by
  have hx38 := ext38
  have H : (if (FloatKind.f64.format.order a0 a0 != some Ordering.eq) = true then (some 9221120237041090560) else (if (FloatKind.f64.format.order a0 0 == some Ordering.eq) = true then (some 0) else (some (wrap64 ((a0 : Int)))))) = some r := h
  clear h
  by_cases c2 : (FloatKind.f64.format.order a0 a0 != some Ordering.eq) = true
  · rw [if_pos c2] at H
    have c2b0 : (FloatKind.f64.format.order a0 a0 != some Ordering.eq) = true := c2
    clear c2
    obtain rfl := Option.some.inj H
    go_enter Tryd.func35, Tryd.ntmps35
    go_wp2
    go_ret
    exact ⟨by first | rfl | (simp; done) | (simp [*]; done) | (generalize ByteArray.toList _ = l_; cases l_ <;> rfl), by repeat (first | exact Drawn0.refl _ | apply Drawn0.step)⟩
  · rw [if_neg c2] at H
    have c2b0 : (FloatKind.f64.format.order a0 a0 != some Ordering.eq) = false := Bool.eq_false_iff.mpr c2
    clear c2
    by_cases c3 : (FloatKind.f64.format.order a0 0 == some Ordering.eq) = true
    · rw [if_pos c3] at H
      have c3b0 : (FloatKind.f64.format.order a0 0 == some Ordering.eq) = true := c3
      clear c3
      obtain rfl := Option.some.inj H
      go_enter Tryd.func35, Tryd.ntmps35
      go_wp2
      go_ret
      exact ⟨by first | rfl | (simp; done) | (simp [*]; done) | (generalize ByteArray.toList _ = l_; cases l_ <;> rfl), by repeat (first | exact Drawn0.refl _ | apply Drawn0.step)⟩
    · rw [if_neg c3] at H
      have c3b0 : (FloatKind.f64.format.order a0 0 == some Ordering.eq) = false := Bool.eq_false_iff.mpr c3
      clear c3
      obtain rfl := Option.some.inj H
      go_enter Tryd.func35, Tryd.ntmps35
      go_wp2
      go_ret
      exact ⟨by first | rfl | (simp; done) | (simp [*]; done) | (generalize ByteArray.toList _ = l_; cases l_ <;> rfl), by repeat (first | exact Drawn0.refl _ | apply Drawn0.step)⟩

/-! ### real_Of: function 37 -/
def real_Of.f (a0 : Int) : Option (Nat) := some ((IntKind.u64.wrap (a0)).toNat)
set_option maxHeartbeats 8000000 in
set_option maxRecDepth 100000 in
theorem real_Of.calls (a0 : Int) (r : Nat) (w : World) (h : real_Of.f a0 = some r) :
    Calls Tryd.prog 37 #[.int .i64 a0] w fun e w' => e = .returned (.float .f64 r) ∧ Drawn0 w w' := by
  have hx61 := ext61
  have H : (some ((IntKind.u64.wrap (a0)).toNat)) = some r := h
  clear h
  obtain rfl := Option.some.inj H
  go_enter Tryd.func37, Tryd.ntmps37
  go_wp2
  go_ret
  exact ⟨by first | rfl | (simp; done) | (simp [*]; done) | (generalize ByteArray.toList _ = l_; cases l_ <;> rfl), by repeat (first | exact Drawn0.refl _ | apply Drawn0.step)⟩

/-! ### real_Key: function 42 -/
def real_Key.f (a0 : Int) : Option (Int) := (real_Of.f a0).bind fun t101 => ((real_Canon.f t101).bind fun t102 => (if (Go.bits .and .u64 (IntKind.u64.wrap (t102)) 9223372036854775808) = 0 then (some (Go.bits .or .u64 (IntKind.u64.wrap (t102)) 9223372036854775808)) else (some (Go.bits .xor .u64 IntKind.u64.max (IntKind.u64.wrap (t102))))))
set_option maxHeartbeats 8000000 in
set_option maxRecDepth 100000 in
theorem real_Key.calls (a0 : Int) (r : Int) (w : World) (h : real_Key.f a0 = some r) :
    Calls Tryd.prog 42 #[.int .i64 a0] w fun e w' => e = .returned (.int .u64 r) ∧ Drawn0 w w' := by
  have H : ((real_Of.f a0).bind fun t101 => ((real_Canon.f t101).bind fun t102 => (if (Go.bits .and .u64 (IntKind.u64.wrap (t102)) 9223372036854775808) = 0 then (some (Go.bits .or .u64 (IntKind.u64.wrap (t102)) 9223372036854775808)) else (some (Go.bits .xor .u64 IntKind.u64.max (IntKind.u64.wrap (t102))))))) = some r := h
  clear h
  replace H := Option.bind_eq_some_iff.mp H
  obtain ⟨t101, A20, H⟩ := H
  replace H : ((real_Canon.f t101).bind fun t102 => (if (Go.bits .and .u64 (IntKind.u64.wrap (t102)) 9223372036854775808) = 0 then (some (Go.bits .or .u64 (IntKind.u64.wrap (t102)) 9223372036854775808)) else (some (Go.bits .xor .u64 IntKind.u64.max (IntKind.u64.wrap (t102)))))) = some r := H
  have A2 := Aside0.mk A20
  clear A20
  replace H := Option.bind_eq_some_iff.mp H
  obtain ⟨t102, A30, H⟩ := H
  replace H : (if (Go.bits .and .u64 (IntKind.u64.wrap (t102)) 9223372036854775808) = 0 then (some (Go.bits .or .u64 (IntKind.u64.wrap (t102)) 9223372036854775808)) else (some (Go.bits .xor .u64 IntKind.u64.max (IntKind.u64.wrap (t102))))) = some r := H
  have A3 := Aside0.mk A30
  clear A30
  by_cases c4 : (Go.bits .and .u64 (IntKind.u64.wrap (t102)) 9223372036854775808) = 0
  · rw [if_pos c4] at H
    have c4b0 : ((Go.bits .and .u64 (IntKind.u64.wrap (t102)) 9223372036854775808) == 0) = true := beq_iff_eq.mpr c4
    have c4b1 : ((Go.bits .and .u64 (IntKind.u64.wrap (t102)) 9223372036854775808) != 0) = false := bne_eq_false_iff_eq.mpr c4
    clear c4
    obtain rfl := Option.some.inj H
    go_enter Tryd.func42, Tryd.ntmps42
    go_wp2_with (first | ((with_reducible refine gate_callee (f := 37) rfl ?_); refine goesL_ (some 5) rfl rfl Tryd.func37 (by kernel_rfl) rfl #[.int .i64 a0] rfl (by (try simp only [List.map_toArray, List.map_cons, List.map_nil]); first | done | rfl | (simp only [List.length_drop, List.length_take]; rfl)) ?_; (with_reducible refine (real_Of.calls a0 t101 _ A2.out).mono ?_); rintro e w' ⟨rfl, ⟨nd, rfl⟩⟩; refine ⟨_, rfl, ?_⟩) | ((with_reducible refine gate_callee (f := 35) rfl ?_); refine goesL_ (some 6) rfl rfl Tryd.func35 (by kernel_rfl) rfl #[.float .f64 t101] rfl (by (try simp only [List.map_toArray, List.map_cons, List.map_nil]); first | done | rfl | (simp only [List.length_drop, List.length_take]; rfl)) ?_; (with_reducible refine (real_Canon.calls t101 t102 _ A3.out).mono ?_); rintro e w' ⟨rfl, ⟨nd, rfl⟩⟩; refine ⟨_, rfl, ?_⟩))
    go_ret
    exact ⟨by first | rfl | (simp; done) | (simp [*]; done) | (generalize ByteArray.toList _ = l_; cases l_ <;> rfl), by repeat (first | exact Drawn0.refl _ | apply Drawn0.step)⟩
  · rw [if_neg c4] at H
    have c4b0 : ((Go.bits .and .u64 (IntKind.u64.wrap (t102)) 9223372036854775808) == 0) = false := beq_eq_false_iff_ne.mpr c4
    have c4b1 : ((Go.bits .and .u64 (IntKind.u64.wrap (t102)) 9223372036854775808) != 0) = true := bne_iff_ne.mpr c4
    obtain rfl := Option.some.inj H
    go_enter Tryd.func42, Tryd.ntmps42
    go_wp2_with (first | ((with_reducible refine gate_callee (f := 37) rfl ?_); refine goesL_ (some 5) rfl rfl Tryd.func37 (by kernel_rfl) rfl #[.int .i64 a0] rfl (by (try simp only [List.map_toArray, List.map_cons, List.map_nil]); first | done | rfl | (simp only [List.length_drop, List.length_take]; rfl)) ?_; (with_reducible refine (real_Of.calls a0 t101 _ A2.out).mono ?_); rintro e w' ⟨rfl, ⟨nd, rfl⟩⟩; refine ⟨_, rfl, ?_⟩) | ((with_reducible refine gate_callee (f := 35) rfl ?_); refine goesL_ (some 6) rfl rfl Tryd.func35 (by kernel_rfl) rfl #[.float .f64 t101] rfl (by (try simp only [List.map_toArray, List.map_cons, List.map_nil]); first | done | rfl | (simp only [List.length_drop, List.length_take]; rfl)) ?_; (with_reducible refine (real_Canon.calls t101 t102 _ A3.out).mono ?_); rintro e w' ⟨rfl, ⟨nd, rfl⟩⟩; refine ⟨_, rfl, ?_⟩))
    go_ret
    exact ⟨by first | rfl | (simp; done) | (simp [*]; done) | (generalize ByteArray.toList _ = l_; cases l_ <;> rfl), by repeat (first | exact Drawn0.refl _ | apply Drawn0.step)⟩

/-! ### real_Compare: function 32 -/
def real_Compare.f (a0 : Int) (a1 : Int) : Option (Int) := (real_Key.f a0).bind fun t103 => ((real_Key.f a1).bind fun t104 => (if t103 < t104 then (some (-1)) else (if t103 > t104 then (some 1) else (some 0))))
set_option maxHeartbeats 8000000 in
set_option maxRecDepth 100000 in
theorem real_Compare.calls (a0 : Int) (a1 : Int) (r : Int) (w : World) (h : real_Compare.f a0 a1 = some r) :
    Calls Tryd.prog 32 #[.int .i64 a0, .int .i64 a1] w fun e w' => e = .returned (.int .i64 r) ∧ Drawn0 w w' := by
  have H : ((real_Key.f a0).bind fun t103 => ((real_Key.f a1).bind fun t104 => (if t103 < t104 then (some (-1)) else (if t103 > t104 then (some 1) else (some 0))))) = some r := h
  clear h
  replace H := Option.bind_eq_some_iff.mp H
  obtain ⟨t103, A30, H⟩ := H
  replace H : ((real_Key.f a1).bind fun t104 => (if t103 < t104 then (some (-1)) else (if t103 > t104 then (some 1) else (some 0)))) = some r := H
  have A3 := Aside0.mk A30
  clear A30
  replace H := Option.bind_eq_some_iff.mp H
  obtain ⟨t104, A40, H⟩ := H
  replace H : (if t103 < t104 then (some (-1)) else (if t103 > t104 then (some 1) else (some 0))) = some r := H
  have A4 := Aside0.mk A40
  clear A40
  by_cases c5 : t103 < t104
  · rw [if_pos c5] at H
    have c5b0 : decide (t103 < t104) = true := decide_eq_true c5
    clear c5
    obtain rfl := Option.some.inj H
    go_enter Tryd.func32, Tryd.ntmps32
    go_wp2_with (first | ((with_reducible refine gate_callee (f := 42) rfl ?_); refine goesL_ (some 8) rfl rfl Tryd.func42 (by kernel_rfl) rfl #[.int .i64 a0] rfl (by (try simp only [List.map_toArray, List.map_cons, List.map_nil]); first | done | rfl | (simp only [List.length_drop, List.length_take]; rfl)) ?_; (with_reducible refine (real_Key.calls a0 t103 _ A3.out).mono ?_); rintro e w' ⟨rfl, ⟨nd, rfl⟩⟩; refine ⟨_, rfl, ?_⟩) | ((with_reducible refine gate_callee (f := 42) rfl ?_); refine goesL_ (some 10) rfl rfl Tryd.func42 (by kernel_rfl) rfl #[.int .i64 a1] rfl (by (try simp only [List.map_toArray, List.map_cons, List.map_nil]); first | done | rfl | (simp only [List.length_drop, List.length_take]; rfl)) ?_; (with_reducible refine (real_Key.calls a1 t104 _ A4.out).mono ?_); rintro e w' ⟨rfl, ⟨nd, rfl⟩⟩; refine ⟨_, rfl, ?_⟩))
    go_ret
    exact ⟨by first | rfl | (simp; done) | (simp [*]; done) | (generalize ByteArray.toList _ = l_; cases l_ <;> rfl), by repeat (first | exact Drawn0.refl _ | apply Drawn0.step)⟩
  · rw [if_neg c5] at H
    have c5b0 : decide (t103 < t104) = false := decide_eq_false c5
    clear c5
    by_cases c6 : t103 > t104
    · rw [if_pos c6] at H
      have c6b0 : decide (t104 < t103) = true := decide_eq_true c6
      clear c6
      obtain rfl := Option.some.inj H
      go_enter Tryd.func32, Tryd.ntmps32
      go_wp2_with (first | ((with_reducible refine gate_callee (f := 42) rfl ?_); refine goesL_ (some 8) rfl rfl Tryd.func42 (by kernel_rfl) rfl #[.int .i64 a0] rfl (by (try simp only [List.map_toArray, List.map_cons, List.map_nil]); first | done | rfl | (simp only [List.length_drop, List.length_take]; rfl)) ?_; (with_reducible refine (real_Key.calls a0 t103 _ A3.out).mono ?_); rintro e w' ⟨rfl, ⟨nd, rfl⟩⟩; refine ⟨_, rfl, ?_⟩) | ((with_reducible refine gate_callee (f := 42) rfl ?_); refine goesL_ (some 10) rfl rfl Tryd.func42 (by kernel_rfl) rfl #[.int .i64 a1] rfl (by (try simp only [List.map_toArray, List.map_cons, List.map_nil]); first | done | rfl | (simp only [List.length_drop, List.length_take]; rfl)) ?_; (with_reducible refine (real_Key.calls a1 t104 _ A4.out).mono ?_); rintro e w' ⟨rfl, ⟨nd, rfl⟩⟩; refine ⟨_, rfl, ?_⟩))
      go_ret
      exact ⟨by first | rfl | (simp; done) | (simp [*]; done) | (generalize ByteArray.toList _ = l_; cases l_ <;> rfl), by repeat (first | exact Drawn0.refl _ | apply Drawn0.step)⟩
    · rw [if_neg c6] at H
      have c6b0 : decide (t104 < t103) = false := decide_eq_false c6
      clear c6
      obtain rfl := Option.some.inj H
      go_enter Tryd.func32, Tryd.ntmps32
      go_wp2_with (first | ((with_reducible refine gate_callee (f := 42) rfl ?_); refine goesL_ (some 8) rfl rfl Tryd.func42 (by kernel_rfl) rfl #[.int .i64 a0] rfl (by (try simp only [List.map_toArray, List.map_cons, List.map_nil]); first | done | rfl | (simp only [List.length_drop, List.length_take]; rfl)) ?_; (with_reducible refine (real_Key.calls a0 t103 _ A3.out).mono ?_); rintro e w' ⟨rfl, ⟨nd, rfl⟩⟩; refine ⟨_, rfl, ?_⟩) | ((with_reducible refine gate_callee (f := 42) rfl ?_); refine goesL_ (some 10) rfl rfl Tryd.func42 (by kernel_rfl) rfl #[.int .i64 a1] rfl (by (try simp only [List.map_toArray, List.map_cons, List.map_nil]); first | done | rfl | (simp only [List.length_drop, List.length_take]; rfl)) ?_; (with_reducible refine (real_Key.calls a1 t104 _ A4.out).mono ?_); rintro e w' ⟨rfl, ⟨nd, rfl⟩⟩; refine ⟨_, rfl, ?_⟩))
      go_ret
      exact ⟨by first | rfl | (simp; done) | (simp [*]; done) | (generalize ByteArray.toList _ = l_; cases l_ <;> rfl), by repeat (first | exact Drawn0.refl _ | apply Drawn0.step)⟩

/-! ### math_Copysign: function 56 -/
def math_Copysign.f (a0 : Nat) (a1 : Nat) : Option (Nat) := some ((Go.bits .or .u64 (Go.bits .andNot .u64 (a0 : Int) 9223372036854775808) (Go.bits .and .u64 (a1 : Int) 9223372036854775808)).toNat)
set_option maxHeartbeats 8000000 in
set_option maxRecDepth 100000 in
theorem math_Copysign.calls (a0 : Nat) (a1 : Nat) (r : Nat) (w : World) (h : math_Copysign.f a0 a1 = some r) :
    Calls Tryd.prog 56 #[.float .f64 a0, .float .f64 a1] w fun e w' => e = .returned (.float .f64 r) ∧ Drawn0 w w' := by
  have hx38 := ext38
  have hx61 := ext61
  have H : (some ((Go.bits .or .u64 (Go.bits .andNot .u64 (a0 : Int) 9223372036854775808) (Go.bits .and .u64 (a1 : Int) 9223372036854775808)).toNat)) = some r := h
  clear h
  obtain rfl := Option.some.inj H
  go_enter Tryd.func56, Tryd.ntmps56
  go_wp2
  go_ret
  exact ⟨by first | rfl | (simp; done) | (simp [*]; done) | (generalize ByteArray.toList _ = l_; cases l_ <;> rfl), by repeat (first | exact Drawn0.refl _ | apply Drawn0.step)⟩

/-! ### math_NaN: function 57 -/
def math_NaN.f  : Option (Nat) := some ((9221120237041090561 : Int).toNat)
set_option maxHeartbeats 8000000 in
set_option maxRecDepth 100000 in
theorem math_NaN.calls  (r : Nat) (w : World) (h : math_NaN.f  = some r) :
    Calls Tryd.prog 57 #[] w fun e w' => e = .returned (.float .f64 r) ∧ Drawn0 w w' := by
  have hx61 := ext61
  have H : (some ((9221120237041090561 : Int).toNat)) = some r := h
  clear h
  obtain rfl := Option.some.inj H
  go_enter Tryd.func57, Tryd.ntmps57
  go_wp2
  go_ret
  exact ⟨by first | rfl | (simp; done) | (simp [*]; done) | (generalize ByteArray.toList _ = l_; cases l_ <;> rfl), by repeat (first | exact Drawn0.refl _ | apply Drawn0.step)⟩

/-! ### math_Inf: function 58 -/
def math_Inf.f (a0 : Int) : Option (Nat) := if a0 ≥ 0 then (some ((9218868437227405312 : Int).toNat)) else (some ((18442240474082181120 : Int).toNat))
set_option maxHeartbeats 8000000 in
set_option maxRecDepth 100000 in
theorem math_Inf.calls (a0 : Int) (r : Nat) (w : World) (h : math_Inf.f a0 = some r) :
    Calls Tryd.prog 58 #[.int .i64 a0] w fun e w' => e = .returned (.float .f64 r) ∧ Drawn0 w w' := by
  have hx61 := ext61
  have H : (if a0 ≥ 0 then (some ((9218868437227405312 : Int).toNat)) else (some ((18442240474082181120 : Int).toNat))) = some r := h
  clear h
  by_cases c2 : a0 ≥ 0
  · rw [if_pos c2] at H
    have c2b0 : decide (0 ≤ a0) = true := decide_eq_true c2
    clear c2
    obtain rfl := Option.some.inj H
    go_enter Tryd.func58, Tryd.ntmps58
    go_wp2
    go_ret
    exact ⟨by first | rfl | (simp; done) | (simp [*]; done) | (generalize ByteArray.toList _ = l_; cases l_ <;> rfl), by repeat (first | exact Drawn0.refl _ | apply Drawn0.step)⟩
  · rw [if_neg c2] at H
    have c2b0 : decide (0 ≤ a0) = false := decide_eq_false c2
    clear c2
    obtain rfl := Option.some.inj H
    go_enter Tryd.func58, Tryd.ntmps58
    go_wp2
    go_ret
    exact ⟨by first | rfl | (simp; done) | (simp [*]; done) | (generalize ByteArray.toList _ = l_; cases l_ <;> rfl), by repeat (first | exact Drawn0.refl _ | apply Drawn0.step)⟩

/-! ### real_Text: function 59 -/
def real_Text.f (a0 : Int) : Option (ByteArray) := (real_Of.f a0).bind fun t105 => ((real_Canon.f t105).bind fun t106 => ((real_Of.f t106).bind fun t107 => ((strconv_FormatFloat.f t107 103 (-1) 64).bind fun t108 => (some t108))))
set_option maxHeartbeats 8000000 in
set_option maxRecDepth 100000 in
theorem real_Text.calls (a0 : Int) (r : ByteArray) (w : World) (hT : Tabs w) (h : real_Text.f a0 = some r) :
    Calls Tryd.prog 59 #[.int .i64 a0] w fun e w' => e = .returned (.string r) ∧ Below w.heap.size w w' := by
  have HT := Aside0.mk hT
  clear hT
  have HB := Aside0.mk (Below.refl w.heap.size w)
  have H : ((real_Of.f a0).bind fun t105 => ((real_Canon.f t105).bind fun t106 => ((real_Of.f t106).bind fun t107 => ((strconv_FormatFloat.f t107 103 (-1) 64).bind fun t108 => (some t108))))) = some r := h
  clear h
  replace H := Option.bind_eq_some_iff.mp H
  obtain ⟨t105, A20, H⟩ := H
  replace H : ((real_Canon.f t105).bind fun t106 => ((real_Of.f t106).bind fun t107 => ((strconv_FormatFloat.f t107 103 (-1) 64).bind fun t108 => (some t108)))) = some r := H
  have A2 := Aside0.mk A20
  clear A20
  replace H := Option.bind_eq_some_iff.mp H
  obtain ⟨t106, A30, H⟩ := H
  replace H : ((real_Of.f t106).bind fun t107 => ((strconv_FormatFloat.f t107 103 (-1) 64).bind fun t108 => (some t108))) = some r := H
  have A3 := Aside0.mk A30
  clear A30
  replace H := Option.bind_eq_some_iff.mp H
  obtain ⟨t107, A40, H⟩ := H
  replace H : ((strconv_FormatFloat.f t107 103 (-1) 64).bind fun t108 => (some t108)) = some r := H
  have A4 := Aside0.mk A40
  clear A40
  replace H := Option.bind_eq_some_iff.mp H
  obtain ⟨t108, A50, H⟩ := H
  replace H : (some t108) = some r := H
  have A5 := Aside0.mk A50
  clear A50
  obtain rfl := Option.some.inj H
  go_enter Tryd.func59, Tryd.ntmps59
  go_wp2_with (first | ((with_reducible refine gate_callee (f := 37) rfl ?_); refine goesL_ (some 4) rfl rfl Tryd.func37 (by kernel_rfl) rfl #[.int .i64 a0] rfl (by (try simp only [List.map_toArray, List.map_cons, List.map_nil]); first | done | rfl | (simp only [List.length_drop, List.length_take]; rfl)) ?_; (with_reducible refine (real_Of.calls a0 t105 _ A2.out).mono ?_); rintro e w' ⟨rfl, ⟨nd, rfl⟩⟩; refine ⟨_, rfl, ?_⟩) | ((with_reducible refine gate_callee (f := 35) rfl ?_); refine goesL_ (some 5) rfl rfl Tryd.func35 (by kernel_rfl) rfl #[.float .f64 t105] rfl (by (try simp only [List.map_toArray, List.map_cons, List.map_nil]); first | done | rfl | (simp only [List.length_drop, List.length_take]; rfl)) ?_; (with_reducible refine (real_Canon.calls t105 t106 _ A3.out).mono ?_); rintro e w' ⟨rfl, ⟨nd, rfl⟩⟩; refine ⟨_, rfl, ?_⟩) | ((with_reducible refine gate_callee (f := 37) rfl ?_); refine goesL_ (some 6) rfl rfl Tryd.func37 (by kernel_rfl) rfl #[.int .i64 t106] rfl (by (try simp only [List.map_toArray, List.map_cons, List.map_nil]); first | done | rfl | (simp only [List.length_drop, List.length_take]; rfl)) ?_; (with_reducible refine (real_Of.calls t106 t107 _ A4.out).mono ?_); rintro e w' ⟨rfl, ⟨nd, rfl⟩⟩; refine ⟨_, rfl, ?_⟩) | ((with_reducible refine gate_callee (f := 71) rfl ?_); refine goesL_ (some 7) rfl rfl Tryd.func71 (by kernel_rfl) rfl #[.float .f64 t107, .int .u8 103, .int .i64 (-1), .int .i64 64] rfl (by (try simp only [List.map_toArray, List.map_cons, List.map_nil]); first | done | rfl | (simp only [List.length_drop, List.length_take]; rfl)) ?_; (with_reducible refine (strconv_FormatFloat.calls t107 103 (-1) 64 t108 _ ?side1 A5.out).mono ?_); (case side1 => first | (with_reducible exact HT.out) | (with_reducible exact Tabs.drewN HT.out _) | exact Tabs.below HT.out (by repeat (first | (with_reducible first | exact HB.out | apply below_alloc | apply pw_below_drewN | apply below_drew1) | exact HB.out))); rintro e w6 ⟨rfl, hb⟩; refine ⟨_, rfl, ?_⟩; have n0_ := Aside0.mk (below_step (by repeat (first | (with_reducible first | exact HB.out | apply below_alloc | apply pw_below_drewN | apply below_drew1) | exact HB.out)) hb); clear HB; have HB := n0_; clear n0_; (try clear hb); (try clear hb2); (try clear hk); (try clear hi)))
  go_ret
  exact ⟨by first | rfl | (simp [errW_none, errW_some] <;> rfl) | (simp [*, errW_none, errW_some] <;> rfl), by repeat (first | (with_reducible first | exact HB.out | apply below_alloc | apply pw_below_drewN | apply below_drew1) | exact HB.out)⟩

/-! ### mortmainlaw02_alive: function 31 -/
def mortmainlaw02_alive.f  : Option (Bool) := (math_Copysign.f 0 13830554455654793216).bind fun t109 => ((real_Canon.f t109).bind fun t110 => (if t110 = 0 then ((math_NaN.f).bind fun t111 => ((real_Canon.f t111).bind fun t112 => ((math_Inf.f 1).bind fun t113 => ((real_Canon.f t113).bind fun t114 => ((real_Compare.f t112 t114).bind fun t115 => (if t115 = 1 then ((real_Canon.f 4602678819172646912).bind fun t116 => ((real_Text.f t116).bind fun t117 => (some (t117.toList == ([48, 46, 53] : List UInt8))))) else (some false))))))) else (some false)))
set_option maxHeartbeats 8000000 in
set_option maxRecDepth 100000 in
theorem mortmainlaw02_alive.calls  (r : Bool) (w : World) (hT : Tabs w) (h : mortmainlaw02_alive.f  = some r) :
    Calls Tryd.prog 31 #[] w fun e w' => e = .returned (.bool r) ∧ Below w.heap.size w w' := by
  have HT := Aside0.mk hT
  clear hT
  have HB := Aside0.mk (Below.refl w.heap.size w)
  have H : ((math_Copysign.f 0 13830554455654793216).bind fun t109 => ((real_Canon.f t109).bind fun t110 => (if t110 = 0 then ((math_NaN.f).bind fun t111 => ((real_Canon.f t111).bind fun t112 => ((math_Inf.f 1).bind fun t113 => ((real_Canon.f t113).bind fun t114 => ((real_Compare.f t112 t114).bind fun t115 => (if t115 = 1 then ((real_Canon.f 4602678819172646912).bind fun t116 => ((real_Text.f t116).bind fun t117 => (some (t117.toList == ([48, 46, 53] : List UInt8))))) else (some false))))))) else (some false)))) = some r := h
  clear h
  replace H := Option.bind_eq_some_iff.mp H
  obtain ⟨t109, A10, H⟩ := H
  replace H : ((real_Canon.f t109).bind fun t110 => (if t110 = 0 then ((math_NaN.f).bind fun t111 => ((real_Canon.f t111).bind fun t112 => ((math_Inf.f 1).bind fun t113 => ((real_Canon.f t113).bind fun t114 => ((real_Compare.f t112 t114).bind fun t115 => (if t115 = 1 then ((real_Canon.f 4602678819172646912).bind fun t116 => ((real_Text.f t116).bind fun t117 => (some (t117.toList == ([48, 46, 53] : List UInt8))))) else (some false))))))) else (some false))) = some r := H
  have A1 := Aside0.mk A10
  clear A10
  replace H := Option.bind_eq_some_iff.mp H
  obtain ⟨t110, A20, H⟩ := H
  replace H : (if t110 = 0 then ((math_NaN.f).bind fun t111 => ((real_Canon.f t111).bind fun t112 => ((math_Inf.f 1).bind fun t113 => ((real_Canon.f t113).bind fun t114 => ((real_Compare.f t112 t114).bind fun t115 => (if t115 = 1 then ((real_Canon.f 4602678819172646912).bind fun t116 => ((real_Text.f t116).bind fun t117 => (some (t117.toList == ([48, 46, 53] : List UInt8))))) else (some false))))))) else (some false)) = some r := H
  have A2 := Aside0.mk A20
  clear A20
  by_cases c3 : t110 = 0
  · rw [if_pos c3] at H
    have c3b0 : (t110 == 0) = true := beq_iff_eq.mpr c3
    have c3b1 : (t110 != 0) = false := bne_eq_false_iff_eq.mpr c3
    clear c3
    replace H := Option.bind_eq_some_iff.mp H
    obtain ⟨t111, A40, H⟩ := H
    replace H : ((real_Canon.f t111).bind fun t112 => ((math_Inf.f 1).bind fun t113 => ((real_Canon.f t113).bind fun t114 => ((real_Compare.f t112 t114).bind fun t115 => (if t115 = 1 then ((real_Canon.f 4602678819172646912).bind fun t116 => ((real_Text.f t116).bind fun t117 => (some (t117.toList == ([48, 46, 53] : List UInt8))))) else (some false)))))) = some r := H
    have A4 := Aside0.mk A40
    clear A40
    replace H := Option.bind_eq_some_iff.mp H
    obtain ⟨t112, A50, H⟩ := H
    replace H : ((math_Inf.f 1).bind fun t113 => ((real_Canon.f t113).bind fun t114 => ((real_Compare.f t112 t114).bind fun t115 => (if t115 = 1 then ((real_Canon.f 4602678819172646912).bind fun t116 => ((real_Text.f t116).bind fun t117 => (some (t117.toList == ([48, 46, 53] : List UInt8))))) else (some false))))) = some r := H
    have A5 := Aside0.mk A50
    clear A50
    replace H := Option.bind_eq_some_iff.mp H
    obtain ⟨t113, A60, H⟩ := H
    replace H : ((real_Canon.f t113).bind fun t114 => ((real_Compare.f t112 t114).bind fun t115 => (if t115 = 1 then ((real_Canon.f 4602678819172646912).bind fun t116 => ((real_Text.f t116).bind fun t117 => (some (t117.toList == ([48, 46, 53] : List UInt8))))) else (some false)))) = some r := H
    have A6 := Aside0.mk A60
    clear A60
    replace H := Option.bind_eq_some_iff.mp H
    obtain ⟨t114, A70, H⟩ := H
    replace H : ((real_Compare.f t112 t114).bind fun t115 => (if t115 = 1 then ((real_Canon.f 4602678819172646912).bind fun t116 => ((real_Text.f t116).bind fun t117 => (some (t117.toList == ([48, 46, 53] : List UInt8))))) else (some false))) = some r := H
    have A7 := Aside0.mk A70
    clear A70
    replace H := Option.bind_eq_some_iff.mp H
    obtain ⟨t115, A80, H⟩ := H
    replace H : (if t115 = 1 then ((real_Canon.f 4602678819172646912).bind fun t116 => ((real_Text.f t116).bind fun t117 => (some (t117.toList == ([48, 46, 53] : List UInt8))))) else (some false)) = some r := H
    have A8 := Aside0.mk A80
    clear A80
    by_cases c9 : t115 = 1
    · rw [if_pos c9] at H
      have c9b0 : (t115 == 1) = true := beq_iff_eq.mpr c9
      have c9b1 : (t115 != 1) = false := bne_eq_false_iff_eq.mpr c9
      clear c9
      replace H := Option.bind_eq_some_iff.mp H
      obtain ⟨t116, A100, H⟩ := H
      replace H : ((real_Text.f t116).bind fun t117 => (some (t117.toList == ([48, 46, 53] : List UInt8)))) = some r := H
      have A10 := Aside0.mk A100
      clear A100
      replace H := Option.bind_eq_some_iff.mp H
      obtain ⟨t117, A110, H⟩ := H
      replace H : (some (t117.toList == ([48, 46, 53] : List UInt8))) = some r := H
      have A11 := Aside0.mk A110
      clear A110
      obtain rfl := Option.some.inj H
      go_enter Tryd.func31, Tryd.ntmps31
      go_wp2_with (first | ((with_reducible refine gate_callee (f := 56) rfl ?_); refine goesL_ (some 1) rfl rfl Tryd.func56 (by kernel_rfl) rfl #[.float .f64 0, .float .f64 13830554455654793216] rfl (by (try simp only [List.map_toArray, List.map_cons, List.map_nil]); first | done | rfl | (simp only [List.length_drop, List.length_take]; rfl)) ?_; (with_reducible refine (math_Copysign.calls 0 13830554455654793216 t109 _ A1.out).mono ?_); rintro e w' ⟨rfl, ⟨nd, rfl⟩⟩; refine ⟨_, rfl, ?_⟩) | ((with_reducible refine gate_callee (f := 35) rfl ?_); refine goesL_ (some 2) rfl rfl Tryd.func35 (by kernel_rfl) rfl #[.float .f64 t109] rfl (by (try simp only [List.map_toArray, List.map_cons, List.map_nil]); first | done | rfl | (simp only [List.length_drop, List.length_take]; rfl)) ?_; (with_reducible refine (real_Canon.calls t109 t110 _ A2.out).mono ?_); rintro e w' ⟨rfl, ⟨nd, rfl⟩⟩; refine ⟨_, rfl, ?_⟩) | (go_at_call 57; (with_reducible refine (math_NaN.calls  t111 _ A4.out).mono ?_); rintro e w' ⟨rfl, ⟨nd, rfl⟩⟩) | (go_at_call 35; (with_reducible refine (real_Canon.calls t111 t112 _ A5.out).mono ?_); rintro e w' ⟨rfl, ⟨nd, rfl⟩⟩) | (go_at_call 58; (with_reducible refine (math_Inf.calls 1 t113 _ A6.out).mono ?_); rintro e w' ⟨rfl, ⟨nd, rfl⟩⟩) | (go_at_call 35; (with_reducible refine (real_Canon.calls t113 t114 _ A7.out).mono ?_); rintro e w' ⟨rfl, ⟨nd, rfl⟩⟩) | (go_at_call 32; (with_reducible refine (real_Compare.calls t112 t114 t115 _ A8.out).mono ?_); rintro e w' ⟨rfl, ⟨nd, rfl⟩⟩) | (go_at_call 35; (with_reducible refine (real_Canon.calls 4602678819172646912 t116 _ A10.out).mono ?_); rintro e w' ⟨rfl, ⟨nd, rfl⟩⟩) | (go_at_call 59; (with_reducible refine (real_Text.calls t116 t117 _ ?side1 A11.out).mono ?_); (case side1 => first | (with_reducible exact HT.out) | (with_reducible exact Tabs.drewN HT.out _) | exact Tabs.below HT.out (by repeat (first | (with_reducible first | exact HB.out | apply below_alloc | apply pw_below_drewN | apply below_drew1) | exact HB.out))); rintro e w12 ⟨rfl, hb⟩; have n0_ := Aside0.mk (below_step (by repeat (first | (with_reducible first | exact HB.out | apply below_alloc | apply pw_below_drewN | apply below_drew1) | exact HB.out)) hb); clear HB; have HB := n0_; clear n0_; (try clear hb); (try clear hb2); (try clear hk); (try clear hi)))
      go_ret
      exact ⟨by first | rfl | (simp [errW_none, errW_some] <;> rfl) | (simp [*, errW_none, errW_some] <;> rfl), by repeat (first | (with_reducible first | exact HB.out | apply below_alloc | apply pw_below_drewN | apply below_drew1) | exact HB.out)⟩
    · rw [if_neg c9] at H
      have c9b0 : (t115 == 1) = false := beq_eq_false_iff_ne.mpr c9
      have c9b1 : (t115 != 1) = true := bne_iff_ne.mpr c9
      obtain rfl := Option.some.inj H
      go_enter Tryd.func31, Tryd.ntmps31
      go_wp2_with (first | ((with_reducible refine gate_callee (f := 56) rfl ?_); refine goesL_ (some 1) rfl rfl Tryd.func56 (by kernel_rfl) rfl #[.float .f64 0, .float .f64 13830554455654793216] rfl (by (try simp only [List.map_toArray, List.map_cons, List.map_nil]); first | done | rfl | (simp only [List.length_drop, List.length_take]; rfl)) ?_; (with_reducible refine (math_Copysign.calls 0 13830554455654793216 t109 _ A1.out).mono ?_); rintro e w' ⟨rfl, ⟨nd, rfl⟩⟩; refine ⟨_, rfl, ?_⟩) | ((with_reducible refine gate_callee (f := 35) rfl ?_); refine goesL_ (some 2) rfl rfl Tryd.func35 (by kernel_rfl) rfl #[.float .f64 t109] rfl (by (try simp only [List.map_toArray, List.map_cons, List.map_nil]); first | done | rfl | (simp only [List.length_drop, List.length_take]; rfl)) ?_; (with_reducible refine (real_Canon.calls t109 t110 _ A2.out).mono ?_); rintro e w' ⟨rfl, ⟨nd, rfl⟩⟩; refine ⟨_, rfl, ?_⟩) | (go_at_call 57; (with_reducible refine (math_NaN.calls  t111 _ A4.out).mono ?_); rintro e w' ⟨rfl, ⟨nd, rfl⟩⟩) | (go_at_call 35; (with_reducible refine (real_Canon.calls t111 t112 _ A5.out).mono ?_); rintro e w' ⟨rfl, ⟨nd, rfl⟩⟩) | (go_at_call 58; (with_reducible refine (math_Inf.calls 1 t113 _ A6.out).mono ?_); rintro e w' ⟨rfl, ⟨nd, rfl⟩⟩) | (go_at_call 35; (with_reducible refine (real_Canon.calls t113 t114 _ A7.out).mono ?_); rintro e w' ⟨rfl, ⟨nd, rfl⟩⟩) | (go_at_call 32; (with_reducible refine (real_Compare.calls t112 t114 t115 _ A8.out).mono ?_); rintro e w' ⟨rfl, ⟨nd, rfl⟩⟩))
      go_ret
      exact ⟨by first | rfl | (simp [errW_none, errW_some] <;> rfl) | (simp [*, errW_none, errW_some] <;> rfl), by repeat (first | (with_reducible first | exact HB.out | apply below_alloc | apply pw_below_drewN | apply below_drew1) | exact HB.out)⟩
  · rw [if_neg c3] at H
    have c3b0 : (t110 == 0) = false := beq_eq_false_iff_ne.mpr c3
    have c3b1 : (t110 != 0) = true := bne_iff_ne.mpr c3
    obtain rfl := Option.some.inj H
    go_enter Tryd.func31, Tryd.ntmps31
    go_wp2_with (first | ((with_reducible refine gate_callee (f := 56) rfl ?_); refine goesL_ (some 1) rfl rfl Tryd.func56 (by kernel_rfl) rfl #[.float .f64 0, .float .f64 13830554455654793216] rfl (by (try simp only [List.map_toArray, List.map_cons, List.map_nil]); first | done | rfl | (simp only [List.length_drop, List.length_take]; rfl)) ?_; (with_reducible refine (math_Copysign.calls 0 13830554455654793216 t109 _ A1.out).mono ?_); rintro e w' ⟨rfl, ⟨nd, rfl⟩⟩; refine ⟨_, rfl, ?_⟩) | ((with_reducible refine gate_callee (f := 35) rfl ?_); refine goesL_ (some 2) rfl rfl Tryd.func35 (by kernel_rfl) rfl #[.float .f64 t109] rfl (by (try simp only [List.map_toArray, List.map_cons, List.map_nil]); first | done | rfl | (simp only [List.length_drop, List.length_take]; rfl)) ?_; (with_reducible refine (real_Canon.calls t109 t110 _ A2.out).mono ?_); rintro e w' ⟨rfl, ⟨nd, rfl⟩⟩; refine ⟨_, rfl, ?_⟩))
    go_ret
    exact ⟨by first | rfl | (simp [errW_none, errW_some] <;> rfl) | (simp [*, errW_none, errW_some] <;> rfl), by repeat (first | (with_reducible first | exact HB.out | apply below_alloc | apply pw_below_drewN | apply below_drew1) | exact HB.out)⟩

end Go.Proofs.YtmaciepkkianhaaDoor.QReal

namespace Go.Proofs.YtmaciepkkianhaaDoor.QReal
open Go.Proofs.YtmaciepkkianhaaDoor.H
attribute [local go_sem] ite_signed_u64 ite_signed_u32
open Go.RowKit Go.Proofs.YtmaciepkkianhaaDoorW.PrintWords Go.Proofs.YtmaciepkkianhaaDoorW.PrintLast Go.Proofs.YtmaciepkkianhaaDoorW.PrintMore
attribute [local go_sem] max2_int min2_int max_two min_two max_three min_three max_four min_four   -- for this text's walks alone
set_option linter.unusedVariables false
set_option linter.unusedSimpArgs false

/-! ### math_IsNaN: function 60 -/
def math_IsNaN.f (a0 : Nat) : Option (Bool) := some (FloatKind.f64.format.order a0 a0 != some Ordering.eq)
set_option maxHeartbeats 8000000 in
set_option maxRecDepth 100000 in
theorem math_IsNaN.calls (a0 : Nat) (r : Bool) (w : World) (h : math_IsNaN.f a0 = some r) :
    Calls Tryd.prog 60 #[.float .f64 a0] w fun e w' => e = .returned (.bool r) ∧ Drawn0 w w' := by
  have H : (some (FloatKind.f64.format.order a0 a0 != some Ordering.eq)) = some r := h
  clear h
  obtain rfl := Option.some.inj H
  go_enter Tryd.func60, Tryd.ntmps60
  go_wp2
  go_ret
  exact ⟨by first | rfl | (simp; done) | (simp [*]; done) | (generalize ByteArray.toList _ = l_; cases l_ <;> rfl), by repeat (first | exact Drawn0.refl _ | apply Drawn0.step)⟩

end Go.Proofs.YtmaciepkkianhaaDoor.QReal

namespace Go.Proofs.YtmaciepkkianhaaDoor.QReal
open Go.Proofs.YtmaciepkkianhaaDoor.H
attribute [local go_sem] ite_signed_u64 ite_signed_u32
open Go.RowKit Go.Proofs.YtmaciepkkianhaaDoorW.PrintWords Go.Proofs.YtmaciepkkianhaaDoorW.PrintLast Go.Proofs.YtmaciepkkianhaaDoorW.PrintMore
attribute [local go_sem] max2_int min2_int max_two min_two max_three min_three max_four min_four   -- for this text's walks alone
set_option linter.unusedVariables false
set_option linter.unusedSimpArgs false

/-! ### mortmainref02_Kept: function 33 -/
def mortmainref02_Kept.f (a0 : Nat) : Option (Int) := (math_IsNaN.f a0).bind fun t124 => (if t124 = true then (some 9221120237041090560) else (if (FloatKind.f64.format.order a0 0 == some Ordering.eq) = true then (some 0) else (some (wrap64 ((a0 : Int))))))
set_option maxHeartbeats 8000000 in
set_option maxRecDepth 100000 in
theorem mortmainref02_Kept.calls (a0 : Nat) (r : Int) (w : World) (h : mortmainref02_Kept.f a0 = some r) :
    Calls Tryd.prog 33 #[.float .f64 a0] w fun e w' => e = .returned (.int .i64 r) ∧ Drawn0 w w' := by
  have hx38 := ext38
  have H : ((math_IsNaN.f a0).bind fun t124 => (if t124 = true then (some 9221120237041090560) else (if (FloatKind.f64.format.order a0 0 == some Ordering.eq) = true then (some 0) else (some (wrap64 ((a0 : Int))))))) = some r := h
  clear h
  replace H := Option.bind_eq_some_iff.mp H
  obtain ⟨t124, A20, H⟩ := H
  replace H : (if t124 = true then (some 9221120237041090560) else (if (FloatKind.f64.format.order a0 0 == some Ordering.eq) = true then (some 0) else (some (wrap64 ((a0 : Int)))))) = some r := H
  have A2 := Aside0.mk A20
  clear A20
  by_cases c3 : t124 = true
  · subst c3
    have H1 : (some 9221120237041090560) = some r := by rw [if_pos rfl] at H; exact H
    clear H
    have H := H1
    clear H1
    obtain rfl := Option.some.inj H
    go_enter Tryd.func33, Tryd.ntmps33
    go_wp2_with (first | ((with_reducible refine gate_callee (f := 60) rfl ?_); refine goesL_ (some 4) rfl rfl Tryd.func60 (by kernel_rfl) rfl #[.float .f64 a0] rfl (by (try simp only [List.map_toArray, List.map_cons, List.map_nil]); first | done | rfl | (simp only [List.length_drop, List.length_take]; rfl)) ?_; (with_reducible refine (math_IsNaN.calls a0 true _ A2.out).mono ?_); rintro e w' ⟨rfl, ⟨nd, rfl⟩⟩; refine ⟨_, rfl, ?_⟩))
    go_ret
    exact ⟨by first | rfl | (simp; done) | (simp [*]; done) | (generalize ByteArray.toList _ = l_; cases l_ <;> rfl), by repeat (first | exact Drawn0.refl _ | apply Drawn0.step)⟩
  · replace c3 := Bool.eq_false_iff.mpr c3
    subst c3
    have H1 : (if (FloatKind.f64.format.order a0 0 == some Ordering.eq) = true then (some 0) else (some (wrap64 ((a0 : Int))))) = some r := by rw [if_neg (show ¬ (false = true) by decide)] at H; exact H
    clear H
    have H := H1
    clear H1
    by_cases c4 : (FloatKind.f64.format.order a0 0 == some Ordering.eq) = true
    · rw [if_pos c4] at H
      have c4b0 : (FloatKind.f64.format.order a0 0 == some Ordering.eq) = true := c4
      clear c4
      obtain rfl := Option.some.inj H
      go_enter Tryd.func33, Tryd.ntmps33
      go_wp2_with (first | ((with_reducible refine gate_callee (f := 60) rfl ?_); refine goesL_ (some 4) rfl rfl Tryd.func60 (by kernel_rfl) rfl #[.float .f64 a0] rfl (by (try simp only [List.map_toArray, List.map_cons, List.map_nil]); first | done | rfl | (simp only [List.length_drop, List.length_take]; rfl)) ?_; (with_reducible refine (math_IsNaN.calls a0 false _ A2.out).mono ?_); rintro e w' ⟨rfl, ⟨nd, rfl⟩⟩; refine ⟨_, rfl, ?_⟩))
      go_ret
      exact ⟨by first | rfl | (simp; done) | (simp [*]; done) | (generalize ByteArray.toList _ = l_; cases l_ <;> rfl), by repeat (first | exact Drawn0.refl _ | apply Drawn0.step)⟩
    · rw [if_neg c4] at H
      have c4b0 : (FloatKind.f64.format.order a0 0 == some Ordering.eq) = false := Bool.eq_false_iff.mpr c4
      clear c4
      obtain rfl := Option.some.inj H
      go_enter Tryd.func33, Tryd.ntmps33
      go_wp2_with (first | ((with_reducible refine gate_callee (f := 60) rfl ?_); refine goesL_ (some 4) rfl rfl Tryd.func60 (by kernel_rfl) rfl #[.float .f64 a0] rfl (by (try simp only [List.map_toArray, List.map_cons, List.map_nil]); first | done | rfl | (simp only [List.length_drop, List.length_take]; rfl)) ?_; (with_reducible refine (math_IsNaN.calls a0 false _ A2.out).mono ?_); rintro e w' ⟨rfl, ⟨nd, rfl⟩⟩; refine ⟨_, rfl, ?_⟩))
      go_ret
      exact ⟨by first | rfl | (simp; done) | (simp [*]; done) | (generalize ByteArray.toList _ = l_; cases l_ <;> rfl), by repeat (first | exact Drawn0.refl _ | apply Drawn0.step)⟩

/-! ### mortmainref02_Of: function 34 -/
def mortmainref02_Of.f (a0 : Int) : Option (Nat) := some ((IntKind.u64.wrap (a0)).toNat)
set_option maxHeartbeats 8000000 in
set_option maxRecDepth 100000 in
theorem mortmainref02_Of.calls (a0 : Int) (r : Nat) (w : World) (h : mortmainref02_Of.f a0 = some r) :
    Calls Tryd.prog 34 #[.int .i64 a0] w fun e w' => e = .returned (.float .f64 r) ∧ Drawn0 w w' := by
  have hx61 := ext61
  have H : (some ((IntKind.u64.wrap (a0)).toNat)) = some r := h
  clear h
  obtain rfl := Option.some.inj H
  go_enter Tryd.func34, Tryd.ntmps34
  go_wp2
  go_ret
  exact ⟨by first | rfl | (simp; done) | (simp [*]; done) | (generalize ByteArray.toList _ = l_; cases l_ <;> rfl), by repeat (first | exact Drawn0.refl _ | apply Drawn0.step)⟩

-- NOT PRINTED: function 39 (real_Add)

-- NOT PRINTED: function 40 (real_Mul)

-- NOT PRINTED: function 11 (mortmainlaw02_RealReckons)

end Go.Proofs.YtmaciepkkianhaaDoor.QReal

set_option linter.unusedSimpArgs false
namespace Go.Proofs.YtmaciepkkianhaaDoor.M
open Go.RowKit Go.Proofs.YtmaciepkkianhaaDoor.H Go.Proofs.YtmaciepkkianhaaDoor.QReal Go.Proofs.YtmaciepkkianhaaDoorW.PrintWords Go.Proofs.YtmaciepkkianhaaDoorW.PrintMore

theorem rof_f (n : Int) : mortmainref02_Of.f n = some (ub n) := rfl
theorem canon_f (u : Nat) (hu : u < 18446744073709551616) : real_Canon.f u = some (kept u) := by
  unfold real_Canon.f kept
  rw [show FloatKind.f64.format.order u u = F.order u u from rfl, show FloatKind.f64.format.order u 0 = F.order u 0 from rfl, ne_self u hu]
  by_cases h : isNan u = true
  · rw [if_pos h, if_pos h]
  · rw [if_neg h, if_neg h, eq_zero u hu (by simpa using h)]
    by_cases g : u % 9223372036854775808 = 0
    · simp [g]
    · simp [g]
theorem rkept_f (u : Nat) (hu : u < 18446744073709551616) : mortmainref02_Kept.f u = some (kept u) := by
  have := canon_f u hu
  unfold real_Canon.f at this
  unfold mortmainref02_Kept.f math_IsNaN.f
  exact this
end Go.Proofs.YtmaciepkkianhaaDoor.M

set_option linter.unusedSimpArgs false
namespace Go.Proofs.YtmaciepkkianhaaDoor.M
open Go.RowKit Go.Proofs.YtmaciepkkianhaaDoor.H Go.Proofs.YtmaciepkkianhaaDoor.QReal Go.Proofs.YtmaciepkkianhaaDoorW.PrintWords Go.Proofs.YtmaciepkkianhaaDoorW.PrintMore

abbrev I (n : Int) : Prop := -9223372036854775808 ≤ n ∧ n ≤ 9223372036854775807
theorem alive2_f : mortmainlaw02_alive.f = some true := by decide +kernel
def c3 (x y : Nat) : Int := if x < y then -1 else if x > y then 1 else 0
theorem real_of_f (n : Int) : real_Of.f n = some (ub n) := rfl
end Go.Proofs.YtmaciepkkianhaaDoor.M

namespace Go.Proofs.YtmaciepkkianhaaDoor.M
open Go.RowKit Go.Proofs.YtmaciepkkianhaaDoor.H Go.Proofs.YtmaciepkkianhaaDoor.QReal Go.Proofs.YtmaciepkkianhaaDoorW.PrintWords Go.Proofs.YtmaciepkkianhaaDoorW.PrintMore

/-- What a machine gives where an operation has no answer: something that is no number. -/
def nb (w : World) (x y : Nat) : Nat := Question.cut (.nanBits .f64 x y) (w.tape w.drawn (.nanBits .f64 x y))
theorem nb_nan (w : World) (x y : Nat) : isNan (nb w x y) = true ∧ nb w x y < 18446744073709551616 := by
  unfold nb
  generalize w.tape w.drawn (.nanBits .f64 x y) = t
  have e : Question.cut (.nanBits .f64 x y) t = (t % 2) * 9223372036854775808 + 9218868437227405312 + 1 + (t / 2) % 4503599627370495 := rfl
  rw [e]
  have h1 : t % 2 < 2 := Nat.mod_lt _ (by decide)
  have h2 : (t / 2) % 4503599627370495 < 4503599627370495 := Nat.mod_lt _ (by decide)
  unfold isNan
  rw [decide_eq_true_eq]
  generalize t % 2 = p at h1 ⊢
  generalize t / 2 % 4503599627370495 = q at h2 ⊢
  obtain rfl | rfl : p = 0 ∨ p = 1 := by omega
  · omega
  · omega
theorem canon_nan (w : World) (x y : Nat) : real_Canon.f (nb w x y) = some 9221120237041090560 := by
  rw [canon_f _ (nb_nan w x y).2]; unfold kept; rw [if_pos (nb_nan w x y).1]
theorem rkept_nan (w : World) (x y : Nat) : mortmainref02_Kept.f (nb w x y) = some 9221120237041090560 := by
  rw [rkept_f _ (nb_nan w x y).2]; unfold kept; rw [if_pos (nb_nan w x y).1]
theorem run_add_nan (P : Program) (t : TypeId) (x y : Nat) (h : F.add x y = none) (w : World) : (binOp .add t (.float .f64 x) (.float .f64 y)).run P w = .ok (.float .f64 (nb w x y)) w.drew := by
  have h' : FloatKind.f64.format.add x y = none := h
  simp [binOp, Op.floatArith, h', Question.forced, nb]
theorem run_mul_nan (P : Program) (t : TypeId) (x y : Nat) (h : F.mul x y = none) (w : World) : (binOp .mul t (.float .f64 x) (.float .f64 y)).run P w = .ok (.float .f64 (nb w x y)) w.drew := by
  have h' : FloatKind.f64.format.mul x y = none := h
  simp [binOp, Op.floatArith, h', Question.forced, nb]
/-- A sum, a product, as it is kept. -/
def addK (x y : Nat) : Int := match F.add x y with | some r => kept r | none => 9221120237041090560
def mulK (x y : Nat) : Int := match F.mul x y with | some r => kept r | none => 9221120237041090560
set_option maxHeartbeats 4000000 in
set_option maxRecDepth 100000 in
theorem add_any (a b : Int) (w : World) : Calls Tryd.prog 39 #[.int .i64 a, .int .i64 b] w fun e w' => e = .returned (.int .i64 (addK (ub a) (ub b))) ∧ Drawn0 w w' := by
  unfold addK
  have HA := Aside0.mk (real_of_f a)
  have HB := Aside0.mk (real_of_f b)
  generalize ub a = x at *
  generalize ub b = y at *
  cases h : F.add x y with
  | none =>
    have hr := run_add_nan Tryd.prog 43 x y h
    clear h
    go_enter Tryd.func39, Tryd.ntmps39
    go_wp2_with (first | (go_at_call 37; (with_reducible refine (real_Of.calls a x _ HA.out).mono ?_); rintro e w' ⟨rfl, ⟨nd, rfl⟩⟩) | (go_at_call 37; (with_reducible refine (real_Of.calls b y _ HB.out).mono ?_); rintro e w' ⟨rfl, ⟨nd, rfl⟩⟩) | (go_at_call 35; (with_reducible refine (real_Canon.calls _ _ _ (canon_nan _ x y)).mono ?_); rintro e w' ⟨rfl, ⟨nd, rfl⟩⟩))
    go_ret
    exact ⟨rfl, ⟨_, rfl⟩⟩
  | some r =>
    have hr := fun w => run_float_arith (P := Tryd.prog) w .add 43 .f64 x y r h
    have HK := Aside0.mk (canon_f r (FloatKind.f64.format.add_lt h))
    clear h
    simp only
    generalize kept r = q at *
    go_enter Tryd.func39, Tryd.ntmps39
    go_wp2_with (first | (go_at_call 37; (with_reducible refine (real_Of.calls a x _ HA.out).mono ?_); rintro e w' ⟨rfl, ⟨nd, rfl⟩⟩) | (go_at_call 37; (with_reducible refine (real_Of.calls b y _ HB.out).mono ?_); rintro e w' ⟨rfl, ⟨nd, rfl⟩⟩) | (go_at_call 35; (with_reducible refine (real_Canon.calls _ _ _ HK.out).mono ?_); rintro e w' ⟨rfl, ⟨nd, rfl⟩⟩))
    go_ret
    exact ⟨rfl, ⟨_, rfl⟩⟩
set_option maxHeartbeats 4000000 in
set_option maxRecDepth 100000 in
theorem mul_any (a b : Int) (w : World) : Calls Tryd.prog 40 #[.int .i64 a, .int .i64 b] w fun e w' => e = .returned (.int .i64 (mulK (ub a) (ub b))) ∧ Drawn0 w w' := by
  unfold mulK
  have HA := Aside0.mk (real_of_f a)
  have HB := Aside0.mk (real_of_f b)
  generalize ub a = x at *
  generalize ub b = y at *
  cases h : F.mul x y with
  | none =>
    have hr := run_mul_nan Tryd.prog 43 x y h
    clear h
    go_enter Tryd.func40, Tryd.ntmps40
    go_wp2_with (first | (go_at_call 37; (with_reducible refine (real_Of.calls a x _ HA.out).mono ?_); rintro e w' ⟨rfl, ⟨nd, rfl⟩⟩) | (go_at_call 37; (with_reducible refine (real_Of.calls b y _ HB.out).mono ?_); rintro e w' ⟨rfl, ⟨nd, rfl⟩⟩) | (go_at_call 35; (with_reducible refine (real_Canon.calls _ _ _ (canon_nan _ x y)).mono ?_); rintro e w' ⟨rfl, ⟨nd, rfl⟩⟩))
    go_ret
    exact ⟨rfl, ⟨_, rfl⟩⟩
  | some r =>
    have hr := fun w => run_float_arith (P := Tryd.prog) w .mul 43 .f64 x y r h
    have HK := Aside0.mk (canon_f r (FloatKind.f64.format.mul_lt h))
    clear h
    simp only
    generalize kept r = q at *
    go_enter Tryd.func40, Tryd.ntmps40
    go_wp2_with (first | (go_at_call 37; (with_reducible refine (real_Of.calls a x _ HA.out).mono ?_); rintro e w' ⟨rfl, ⟨nd, rfl⟩⟩) | (go_at_call 37; (with_reducible refine (real_Of.calls b y _ HB.out).mono ?_); rintro e w' ⟨rfl, ⟨nd, rfl⟩⟩) | (go_at_call 35; (with_reducible refine (real_Canon.calls _ _ _ HK.out).mono ?_); rintro e w' ⟨rfl, ⟨nd, rfl⟩⟩))
    go_ret
    exact ⟨rfl, ⟨_, rfl⟩⟩
theorem sum_comm (u v : Ieee.Datum) : u.sum v = v.sum u := by
  cases u with
  | number s m i =>
    cases v with
    | number t n j => simp only [Ieee.Datum.sum]; rw [Int.min_comm i j, Int.add_comm, Bool.and_comm]
    | infinity t => rfl
    | nan t n => rfl
  | infinity s =>
    cases v with
    | number t n j => rfl
    | infinity t => cases s <;> cases t <;> rfl
    | nan t n => rfl
  | nan s m => cases v <;> rfl
theorem prod_comm (u v : Ieee.Datum) : u.product v = v.product u := by
  cases u with
  | number s m i =>
    cases v with
    | number t n j => simp only [Ieee.Datum.product]; rw [Bool.xor_comm, Nat.mul_comm, Int.add_comm]
    | infinity t => simp only [Ieee.Datum.product]
    | nan t n => rfl
  | infinity s =>
    cases v with
    | number t n j => simp only [Ieee.Datum.product]
    | infinity t => simp only [Ieee.Datum.product]; rw [Bool.xor_comm]
    | nan t n => rfl
  | nan s m => cases v <;> rfl
theorem fadd_comm (x y : Nat) : F.add x y = F.add y x := by
  unfold Ieee.Format.add; rw [sum_comm]
theorem fmul_comm (x y : Nat) : F.mul x y = F.mul y x := by
  unfold Ieee.Format.mul; rw [prod_comm]
theorem addK_comm (x y : Nat) : addK x y = addK y x := by unfold addK; rw [fadd_comm]
theorem mulK_comm (x y : Nat) : mulK x y = mulK y x := by unfold mulK; rw [fmul_comm]
theorem addK_none {x y : Nat} (h : F.add x y = none) : addK x y = 9221120237041090560 := by unfold addK; rw [h]
theorem mulK_none {x y : Nat} (h : F.mul x y = none) : mulK x y = 9221120237041090560 := by unfold mulK; rw [h]
theorem addK_some {x y r : Nat} (h : F.add x y = some r) : addK x y = kept r := by unfold addK; rw [h]
theorem mulK_some {x y r : Nat} (h : F.mul x y = some r) : mulK x y = kept r := by unfold mulK; rw [h]
theorem eqb {p q : Int} (h : p = q) : (p == q) = true := by rw [h]; exact beq_self_eq_true _
set_option maxHeartbeats 8000000 in
set_option maxRecDepth 100000 in
theorem reckons_walk (a b : Int) (w : World) (hT : Tabs w) :
    Calls Tryd.prog 11 #[.int .i64 a, .int .i64 b] w fun e w' => e = .returned (.bool true) ∧ Below w.heap.size w w' := by
  have HT := Aside0.mk hT
  clear hT
  have CA := Aside0.mk (add_any a b)
  have CB := Aside0.mk (add_any b a)
  have CM := Aside0.mk (mul_any a b)
  have CN := Aside0.mk (mul_any b a)
  have HX := Aside0.mk (rof_f a)
  have HY := Aside0.mk (rof_f b)
  rw [addK_comm (ub b) (ub a)] at CB
  rw [mulK_comm (ub b) (ub a)] at CN
  generalize ub a = x at *
  generalize ub b = y at *
  have t1 : ∀ p : Int, (p == p) = true := fun p => beq_self_eq_true p
  rcases gadd : F.add x y with _ | radd <;> rcases gmul : F.mul x y with _ | rmul
  · have ea := eqb (addK_none gadd)
    have em := eqb (mulK_none gmul)
    have hadd := run_add_nan Tryd.prog 43 x y gadd
    have hmul := run_mul_nan Tryd.prog 43 x y gmul
    clear gadd gmul
    generalize addK x y = p at *
    generalize mulK x y = q at *
    go_enter Tryd.func11, Tryd.ntmps11
    go_wp2_with (first
      | (go_at_call 31; (with_reducible refine (mortmainlaw02_alive.calls true _ HT.out alive2_f).mono ?_); rintro e W1 ⟨rfl, hb1⟩)
      | (go_at_call 34; (with_reducible refine (mortmainref02_Of.calls a x _ HX.out).mono ?_); rintro e w' ⟨rfl, ⟨nd, rfl⟩⟩)
      | (go_at_call 34; (with_reducible refine (mortmainref02_Of.calls b y _ HY.out).mono ?_); rintro e w' ⟨rfl, ⟨nd, rfl⟩⟩)
      | (go_at_call 39; (with_reducible refine (CA.out _).mono ?_); rintro e w' ⟨rfl, ⟨nd, rfl⟩⟩)
      | (go_at_call 39; (with_reducible refine (CB.out _).mono ?_); rintro e w' ⟨rfl, ⟨nd, rfl⟩⟩)
      | (go_at_call 40; (with_reducible refine (CM.out _).mono ?_); rintro e w' ⟨rfl, ⟨nd, rfl⟩⟩)
      | (go_at_call 40; (with_reducible refine (CN.out _).mono ?_); rintro e w' ⟨rfl, ⟨nd, rfl⟩⟩)
      | (go_at_call 33; (with_reducible refine (mortmainref02_Kept.calls _ _ _ (rkept_nan _ x y)).mono ?_); rintro e w' ⟨rfl, ⟨nd, rfl⟩⟩)
      | (go_at_call 33; (with_reducible refine (mortmainref02_Kept.calls _ _ _ (rkept_nan _ x y)).mono ?_); rintro e w' ⟨rfl, ⟨nd, rfl⟩⟩))
    go_ret
    exact ⟨rfl, by repeat (first | exact hb1 | apply pw_below_drewN | apply below_drew1)⟩
  · have ea := eqb (addK_none gadd)
    have em := eqb (mulK_some gmul)
    have hadd := run_add_nan Tryd.prog 43 x y gadd
    have hmul := fun w => run_float_arith (P := Tryd.prog) w .mul 43 .f64 x y rmul gmul
    have HKmul := Aside0.mk (rkept_f rmul (FloatKind.f64.format.mul_lt gmul))
    clear gadd gmul
    generalize addK x y = p at *
    generalize mulK x y = q at *
    generalize kept rmul = km at *
    go_enter Tryd.func11, Tryd.ntmps11
    go_wp2_with (first
      | (go_at_call 31; (with_reducible refine (mortmainlaw02_alive.calls true _ HT.out alive2_f).mono ?_); rintro e W1 ⟨rfl, hb1⟩)
      | (go_at_call 34; (with_reducible refine (mortmainref02_Of.calls a x _ HX.out).mono ?_); rintro e w' ⟨rfl, ⟨nd, rfl⟩⟩)
      | (go_at_call 34; (with_reducible refine (mortmainref02_Of.calls b y _ HY.out).mono ?_); rintro e w' ⟨rfl, ⟨nd, rfl⟩⟩)
      | (go_at_call 39; (with_reducible refine (CA.out _).mono ?_); rintro e w' ⟨rfl, ⟨nd, rfl⟩⟩)
      | (go_at_call 39; (with_reducible refine (CB.out _).mono ?_); rintro e w' ⟨rfl, ⟨nd, rfl⟩⟩)
      | (go_at_call 40; (with_reducible refine (CM.out _).mono ?_); rintro e w' ⟨rfl, ⟨nd, rfl⟩⟩)
      | (go_at_call 40; (with_reducible refine (CN.out _).mono ?_); rintro e w' ⟨rfl, ⟨nd, rfl⟩⟩)
      | (go_at_call 33; (with_reducible refine (mortmainref02_Kept.calls _ _ _ (rkept_nan _ x y)).mono ?_); rintro e w' ⟨rfl, ⟨nd, rfl⟩⟩)
      | (go_at_call 33; (with_reducible refine (mortmainref02_Kept.calls _ _ _ HKmul.out).mono ?_); rintro e w' ⟨rfl, ⟨nd, rfl⟩⟩))
    go_ret
    exact ⟨rfl, by repeat (first | exact hb1 | apply pw_below_drewN | apply below_drew1)⟩
  · have ea := eqb (addK_some gadd)
    have em := eqb (mulK_none gmul)
    have hadd := fun w => run_float_arith (P := Tryd.prog) w .add 43 .f64 x y radd gadd
    have HKadd := Aside0.mk (rkept_f radd (FloatKind.f64.format.add_lt gadd))
    have hmul := run_mul_nan Tryd.prog 43 x y gmul
    clear gadd gmul
    generalize addK x y = p at *
    generalize mulK x y = q at *
    generalize kept radd = ka at *
    go_enter Tryd.func11, Tryd.ntmps11
    go_wp2_with (first
      | (go_at_call 31; (with_reducible refine (mortmainlaw02_alive.calls true _ HT.out alive2_f).mono ?_); rintro e W1 ⟨rfl, hb1⟩)
      | (go_at_call 34; (with_reducible refine (mortmainref02_Of.calls a x _ HX.out).mono ?_); rintro e w' ⟨rfl, ⟨nd, rfl⟩⟩)
      | (go_at_call 34; (with_reducible refine (mortmainref02_Of.calls b y _ HY.out).mono ?_); rintro e w' ⟨rfl, ⟨nd, rfl⟩⟩)
      | (go_at_call 39; (with_reducible refine (CA.out _).mono ?_); rintro e w' ⟨rfl, ⟨nd, rfl⟩⟩)
      | (go_at_call 39; (with_reducible refine (CB.out _).mono ?_); rintro e w' ⟨rfl, ⟨nd, rfl⟩⟩)
      | (go_at_call 40; (with_reducible refine (CM.out _).mono ?_); rintro e w' ⟨rfl, ⟨nd, rfl⟩⟩)
      | (go_at_call 40; (with_reducible refine (CN.out _).mono ?_); rintro e w' ⟨rfl, ⟨nd, rfl⟩⟩)
      | (go_at_call 33; (with_reducible refine (mortmainref02_Kept.calls _ _ _ HKadd.out).mono ?_); rintro e w' ⟨rfl, ⟨nd, rfl⟩⟩)
      | (go_at_call 33; (with_reducible refine (mortmainref02_Kept.calls _ _ _ (rkept_nan _ x y)).mono ?_); rintro e w' ⟨rfl, ⟨nd, rfl⟩⟩))
    go_ret
    exact ⟨rfl, by repeat (first | exact hb1 | apply pw_below_drewN | apply below_drew1)⟩
  · have ea := eqb (addK_some gadd)
    have em := eqb (mulK_some gmul)
    have hadd := fun w => run_float_arith (P := Tryd.prog) w .add 43 .f64 x y radd gadd
    have HKadd := Aside0.mk (rkept_f radd (FloatKind.f64.format.add_lt gadd))
    have hmul := fun w => run_float_arith (P := Tryd.prog) w .mul 43 .f64 x y rmul gmul
    have HKmul := Aside0.mk (rkept_f rmul (FloatKind.f64.format.mul_lt gmul))
    clear gadd gmul
    generalize addK x y = p at *
    generalize mulK x y = q at *
    generalize kept radd = ka at *
    generalize kept rmul = km at *
    go_enter Tryd.func11, Tryd.ntmps11
    go_wp2_with (first
      | (go_at_call 31; (with_reducible refine (mortmainlaw02_alive.calls true _ HT.out alive2_f).mono ?_); rintro e W1 ⟨rfl, hb1⟩)
      | (go_at_call 34; (with_reducible refine (mortmainref02_Of.calls a x _ HX.out).mono ?_); rintro e w' ⟨rfl, ⟨nd, rfl⟩⟩)
      | (go_at_call 34; (with_reducible refine (mortmainref02_Of.calls b y _ HY.out).mono ?_); rintro e w' ⟨rfl, ⟨nd, rfl⟩⟩)
      | (go_at_call 39; (with_reducible refine (CA.out _).mono ?_); rintro e w' ⟨rfl, ⟨nd, rfl⟩⟩)
      | (go_at_call 39; (with_reducible refine (CB.out _).mono ?_); rintro e w' ⟨rfl, ⟨nd, rfl⟩⟩)
      | (go_at_call 40; (with_reducible refine (CM.out _).mono ?_); rintro e w' ⟨rfl, ⟨nd, rfl⟩⟩)
      | (go_at_call 40; (with_reducible refine (CN.out _).mono ?_); rintro e w' ⟨rfl, ⟨nd, rfl⟩⟩)
      | (go_at_call 33; (with_reducible refine (mortmainref02_Kept.calls _ _ _ HKadd.out).mono ?_); rintro e w' ⟨rfl, ⟨nd, rfl⟩⟩)
      | (go_at_call 33; (with_reducible refine (mortmainref02_Kept.calls _ _ _ HKmul.out).mono ?_); rintro e w' ⟨rfl, ⟨nd, rfl⟩⟩))
    go_ret
    exact ⟨rfl, by repeat (first | exact hb1 | apply pw_below_drewN | apply below_drew1)⟩
end Go.Proofs.YtmaciepkkianhaaDoor.M
namespace Go.Proofs.YtmaciepkkianhaaDoor.QReal
open Go.Proofs.YtmaciepkkianhaaDoor.H Go.RowKit Go.Proofs.YtmaciepkkianhaaDoorW.PrintWords
/-- What the law answers, as its walk tells. -/
def mortmainlaw02_RealReckons.f (_a0 _a1 : Int) : Option Bool := some true
theorem mortmainlaw02_RealReckons.calls (a0 a1 : Int) (r : Bool) (w : World) (hT : Tabs w) (_hr : Aside0 (r = true)) (h : mortmainlaw02_RealReckons.f a0 a1 = some r) :
    Calls Tryd.prog 11 #[.int .i64 a0, .int .i64 a1] w fun e w' => e = .returned (.bool r) ∧ Below w.heap.size w w' := by
  obtain rfl := Option.some.inj h
  exact M.reckons_walk a0 a1 w hT
end Go.Proofs.YtmaciepkkianhaaDoor.QReal
namespace Go.Proofs.YtmaciepkkianhaaDoor.M
theorem reckons_true (a0 a1 : Int) : QReal.mortmainlaw02_RealReckons.f a0 a1 = some true := rfl
end Go.Proofs.YtmaciepkkianhaaDoor.M

namespace Go.Proofs.YtmaciepkkianhaaDoor.V
theorem witness_row_zip {H : Type} {enc : TypeId × Value → H} {C : Checked} {os : Os} {f : FuncId} {fn : Func} {s : OpenSpec} {conds : List PathCond} {apart : Bool} {laid : List (String × DataW Unit)} (modest : Bool) (w0 : World) (args : Array Value) (hos : w0.os = os)
    (hv : (w0.forCall (fun _ _ => 0) ⟨#[], args, []⟩).variablesZipB C.prog = true)
    (hr : ((w0.forCall (fun _ _ => 0) ⟨#[], args, []⟩).heap.toList.drop C.prog.globals.size).take ((begin C.prog (fun _ _ => 0) default).world.heap.size - C.prog.globals.size) =
      (begin C.prog (fun _ _ => 0) default).world.heap.toList.drop C.prog.globals.size)
    (hok : Input.okWideB C.prog (w0.forCall (fun _ _ => 0) ⟨#[], args, []⟩) f ⟨#[], args, []⟩ = true)
    (hrow : s.preRow enc C.prog fn conds apart laid (w0.forCall (fun _ _ => 0) ⟨#[], args, []⟩).memory args) :
    ∃ (w : World) (tape : Tape) (i : Input), w.os = os ∧ (w.forCall tape i).Shaped C.prog ∧ i.vars = [] ∧ Input.okWide C.prog (w.forCall tape i) .any w.heap.size f i ∧
      s.preRow enc C.prog fn conds apart laid (w.forCall tape i).memory i.args ∧ ({ modest := modest } : Assume).holds C.prog (lone (Frame.enter C.prog f i.args .normal) [] (w.forCall tape i)) :=
  ⟨w0, fun _ _ => 0, ⟨#[], args, []⟩, hos, World.shaped_of_ZipB hv hr, (Input.okWide_of_okWideB (base := 0) hok).1, (Input.okWide_of_okWideB hok).2, hrow, by
    simp only [Assume.holds]
    exact ⟨by simp, by simp, fun _ => Modest.zero, by simp, by simp⟩⟩
end Go.Proofs.YtmaciepkkianhaaDoor.V

namespace Go.Proofs.YtmaciepkkianhaaDoor.realReckons
open Go.ChangeShapes Go.WideShapes Go.ChangeAt Go.RowKit Go.Joins
open Go.ChangeMaps (open_string shut_string)
set_option linter.unusedVariables false
theorem own : ownKnob Tryd.prog.godebug = none := by kernel_rfl
theorem laidOut : laidOutB Tryd.prog = true := by kernel_rfl
/-- What every world of the row holds that the walk asks for. -/
theorem tens_eq : (Rows.laid_internal_strconv_uint64pow10 : DataW Unit) = Lib.tabData .u64 Lib.pow10Tab := by kernel_rfl
theorem tabs {W : World} (h : W.ShapedOpen Tryd.prog) (hL : laidMet Tryd.prog Rows.realReckonsRow.laid W) : H.Tabs W := by
  have hm : ∃ m, W.cell? ⟨1, 0, none⟩ = some (.int .i64 m) := cell_of_shapedOpen_int (g := 1) (t := 3) (zero := #[.int .i64 0]) (k := .i64) h (of_decide_eq_true (by kernel_rfl)) (by kernel_rfl) rfl (by kernel_rfl) (by kernel_rfl) (by kernel_rfl)
  have h1 := (Lib.laidMet.reads hL (n := "internal/strconv.uint64pow10") (d := Rows.laid_internal_strconv_uint64pow10) (List.mem_of_getElem? (i := 3) rfl))
  rw [tens_eq] at h1
  have h2 := (Lib.laidMet.reads hL (n := "internal/strconv.pow10Tab") (d := Rows.laid_internal_strconv_pow10Tab) (List.mem_of_getElem? (i := 5) rfl))
  exact ⟨hm, T.tabIs_of_reads (g := 5) (t := 142) (e := 47) (n := 20) (by kernel_rfl) (by kernel_rfl) Tryd.underlying142 Tryd.underlying47 (by kernel_rfl) (by kernel_rfl) h1,
    fun i x hx => T.pairs_cell (g := 6) (t := 153) (e := 152) (n := 696) (k := .u64) (zs := Go.Pinned.pow10Rows) (by kernel_rfl) (by kernel_rfl) Tryd.underlying153 Tryd.underlying152 (fun i f hf => match i, hf with | 0, h => by (obtain rfl := Option.some.inj h; exact ⟨Tryd.underlying47, rfl, by kernel_rfl⟩) | 1, h => by (obtain rfl := Option.some.inj h; exact ⟨Tryd.underlying47, rfl, by kernel_rfl⟩) | n + 2, h => by (simp at h)) rfl (by kernel_rfl) h2 i x hx⟩
theorem int_in {n : Int} (h : (Lit.int .i64 n).wf = true) : M.I n := by
  have h2 : -9223372036854775808 ≤ n ∧ n ≤ 9223372036854775807 := by
    simp only [Lit.wf, IntKind.min, IntKind.max, IntKind.signed, IntKind.bits, Bool.and_eq_true, decide_eq_true_eq, if_true] at h
    omega
  exact h2
set_option maxHeartbeats 1600000 in
set_option maxRecDepth 100000 in
theorem contract (H : Type) (enc : TypeId × Value → H) (W : World) (base : Nat) (args : Array Value) (ds gs : List (DataW H)) (before : List MemPlace)
    (hval0 : ∀ (j : Nat) t v, Tryd.f11.params[j]? = some t → args[j]? = some v → Value.okWide Tryd.prog W .any base t v)
    (hW : DataW.Whole enc Tryd.prog Tryd.f11.params.toList Rows.realReckonsSpec.vars false W args.toList ds gs before)
    (hsz0 : (DataW.weightsEach Tryd.prog (Tryd.f11.params.toList ++ Rows.realReckonsSpec.plain.varTypes Tryd.prog) (ds ++ gs)).all (· ≤ reachBytes) = true)
    (hsh : W.ShapedOpen Tryd.prog) (hL : laidMet Tryd.prog Rows.realReckonsRow.laid W) :
    Calls Tryd.prog 11 args W fun e W' => ∃ v, e = .returned v ∧ Rows.realReckonsSpec.post enc Tryd.prog Tryd.f11 false true false false W args v W' := by
  have hT := tabs hsh hL
  have hsz : (DataW.weightsEach Tryd.prog (Tryd.f11.params.toList ++ Rows.realReckonsSpec.plain.varTypes Tryd.prog) (ds ++ gs)).all (· ≤ reachBytes) = true := hsz0
  have hval : ∀ (j : Nat) t v, Tryd.f11.params[j]? = some t → args[j]? = some v → Value.okWide Tryd.prog W .any base t v := hval0
  have hW' := hW
  obtain ⟨p, q, hA0, hV, rfl, hfz, hnd⟩ := hW
  have hA : DataW.TrodAll enc Tryd.prog W 0 (fun _ => true) true Tryd.f11.params.toList args.toList ds p := hA0
  rw [Tryd.params11] at hA hval hsz
  obtain ⟨v0, vs0, d0, ds0, p0, q0, hargs, rfl, rfl, h0, r0⟩ := trodAll_cons hA
  obtain ⟨v1, vs1, d1, ds1, p1, q1, rfl, rfl, rfl, h1, r1⟩ := trodAll_cons r0
  obtain ⟨rfl, rfl, rfl⟩ := trodAll_nil r1
  obtain rfl : args = #[v0, v1] := by cases args; simp_all
  obtain ⟨rfl, rfl⟩ := trodVars_none hV
  obtain ⟨a0, rfl, rfl, rfl, y0⟩ := open_int Tryd.underlying3 (hval 0 3 v0 rfl rfl) h0
  obtain ⟨a1, rfl, rfl, rfl, y1⟩ := open_int Tryd.underlying3 (hval 1 3 v1 rfl rfl) h1
  clear hA0 hval0 hsz0 hsz
  have pure_ := M.reckons_true a0 a1 
  refine (QReal.mortmainlaw02_RealReckons.calls a0 a1 true W  hT ⟨rfl⟩ pure_).mono fun e W' ⟨he, bel⟩ => ?_
  subst he
  exact ⟨_, rfl, _, _, _, [], _, [], hW', trodAll_mk1 (shut_bool Tryd.underlying4 _), (trodAll_cons_mk (shut_int Tryd.underlying3 y0) (trodAll_cons_mk (shut_int Tryd.underlying3 y1) trodAll_mk0)), rfl, bel.frame _, fun h => by cases h⟩
noncomputable def laidWorld (os : Os) : World := World.laidAll Tryd.prog os Rows.realReckonsRow.laid
theorem laid_met (os : Os) : laidMet Tryd.prog Rows.realReckonsRow.laid ((laidWorld os).forCall (fun _ _ => 0) ⟨#[], #[.int .i64 0, .int .i64 0], []⟩).memory :=
  laidMet_laidAll _ (by kernel_rfl) (by kernel_rfl)
theorem reads (os : Os) {H : Type} (enc : TypeId × Value → H) : ∃ places, DataW.whole enc Tryd.prog ((laidWorld os).forCall (fun _ _ => 0) ⟨#[], #[.int .i64 0, .int .i64 0], []⟩).memory Tryd.f11.params.toList Rows.realReckonsSpec.vars false (#[.int .i64 0, .int .i64 0] : Array Value).toList 8 = some ([.lit (.int .i64 0), .lit (.int .i64 0)], [], places) :=
  ⟨[], by kernel_rfl⟩
set_option maxRecDepth 100000 in
theorem lifted (os : Os) (started : os.Started) (H : Type) (enc : TypeId × Value → H) (F : Stop.Interp) :
    ReturnsInHanded {} Tryd.checked os 11 .any ((OpenSpec.ofChange Rows.realReckonsSpec).preRow enc Tryd.prog Tryd.f11 Rows.realReckonsRow.domain false Rows.realReckonsRow.laid) (((OpenSpec.ofChange Rows.realReckonsSpec).at F).post enc Tryd.prog Tryd.f11 false true false false) := by
  obtain ⟨places, hx⟩ := reads os enc
  refine returnsInHanded_of_row (C := Tryd.checked) (s := OpenSpec.ofChange Rows.realReckonsSpec) own started (by kernel_rfl) Tryd.func11
    (V.witness_row_zip (enc := enc) (C := Tryd.checked) false (laidWorld os) #[.int .i64 0, .int .i64 0] (World.laidAll_os _ _ _) (by kernel_rfl) (by kernel_rfl) (by kernel_rfl)
      (OpenSpec.preRow_of_cond 8 hx (by kernel_rfl) (fun k hk => by cases hk) (by kernel_rfl) (laid_met os))) ?_
  intro W base args ds gs before hval hW _ _ hsz hL hsh _
  exact contract H enc W base args ds gs before hval hW hsz hsh hL
theorem said : Rows.RealReckonsSaid :=
  OpenClaim.holds_of_cond 11 Tryd.f11 rfl rfl rfl rfl rfl rfl rfl ⟨rfl, rfl, rfl, rfl, rfl⟩ rfl rfl rfl rfl rfl (by kernel_rfl) Tryd.func11 (by kernel_rfl)
    (of_decide_eq_true (by kernel_rfl)) (by unfold Func.isWrapper; first | (rw [if_pos (by decide +kernel)]; kernel_rfl) | (rw [if_neg (by decide +kernel)]; exact ⟨rfl, rfl⟩))
    (fun os started H enc _ F => by rw [OpenClaim.pre_eq_preRow]; exact lifted os started H enc F)
theorem plain (f : FuncId) (fn : Func) (hf : Tryd.pinned.checked.prog.funcNamed "mortmain/mortmainlaw02.RealReckons" = some f) (hfn : Tryd.pinned.checked.prog.funcs[f]? = some fn) :
    false = Tryd.pinned.checked.prog.looks [] ∧ ∀ (j : Nat) t, fn.params[j]? = some t → Tryd.pinned.checked.prog.wantsStandIn t = false := by
  obtain rfl : f = 11 := Option.some.inj ((show Tryd.prog.funcNamed "mortmain/mortmainlaw02.RealReckons" = some 11 by kernel_rfl).symm.trans hf) |>.symm
  obtain rfl : fn = Tryd.f11 := (Option.some.inj (Tryd.func11.symm.trans hfn)).symm
  refine ⟨by kernel_rfl, fun j t ht => ?_⟩
  rw [Tryd.params11] at ht
  have hm := Array.mem_of_getElem? ht
  have h2 := Array.mem_toList_iff.mpr hm
  change t ∈ ([3, 3] : List Nat) at h2
  simp only [List.mem_cons, List.not_mem_nil, or_false] at h2
  rcases h2 with rfl | rfl
  · exact (show Tryd.prog.wantsStandIn 3 = false by kernel_rfl)
  · exact (show Tryd.prog.wantsStandIn 3 = false by kernel_rfl)
/-- The card. -/
theorem card : Rows.RealReckonsCardSaid :=
  Claim7.holds_tied_plain_at .later [] _ _ _ _ said (fun _ h => by cases h) (by kernel_rfl) (fun _ h => by cases h) realReckons_row_tie rfl ⟨rfl, rfl⟩ (by kernel_rfl) rfl plain (by kernel_rfl)
#print axioms card
end Go.Proofs.YtmaciepkkianhaaDoor.realReckons
