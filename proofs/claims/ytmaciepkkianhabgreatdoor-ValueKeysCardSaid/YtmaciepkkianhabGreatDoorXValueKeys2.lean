/- The law mortmainlaw03.ValueKeys: its row and its card, out of the walk (printed) and the plain fact that it answers true. Written by rowgen.py, this claim's own program. Lean checks it. -/
import Derived.Test.YtmaciepkkianhabGreatDoorXValueKeys0
import Derived.Test.YtmaciepkkianhabGreatDoorXValueKeys1
import Derived.Laws.BitsAllLaws
import Derived.Laws.FloatBits
import Derived.WalkKit
import Derived.Lib.SplitLaws
import Derived.Laws.Strings
import Derived.Shaped
import Derived.Lay
import Derived.Deep.DeepHandedRow
import Derived.Test.YtmaciepkkianhabGreatDoorCards
import Derived.Test.YtmaciepkkianhabGreatDoorTie
import Derived.ProofKit
import Derived.OpenShut
import Derived.ShutString
import Derived.ChangeOld
import Derived.Below
import Derived.SizedLaws
import Derived.Carry
import Derived.Lib.LaidTab
import Derived.Lib.SmallJoins
import Derived.Shelf.Vars
import Derived.Lib.LaidU8
import Derived.Laws.Cover2
namespace Go.Proofs.YtmaciepkkianhabGreatDoor.M
open Go.RowKit

/-! ### Bits -/
theorem xor_top_nat (c : Nat) (h : c < 9223372036854775808) : c ^^^ 9223372036854775808 = c + 9223372036854775808 := by
  apply Nat.eq_of_testBit_eq
  intro i
  rw [Nat.testBit_xor, show (9223372036854775808 : Nat) = 2 ^ 63 from rfl, Nat.testBit_two_pow, Nat.add_comm]
  by_cases hi : i = 63
  · subst hi
    rw [Nat.testBit_two_pow_add_eq, Nat.testBit_lt_two_pow (by simpa using h)]
    rfl
  · rcases Nat.lt_or_gt_of_ne hi with hl | hg
    · rw [Nat.testBit_two_pow_add_gt hl]
      simp [show ¬ 63 = i by omega]
    · rw [Nat.testBit_lt_two_pow (Nat.lt_of_lt_of_le h (Nat.pow_le_pow_right (n := 2) (by decide) (by omega : 63 ≤ i)))]
      rw [Nat.testBit_lt_two_pow (Nat.lt_of_lt_of_le (by omega : 2 ^ 63 + c < 2 ^ 64) (Nat.pow_le_pow_right (n := 2) (by decide) (by omega : 64 ≤ i)))]
      simp [show ¬ 63 = i by omega]
theorem xor_top_nat' (c : Nat) (h : c < 9223372036854775808) : (c + 9223372036854775808) ^^^ 9223372036854775808 = c := by
  rw [← xor_top_nat c h, Nat.xor_assoc, Nat.xor_self, Nat.xor_zero]
theorem and_top (x : Int) (h0 : 0 ≤ x) (h1 : x < 18446744073709551616) : bits .and .u64 x 9223372036854775808 = if x < 9223372036854775808 then 0 else 9223372036854775808 := by
  rw [u64_and x _ h0 h1 (by omega) (by omega)]
  rw [show (9223372036854775808 : Int).toNat = 2 ^ 63 from rfl, nat_bit]
  split <;> (simp only [show (2 : Nat) ^ 63 = 9223372036854775808 from rfl]; omega)
theorem or_top (x : Int) (h0 : 0 ≤ x) (h1 : x < 9223372036854775808) : bits .or .u64 x 9223372036854775808 = x + 9223372036854775808 := by
  rw [u64_or x _ h0 (by omega) (by omega) (by omega)]
  rw [show (9223372036854775808 : Int).toNat = 2 ^ 63 from rfl, Nat.or_comm, nat_join 63 _ _ (by simp) (by simp only [show (2 : Nat) ^ 63 = 9223372036854775808 from rfl]; omega)]
  simp only [show (2 : Nat) ^ 63 = 9223372036854775808 from rfl]; omega
theorem xor_top (x : Int) (h0 : 0 ≤ x) (h1 : x < 18446744073709551616) : bits .xor .u64 x 9223372036854775808 = if x < 9223372036854775808 then x + 9223372036854775808 else x - 9223372036854775808 := by
  rw [u64_xor x _ h0 h1 (by omega) (by omega)]
  rw [show (9223372036854775808 : Int).toNat = 9223372036854775808 from rfl]
  split
  · rw [xor_top_nat _ (by omega)]; omega
  · obtain ⟨c, hc⟩ : ∃ c, x.toNat = c + 9223372036854775808 := ⟨x.toNat - 9223372036854775808, by omega⟩
    rw [hc, xor_top_nat' c (by omega)]; omega
theorem xor_max_nat (a : Nat) (h : a < 18446744073709551616) : 18446744073709551615 ^^^ a = 18446744073709551615 - a := by
  apply Nat.eq_of_testBit_eq
  intro i
  rw [Nat.testBit_xor, show 18446744073709551615 - a = 2 ^ 64 - (a + 1) by omega, Nat.testBit_two_pow_sub_succ (by simpa using h), show (18446744073709551615 : Nat) = 2 ^ 64 - 1 from rfl, Nat.testBit_two_pow_sub_one]
  by_cases hi : i < 64
  · simp [hi]
  · rw [Nat.testBit_lt_two_pow (Nat.lt_of_lt_of_le (by simpa using h : a < 2 ^ 64) (Nat.pow_le_pow_right (by decide) (by omega)))]
    simp [hi]
theorem u64_max : IntKind.u64.max = 18446744073709551615 := by decide
theorem xor_max (x : Int) (h0 : 0 ≤ x) (h1 : x < 18446744073709551616) : bits .xor .u64 IntKind.u64.max x = 18446744073709551615 - x := by
  rw [u64_max, u64_xor _ x (by omega) (by omega) h0 h1]
  rw [show (18446744073709551615 : Int).toNat = 18446744073709551615 from rfl, xor_max_nat _ (by omega)]
  omega
theorem wrap_u64 (n : Int) : IntKind.u64.wrap n = n % 18446744073709551616 := IntKind.wrap_u64 n
theorem u64_range (n : Int) : 0 ≤ IntKind.u64.wrap n ∧ IntKind.u64.wrap n < 18446744073709551616 := by rw [wrap_u64]; omega

/-! ### Floats by their bits -/
abbrev F := FloatKind.f64.format
/-- The magnitude that a rung has, in units of the least one. -/
def mval (r : Nat) : Nat := if r < 4503599627370496 then r else (4503599627370496 + r % 4503599627370496) * 2 ^ (r / 4503599627370496 - 1)
theorem mval_step (r : Nat) : mval r < mval (r + 1) := by
  unfold mval
  by_cases h : r + 1 < 4503599627370496
  · rw [if_pos h, if_pos (by omega)]; omega
  · rw [if_neg h]
    by_cases h2 : r < 4503599627370496
    · obtain rfl : r = 4503599627370495 := by omega
      decide
    · rw [if_neg h2]
      by_cases h3 : r % 4503599627370496 = 4503599627370495
      · have e1 : (r + 1) / 4503599627370496 - 1 = (r / 4503599627370496 - 1) + 1 := by omega
        have e2 : (r + 1) % 4503599627370496 = 0 := by omega
        rw [e1, e2, h3, Nat.pow_succ]
        have := Nat.two_pow_pos (r / 4503599627370496 - 1)
        generalize 2 ^ (r / 4503599627370496 - 1) = p at *
        omega
      · have e1 : (r + 1) / 4503599627370496 - 1 = r / 4503599627370496 - 1 := by omega
        have e2 : (r + 1) % 4503599627370496 = r % 4503599627370496 + 1 := by omega
        rw [e1, e2]
        exact Nat.mul_lt_mul_of_pos_right (by omega) (Nat.two_pow_pos _)
theorem mval_lt {r s : Nat} (h : r < s) : mval r < mval s := by
  induction s with
  | zero => omega
  | succ s ih =>
    rcases Nat.lt_or_ge r s with hl | hg
    · exact Nat.lt_trans (ih hl) (mval_step s)
    · obtain rfl : r = s := by omega
      exact mval_step r
theorem mval_lt_iff {r s : Nat} : mval r < mval s ↔ r < s := by
  constructor
  · intro h
    rcases Nat.lt_trichotomy r s with hl | he | hg
    · exact hl
    · subst he; omega
    · have := mval_lt hg; omega
  · exact mval_lt

/-- What is no number; what a float is ordered by. -/
def isNan (u : Nat) : Bool := decide (u % 9223372036854775808 > 9218868437227405312)
def skey (u : Nat) : Int := if u < 9223372036854775808 then (u : Int) else -((u - 9223372036854775808 : Nat) : Int)

theorem read_eq (u : Nat) : F.read u =
    (let neg := u / 9223372036854775808 % 2 == 1
     let r := u % 9223372036854775808
     if r < 4503599627370496 then .number neg r (-1074)
     else if r < 9218868437227405312 then .number neg (4503599627370496 + r % 4503599627370496) (-1074 + (r / 4503599627370496 - 1 : Nat))
     else if r = 9218868437227405312 then .infinity neg
     else .nan neg (r - 9218868437227405312)) := by
  rfl

def sg (s : Bool) (n : Nat) : Int := if s then -(n : Int) else n
theorem cmp_congr {a b c d : Int} (h1 : a < b ↔ c < d) (h2 : a = b ↔ c = d) : compare a b = compare c d := by
  simp only [compare, compareOfLessAndEq, h1, h2]
theorem sg_lt {f : Nat → Nat} (hf : ∀ {r s : Nat}, f r < f s ↔ r < s) (h0 : f 0 = 0) (s t : Bool) (a b : Nat) : sg s (f a) < sg t (f b) ↔ sg s a < sg t b := by
  have h1 := @hf a b
  have h2 := @hf b a
  have h3 := @hf 0 a
  have h4 := @hf 0 b
  rw [h0] at h3 h4
  cases s <;> cases t <;> simp only [sg] <;> simp <;> omega
theorem sg_eq {f : Nat → Nat} (hf : ∀ {r s : Nat}, f r < f s ↔ r < s) (h0 : f 0 = 0) (s t : Bool) (a b : Nat) : sg s (f a) = sg t (f b) ↔ sg s a = sg t b := by
  have h1 := @hf a b
  have h2 := @hf b a
  have h3 := @hf 0 a
  have h4 := @hf 0 b
  rw [h0] at h3 h4
  cases s <;> cases t <;> simp only [sg] <;> simp <;> omega
theorem signed_sg (s : Bool) (m up : Nat) : Ieee.signed s m up = sg s (m * 2 ^ up) := by
  unfold Ieee.signed sg
  rw [Nat.shiftLeft_eq]
theorem sg_mul (s : Bool) (m p : Nat) : sg s (m * p) = sg s m * (p : Int) := by
  cases s <;> simp [sg, Int.neg_mul]
theorem cmp_scale (s t : Bool) (m n e1 e2 : Nat) :
    compare (Ieee.signed s m ((-1074 + (e1 : Int)) - min (-1074 + (e1 : Int)) (-1074 + (e2 : Int))).toNat) (Ieee.signed t n ((-1074 + (e2 : Int)) - min (-1074 + (e1 : Int)) (-1074 + (e2 : Int))).toNat) = compare (sg s (m * 2 ^ e1)) (sg t (n * 2 ^ e2)) := by
  rw [signed_sg, signed_sg]
  have q1 : ((-1074 + (e1 : Int)) - min (-1074 + (e1 : Int)) (-1074 + (e2 : Int))).toNat = e1 - min e1 e2 := by omega
  have q2 : ((-1074 + (e2 : Int)) - min (-1074 + (e1 : Int)) (-1074 + (e2 : Int))).toNat = e2 - min e1 e2 := by omega
  rw [q1, q2]
  have p1 : m * 2 ^ e1 = m * 2 ^ (e1 - min e1 e2) * 2 ^ min e1 e2 := by rw [Nat.mul_assoc, ← Nat.pow_add]; congr 2; omega
  have p2 : n * 2 ^ e2 = n * 2 ^ (e2 - min e1 e2) * 2 ^ min e1 e2 := by rw [Nat.mul_assoc, ← Nat.pow_add]; congr 2; omega
  rw [p1, p2, sg_mul s (m * 2 ^ (e1 - min e1 e2)), sg_mul t (n * 2 ^ (e2 - min e1 e2))]
  have hp : (0 : Int) < ((2 ^ min e1 e2 : Nat) : Int) := by exact_mod_cast Nat.two_pow_pos _
  generalize ((2 ^ min e1 e2 : Nat) : Int) = p at *
  apply cmp_congr
  · exact (Int.mul_lt_mul_right hp).symm
  · exact ⟨fun h => by rw [h], fun h => Int.eq_of_mul_eq_mul_right (by omega) h⟩

def neg (u : Nat) : Bool := u / 9223372036854775808 % 2 == 1
theorem skey_sg (u : Nat) (hu : u < 18446744073709551616) : skey u = sg (neg u) (u % 9223372036854775808) := by
  unfold skey sg neg
  by_cases h : u < 9223372036854775808
  · rw [if_pos h, if_neg (by simp; omega)]; omega
  · rw [if_neg h, if_pos (by simp; omega)]; omega
/-- A finite float's datum: the magnitude of its rung, in units of the least one. -/
theorem read_fin (u : Nat) (h : u % 9223372036854775808 < 9218868437227405312) :
    ∃ m e : Nat, F.read u = .number (neg u) m (-1074 + (e : Int)) ∧ m * 2 ^ e = mval (u % 9223372036854775808) := by
  rw [read_eq]
  by_cases h1 : u % 9223372036854775808 < 4503599627370496
  · exact ⟨u % 9223372036854775808, 0, by simp only [if_pos h1]; rfl, by unfold mval; rw [if_pos h1]; simp⟩
  · exact ⟨_, _, by simp only [if_neg h1, if_pos h]; rfl, by unfold mval; rw [if_neg h1]⟩
theorem read_inf (u : Nat) (h : u % 9223372036854775808 = 9218868437227405312) : F.read u = .infinity (neg u) := by
  rw [read_eq]
  simp only [h]; rfl
theorem read_nan (u : Nat) (h : isNan u = true) : ∃ t, F.read u = .nan (neg u) t := by
  have h' : u % 9223372036854775808 > 9218868437227405312 := by simpa [isNan] using h
  rw [read_eq]
  exact ⟨_, by simp only [if_neg (show ¬ u % 9223372036854775808 < 4503599627370496 by omega), if_neg (show ¬ u % 9223372036854775808 < 9218868437227405312 by omega), if_neg (show ¬ u % 9223372036854775808 = 9218868437227405312 by omega)]; rfl⟩

theorem cmp_eq_iff (a b : Int) : compare a b = .eq ↔ a = b := by
  simp only [compare, compareOfLessAndEq]
  split
  · constructor
    · intro h; cases h
    · intro h; omega
  · split <;> simp_all
theorem cmp_lt_iff (a b : Int) : compare a b = .lt ↔ a < b := by
  simp only [compare, compareOfLessAndEq]
  split
  · simp_all
  · split <;> simp_all
theorem cmp_gt_iff (a b : Int) : compare a b = .gt ↔ b < a := by
  simp only [compare, compareOfLessAndEq]
  split
  · constructor
    · intro h; cases h
    · intro h; omega
  · split
    · constructor
      · intro h; cases h
      · intro h; omega
    · constructor
      · intro _; omega
      · intro _; rfl
theorem sg_bound (s : Bool) (r : Nat) (h : r < 9218868437227405312) : sg s r < sg false 9218868437227405312 ∧ sg true 9218868437227405312 < sg s r := by
  simp only [sg, if_true, Bool.false_eq_true, if_false]
  cases s <;> simp <;> omega
/-- The order of two floats that are numbers. -/
theorem order_num (u v : Nat) (hu : u < 18446744073709551616) (hv : v < 18446744073709551616) (nu : isNan u = false) (nv : isNan v = false) :
    F.order u v = some (compare (skey u) (skey v)) := by
  have au : u % 9223372036854775808 ≤ 9218868437227405312 := by simpa [isNan] using nu
  have av : v % 9223372036854775808 ≤ 9218868437227405312 := by simpa [isNan] using nv
  rw [skey_sg u hu, skey_sg v hv]
  show (F.read u).order (F.read v) = _
  by_cases fu : u % 9223372036854775808 < 9218868437227405312
  · obtain ⟨m, e, ru, mu⟩ := read_fin u fu
    rw [ru]
    by_cases fv : v % 9223372036854775808 < 9218868437227405312
    · obtain ⟨n, f, rv, mv⟩ := read_fin v fv
      rw [rv]
      simp only [Ieee.Datum.order]
      rw [cmp_scale, mu, mv]
      exact congrArg some (cmp_congr (sg_lt mval_lt_iff (by decide) _ _ _ _) (sg_eq mval_lt_iff (by decide) _ _ _ _))
    · have rv := read_inf v (by omega)
      rw [rv]
      simp only [Ieee.Datum.order]
      have ev : v % 9223372036854775808 = 9218868437227405312 := by omega
      rw [ev]
      have hb := sg_bound (neg u) _ fu
      generalize sg (neg u) (u % 9223372036854775808) = q at *
      congr 1
      cases neg v
      · exact ((cmp_lt_iff _ _).mpr hb.1).symm
      · exact ((cmp_gt_iff _ _).mpr hb.2).symm
  · have ru := read_inf u (by omega)
    rw [ru]
    have eu : u % 9223372036854775808 = 9218868437227405312 := by omega
    rw [eu]
    by_cases fv : v % 9223372036854775808 < 9218868437227405312
    · obtain ⟨n, f, rv, mv⟩ := read_fin v fv
      rw [rv]
      simp only [Ieee.Datum.order]
      have hb := sg_bound (neg v) _ fv
      generalize sg (neg v) (v % 9223372036854775808) = q at *
      congr 1
      cases neg u
      · exact ((cmp_gt_iff _ _).mpr hb.1).symm
      · exact ((cmp_lt_iff _ _).mpr hb.2).symm
    · have rv := read_inf v (by omega)
      rw [rv]
      have ev : v % 9223372036854775808 = 9218868437227405312 := by omega
      rw [ev]
      simp only [Ieee.Datum.order]
      generalize neg u = s
      generalize neg v = t
      cases s <;> cases t <;> decide
theorem order_nan_l (u v : Nat) (h : isNan u = true) : F.order u v = none := by
  obtain ⟨t, hr⟩ := read_nan u h
  show (F.read u).order (F.read v) = _
  rw [hr]; rfl
theorem ne_self (u : Nat) (hu : u < 18446744073709551616) : (F.order u u != some Ordering.eq) = isNan u := by
  cases h : isNan u
  · rw [order_num u u hu hu h h, (cmp_eq_iff _ _).mpr rfl]; rfl
  · rw [order_nan_l u u h]; rfl
theorem eq_zero (u : Nat) (hu : u < 18446744073709551616) (h : isNan u = false) : (F.order u 0 == some Ordering.eq) = decide (u % 9223372036854775808 = 0) := by
  rw [order_num u 0 hu (by omega) h (by decide)]
  have e : compare (skey u) (skey 0) = .eq ↔ u % 9223372036854775808 = 0 := by
    rw [cmp_eq_iff, skey_sg u hu]
    show sg (neg u) _ = 0 ↔ _
    cases neg u <;> simp [sg] <;> omega
  by_cases q : u % 9223372036854775808 = 0
  · rw [e.mpr q]; simp [q]
  · simp only [q, decide_false]
    have : compare (skey u) (skey 0) ≠ .eq := fun h => q (e.mp h)
    cases hc : compare (skey u) (skey 0) <;> simp_all
theorem lt_num (u v : Nat) (hu : u < 18446744073709551616) (hv : v < 18446744073709551616) (nu : isNan u = false) (nv : isNan v = false) :
    (F.order u v == some Ordering.lt) = decide (skey u < skey v) := by
  rw [order_num u v hu hv nu nv]
  by_cases q : skey u < skey v
  · rw [(cmp_lt_iff _ _).mpr q]; simp [q]
  · simp only [q, decide_false]
    have : compare (skey u) (skey v) ≠ .lt := fun h => q ((cmp_lt_iff _ _).mp h)
    cases hc : compare (skey u) (skey v) <;> simp_all

/-- The bits by which a float is kept. -/
def kept (u : Nat) : Int := if isNan u = true then 9221120237041090560 else if u % 9223372036854775808 = 0 then 0 else wrap64 (u : Int)
/-- The bits that an int's are. -/
def ub (n : Int) : Nat := (IntKind.u64.wrap n).toNat
theorem ub_lt (n : Int) : ub n < 18446744073709551616 := by unfold ub; have := u64_range n; omega
end Go.Proofs.YtmaciepkkianhabGreatDoor.M

set_option linter.unusedSimpArgs false
namespace Go.Proofs.YtmaciepkkianhabGreatDoor.M
open Go.RowKit Go.Proofs.YtmaciepkkianhabGreatDoor.H

/-! ### Eight bytes -/
def by8 (n : Nat) : UInt8 := UInt8.ofNat n
def be8 (u : Nat) : List UInt8 := [by8 (u / 72057594037927936), by8 (u / 281474976710656), by8 (u / 1099511627776), by8 (u / 4294967296), by8 (u / 16777216), by8 (u / 65536), by8 (u / 256), by8 u]
def un8 (l : List UInt8) : Nat := l.foldl (fun u b => u * 256 + b.toNat) 0
theorem be8_length (u : Nat) : (be8 u).length = 8 := rfl
theorem by8_toNat (n : Nat) : (by8 n).toNat = n % 256 := by simp [by8]
theorem un8_be8 (u : Nat) (h : u < 18446744073709551616) : un8 (be8 u) = u := by
  simp only [un8, be8, List.foldl, by8_toNat]
  omega
/-! ### The order of bytes -/
abbrev bl := Op.bytesLess
theorem bl_cons (a b : UInt8) (x y : List UInt8) : bl (a :: x) (b :: y) = (decide (a.toNat < b.toNat) || (decide (a.toNat = b.toNat) && bl x y)) := by
  show (a < b || (a == b && bl x y)) = _
  have h1 : decide (a < b) = decide (a.toNat < b.toNat) := decide_eq_decide.mpr UInt8.lt_iff_toNat_lt
  have h2 : (a == b) = decide (a.toNat = b.toNat) := by
    rw [Bool.eq_iff_iff]; simp [UInt8.toNat_inj]
  rw [h1, h2]
theorem lex256 (x y : Nat) (z : Bool) : (decide (x / 256 < y / 256) || (decide (x / 256 = y / 256) && (decide (x % 256 < y % 256) || (decide (x % 256 = y % 256) && z)))) = (decide (x < y) || (decide (x = y) && z)) := by
  rcases Nat.lt_trichotomy x y with h | h | h
  · by_cases h1 : x / 256 < y / 256
    · simp [h, h1]
    · have e : x / 256 = y / 256 := by omega
      have l : x % 256 < y % 256 := by omega
      simp [h, e, l]
  · subst h; simp
  · have n1 : ¬ x < y := by omega
    have n2 : ¬ x = y := by omega
    have n3 : ¬ x / 256 < y / 256 := by omega
    by_cases e : x / 256 = y / 256
    · have n4 : ¬ x % 256 < y % 256 := by omega
      have n5 : ¬ x % 256 = y % 256 := by omega
      simp [n1, n2, n3, e, n4, n5]
    · simp [n1, n2, n3, e]
theorem bl_be8 (u v : Nat) (hu : u < 18446744073709551616) (hv : v < 18446744073709551616) (x y : List UInt8) :
    bl (be8 u ++ x) (be8 v ++ y) = (decide (u < v) || (decide (u = v) && bl x y)) := by
  simp only [be8, List.cons_append, List.nil_append, bl_cons, by8_toNat]
  generalize bl x y = z
  have ou : u / 72057594037927936 % 256 = u / 281474976710656 / 256 := by omega
  have ov : v / 72057594037927936 % 256 = v / 281474976710656 / 256 := by omega
  rw [ou, ov, lex256]
  rw [show u / 281474976710656 = u / 1099511627776 / 256 by omega, show v / 281474976710656 = v / 1099511627776 / 256 by omega, lex256]
  rw [show u / 1099511627776 = u / 4294967296 / 256 by omega, show v / 1099511627776 = v / 4294967296 / 256 by omega, lex256]
  rw [show u / 4294967296 = u / 16777216 / 256 by omega, show v / 4294967296 = v / 16777216 / 256 by omega, lex256]
  rw [show u / 16777216 = u / 65536 / 256 by omega, show v / 16777216 = v / 65536 / 256 by omega, lex256]
  rw [show u / 65536 = u / 256 / 256 by omega, show v / 65536 = v / 256 / 256 by omega, lex256]
  rw [lex256]

/-! ### Texts -/
def esc : List UInt8 → List UInt8
  | [] => []
  | c :: r => if c = 0 then 0 :: 255 :: esc r else c :: esc r
theorem esc_length (t : List UInt8) : t.length ≤ (esc t).length ∧ (esc t).length ≤ 2 * t.length := by
  induction t with
  | nil => simp [esc]
  | cons c r ih => simp only [esc]; split <;> simp <;> omega
theorem txt_step (c : UInt8) (r acc : List UInt8) (h : c ≠ 0) (hr : r ≠ []) : txt (c :: r) acc = txt r (acc ++ [c]) := by
  match r, hr with
  | d :: r, _ => simp [txt, h]
theorem txt_esc (t : List UInt8) : ∀ (acc r : List UInt8), txt (esc t ++ 0 :: 0 :: r) acc = some (acc ++ t, r) := by
  induction t with
  | nil => intro acc r; simp [esc, txt]
  | cons c t ih =>
    intro acc r
    by_cases hc : c = 0
    · subst hc
      simp only [esc, if_true, List.cons_append]
      simp [txt, ih]
    · simp only [esc, if_neg hc, List.cons_append]
      rw [txt_step c _ acc hc (by simp), ih]
      simp
/-- The order of texts' keys. -/
theorem bl_esc : ∀ (a b x y : List UInt8), a ≠ b → bl (esc a ++ 0 :: 0 :: x) (esc b ++ 0 :: 0 :: y) = bl a b := by
  intro a
  induction a with
  | nil =>
    intro b x y h
    match b, h with
    | c :: b, _ =>
      by_cases hc : c = 0
      · subst hc; simp [esc, bl_cons]; rfl
      · have : 0 < c.toNat := by
          have : c.toNat ≠ 0 := fun e => hc (UInt8.toNat_inj.mp (by simpa using e))
          omega
        simp only [esc, if_neg hc, List.nil_append, List.cons_append, bl_cons]
        simp [this]; rfl
  | cons c a ih =>
    intro b x y h
    match b, h with
    | [], _ =>
      by_cases hc : c = 0
      · subst hc; simp [esc, bl_cons]; rfl
      · have : c.toNat ≠ 0 := fun e => hc (UInt8.toNat_inj.mp (by simpa using e))
        simp only [esc, if_neg hc, List.nil_append, List.cons_append, bl_cons]
        simp [this]; rfl
    | d :: b, h =>
      by_cases hcd : c = d
      · subst hcd
        have hab : a ≠ b := fun e => h (by rw [e])
        rw [bl_cons]
        by_cases hc : c = 0
        · subst hc; simp [esc, bl_cons, ih b x y hab]
        · simp only [esc, if_neg hc, List.cons_append, bl_cons, ih b x y hab]
      · have hne : c.toNat ≠ d.toNat := fun e => hcd (UInt8.toNat_inj.mp e)
        rw [bl_cons]
        by_cases hc : c = 0
        · subst hc
          have hd : d ≠ 0 := fun e => hcd e.symm
          have hd0 : 0 < d.toNat := by
            have : d.toNat ≠ 0 := fun e => hd (UInt8.toNat_inj.mp (by simpa using e))
            omega
          simp only [esc, if_true, if_neg hd, List.cons_append, bl_cons]
          simp [hd0]
        · by_cases hd : d = 0
          · subst hd
            have hc0 : ¬ c.toNat = 0 := fun e => hc (UInt8.toNat_inj.mp (by simpa using e))
            simp only [esc, if_true, if_neg hc, List.cons_append, bl_cons]
            simp [hc0]
          · simp only [esc, if_neg hc, if_neg hd, List.cons_append, bl_cons]
            simp [hne]
theorem index_zero_cons (c : UInt8) (l : List UInt8) : Lib.index (c :: l) [0] = if c = 0 then 0 else if Lib.index l [0] == -1 then -1 else Lib.index l [0] + 1 := by
  show (if ([0] : List UInt8).isPrefixOf (c :: l) then 0 else if Lib.index l [0] == -1 then -1 else Lib.index l [0] + 1) = _
  by_cases hc : c = 0
  · subst hc; rfl
  · have h : ((0 : UInt8) == c) = false := beq_eq_false_iff_ne.mpr (Ne.symm hc)
    rw [if_neg hc, if_neg (by simp only [List.isPrefixOf, h]; decide)]
theorem replaceK_esc : ∀ (s : List UInt8) (k : Nat), s.count 0 ≤ k → Lib.replaceK [0] [0, 255] k s = esc s := by
  intro s
  induction s with
  | nil =>
    intro k _
    cases k with
    | zero => rfl
    | succ k => simp [Lib.replaceK, Lib.index, esc]
  | cons c l ih =>
    intro k hk
    by_cases hc : c = 0
    · subst hc
      cases k with
      | zero => simp at hk
      | succ k =>
        rw [List.count_cons_self] at hk
        simp only [Lib.replaceK, index_zero_cons, if_true]
        simp [esc, ih k (by omega)]
    · rw [List.count_cons_of_ne (by simpa [eq_comm] using hc)] at hk
      have h1 := ih k hk
      cases k with
      | zero => simp only [Lib.replaceK] at h1 ⊢; simp only [esc, if_neg hc]; rw [← h1]
      | succ k =>
        simp only [Lib.replaceK] at h1 ⊢
        rw [index_zero_cons, if_neg hc]
        simp only [esc, if_neg hc]
        by_cases hm : Lib.index l [0] = -1
        · rw [hm] at h1 ⊢
          simp at h1 ⊢
          exact h1
        · have hge := Lib.index_ge l [0]
          have h2 : (Lib.index l [0] == -1) = false := beq_eq_false_iff_ne.mpr hm
          have h3 : (Lib.index l [0] + 1 == -1) = false := beq_eq_false_iff_ne.mpr (by omega)
          rw [h2] at h1 ⊢
          simp only [Bool.false_eq_true, if_false] at h1 ⊢
          rw [h3]
          simp only [Bool.false_eq_true, if_false]
          rw [← h1]
          obtain ⟨i, hi⟩ : ∃ i : Nat, Lib.index l [0] = i := ⟨(Lib.index l [0]).toNat, by omega⟩
          rw [hi]
          have e1 : ((i : Int) + 1).toNat = i + 1 := by omega
          have e2 : ((i : Int)).toNat = i := by omega
          rw [e1, e2]
          simp
theorem replaceAll_esc (s : List UInt8) : Lib.replaceAll s [0] [0, 255] = esc s := by
  unfold Lib.replaceAll Lib.replace
  rw [if_neg (by decide)]
  unfold Lib.replaceNum
  rw [if_pos (Or.inl (by decide)), Lib.count_one]
  exact replaceK_esc s _ (Nat.le_refl _)
end Go.Proofs.YtmaciepkkianhabGreatDoor.M

set_option linter.unusedSimpArgs false
namespace Go.Proofs.YtmaciepkkianhabGreatDoor.M
open Go.RowKit Go.Proofs.YtmaciepkkianhabGreatDoor.H

abbrev Val := Int × Int × List UInt8
/-- Can a value be? -/
def good (v : Val) : Prop :=
  (v.1 = 0 ∧ v.2.1 = 0 ∧ v.2.2 = []) ∨ (v.1 = 1 ∧ v.2.2 = []) ∨ (v.1 = 2 ∧ v.2.2 = [] ∧ kept (ub v.2.1) = v.2.1) ∨ (v.1 = 3 ∧ v.2.1 = 0 ∧ v.2.2.length ≤ 24)
instance (v : Val) : Decidable (good v) := by unfold good; infer_instance
/-- A float's key, by the bits by which it is kept. -/
def fk (n : Int) : Nat := if ub n < 9223372036854775808 then ub n + 9223372036854775808 else 18446744073709551615 - ub n
def fkey (n : Int) : Nat := fk (kept (ub n))
theorem fk_lt (n : Int) : fk n < 18446744073709551616 := by unfold fk; split <;> omega
theorem ub_inj {m n : Int} (hm : -9223372036854775808 ≤ m ∧ m ≤ 9223372036854775807) (hn : -9223372036854775808 ≤ n ∧ n ≤ 9223372036854775807) (h : ub m = ub n) : m = n := by
  unfold ub at h; simp only [wrap_u64] at h; omega
theorem fk_inj {m n : Int} (hm : -9223372036854775808 ≤ m ∧ m ≤ 9223372036854775807) (hn : -9223372036854775808 ≤ n ∧ n ≤ 9223372036854775807) (h : fk m = fk n) : m = n := by
  apply ub_inj hm hn
  have h1 := ub_lt m; have h2 := ub_lt n
  unfold fk at h
  split at h <;> split at h <;> omega
/-- The number whose key a number is, if there is one. -/
def back (key : Nat) : Int := wrap64 (if key < 9223372036854775808 then (18446744073709551615 - key : Nat) else (key - 9223372036854775808 : Nat) : Int)
theorem back_fk (n : Int) (hn : -9223372036854775808 ≤ n ∧ n ≤ 9223372036854775807) : back (fk n) = n := by
  have h1 := ub_lt n
  unfold back fk
  unfold ub at *
  rw [wrap_u64] at *
  unfold wrap64
  by_cases h : (n % 18446744073709551616).toNat < 9223372036854775808
  · simp only [if_pos h]
    rw [if_neg (by omega)]; omega
  · simp only [if_neg h]
    rw [if_pos (by omega)]; omega
/-- A value's key; nothing of one that can't be. -/
def tail (v : Val) : List UInt8 := if v.1 = 1 then be8 (v.2.1 + 9223372036854775808).toNat else if v.1 = 2 then be8 (fkey v.2.1) else if v.1 = 3 then esc v.2.2 ++ [0, 0] else []
def keyL (v : Val) : List UInt8 := if good v then by8 v.1.toNat :: tail v else []
/-- The value with whose key bytes begin, and what stands behind it. -/
def cutL (s : List UInt8) : Option (Val × List UInt8) :=
  match s with
  | [] => none
  | c :: r =>
    if c = 0 then some ((0, 0, []), r)
    else if c = 1 then (if 8 ≤ r.length then some ((1, (un8 (r.take 8) : Int) - 9223372036854775808, []), r.drop 8) else none)
    else if c = 2 then (if 8 ≤ r.length then (if kept (ub (back (un8 (r.take 8)))) = back (un8 (r.take 8)) then some ((2, back (un8 (r.take 8)), []), r.drop 8) else none) else none)
    else if c = 3 then (match txt r [] with | none => none | some (t, q) => if t.length ≤ 24 then some ((3, 0, t), q) else none)
    else none
/-- The numbers are ints. -/
def inR (v : Val) : Prop := -9223372036854775808 ≤ v.2.1 ∧ v.2.1 ≤ 9223372036854775807
theorem good_kind {v : Val} (h : good v) : v.1 = 0 ∨ v.1 = 1 ∨ v.1 = 2 ∨ v.1 = 3 := by
  rcases h with h | h | h | h
  · exact .inl h.1
  · exact .inr (.inl h.1)
  · exact .inr (.inr (.inl h.1))
  · exact .inr (.inr (.inr h.1))
theorem take8 (u : Nat) (r : List UInt8) : (be8 u ++ r).take 8 = be8 u := rfl
theorem drop8 (u : Nat) (r : List UInt8) : (be8 u ++ r).drop 8 = r := rfl
theorem cut_key (v : Val) (hg : good v) (hr : inR v) (r : List UInt8) : cutL (keyL v ++ r) = some (v, r) := by
  unfold keyL
  rw [if_pos hg]
  obtain ⟨k, n, t⟩ := v
  rcases hg with h | h | h | h
  · obtain ⟨h1, h2, h3⟩ := h
    simp only at h1 h2 h3
    subst h1; subst h2; subst h3
    rfl
  · obtain ⟨h1, h3⟩ := h
    simp only at h1 h3
    subst h1; subst h3
    have hn : (n + 9223372036854775808).toNat < 18446744073709551616 := by unfold inR at hr; simp only at hr; omega
    show cutL (1 :: (be8 (n + 9223372036854775808).toNat ++ r)) = _
    simp only [cutL]
    rw [if_neg (by decide), if_pos True.intro, if_pos (by simp [be8_length]), take8, drop8, un8_be8 _ hn]
    unfold inR at hr; simp only at hr
    have e : ((n + 9223372036854775808).toNat : Int) - 9223372036854775808 = n := by omega
    rw [e]
  · obtain ⟨h1, h3, h4⟩ := h
    simp only at h1 h3 h4
    subst h1; subst h3
    show cutL (2 :: (be8 (fkey n) ++ r)) = _
    have e : fkey n = fk n := by unfold fkey; rw [h4]
    simp only [cutL]
    rw [e, if_neg (by decide), if_neg (by decide), if_pos True.intro, if_pos (by simp [be8_length]), take8, drop8, un8_be8 _ (fk_lt n), back_fk n hr, if_pos h4]
  · obtain ⟨h1, h2, h3⟩ := h
    simp only at h1 h2 h3
    subst h1; subst h2
    show cutL (3 :: ((esc t ++ [0, 0]) ++ r)) = _
    have e : txt ((esc t ++ [0, 0]) ++ r) [] = some (t, r) := by
      have := txt_esc t [] r
      simpa using this
    simp only [cutL]
    rw [if_neg (by decide), if_neg (by decide), if_neg (by decide), if_pos True.intro, e]
    simp only
    rw [if_pos h3]
/-- Less, of two values; of numbers that are floats by 'flt'. -/
def lessF (m n : Int) : Bool := if isNan (ub m) = true then false else if isNan (ub n) = true then true else (F.order (ub m) (ub n) == some Ordering.lt)
def lessV (a b : Val) : Bool := if a.1 = b.1 then (if a.1 = 1 then decide (a.2.1 < b.2.1) else if a.1 = 2 then lessF a.2.1 b.2.1 else bl a.2.2 b.2.2) else decide (a.1 < b.1)
/-- Of bits by which floats are kept the key goes as the float goes. -/
theorem lessF_key (m n : Int) (hm : kept (ub m) = m) (hn : kept (ub n) = n) : lessF m n = decide (fk m < fk n) := by
  have lm := ub_lt m
  have ln := ub_lt n
  have nan_u : ∀ x : Int, kept (ub x) = x → isNan (ub x) = true → ub x = 9221120237041090560 := by
    intro x hx hnan
    unfold kept at hx
    rw [if_pos hnan] at hx
    rw [← hx]; rfl
  have zero_u : ∀ x : Int, kept (ub x) = x → isNan (ub x) = false → ub x ≠ 9223372036854775808 := by
    intro x hx hnan he
    unfold kept at hx
    rw [if_neg (by rw [hnan]; decide), if_pos (by rw [he])] at hx
    rw [← hx] at he
    exact absurd he (by decide)
  unfold lessF
  by_cases qm : isNan (ub m) = true
  · rw [if_pos qm]
    have e := nan_u m hm qm
    have : ¬ fk m < fk n := by
      have q : fk m = 18444492273895866368 := by unfold fk; rw [e]; rfl
      rw [q]
      by_cases qn : isNan (ub n) = true
      · have e2 := nan_u n hn qn
        have : fk n = 18444492273895866368 := by unfold fk; rw [e2]; rfl
        omega
      · have hx : ub n % 9223372036854775808 ≤ 9218868437227405312 := by simpa [isNan] using qn
        unfold fk
        split <;> omega
    simp [this]
  · rw [if_neg qm]
    have hxm : ub m % 9223372036854775808 ≤ 9218868437227405312 := by simpa [isNan] using qm
    by_cases qn : isNan (ub n) = true
    · rw [if_pos qn]
      have e2 := nan_u n hn qn
      have q : fk n = 18444492273895866368 := by unfold fk; rw [e2]; rfl
      have : fk m < fk n := by
        rw [q]
        unfold fk
        split <;> omega
      simp [this]
    · rw [if_neg qn]
      have qm' : isNan (ub m) = false := by simpa using qm
      have qn' : isNan (ub n) = false := by simpa using qn
      rw [lt_num _ _ lm ln qm' qn']
      have z1 := zero_u m hm qm'
      have z2 := zero_u n hn qn'
      apply decide_eq_decide.mpr
      unfold skey fk
      split <;> split <;> omega
theorem bl_key (a b : Val) (ga : good a) (gb : good b) (ra : inR a) (rb : inR b) (hne : a ≠ b) (x y : List UInt8) : bl (keyL a ++ x) (keyL b ++ y) = lessV a b := by
  unfold keyL lessV
  rw [if_pos ga, if_pos gb]
  obtain ⟨k, n, t⟩ := a
  obtain ⟨l, m, u⟩ := b
  simp only [List.cons_append, bl_cons, by8_toNat]
  have hk := good_kind ga
  have hl := good_kind gb
  simp only at hk hl
  by_cases e : k = l
  · subst e
    simp only [if_true]
    rw [show decide (k.toNat % 256 < k.toNat % 256) = false by simp]
    simp only [decide_true, Bool.false_or, Bool.true_and]
    unfold inR at ra rb
    simp only at ra rb
    rcases hk with h | h | h | h
    · subst h
      exfalso
      rcases ga with h | h | h | h <;> (try (simp at h; done)) <;> rcases gb with h' | h' | h' | h' <;> simp_all
    · subst h
      have g1 : t = [] := by rcases ga with h | h | h | h <;> simp_all
      have g2 : u = [] := by rcases gb with h | h | h | h <;> simp_all
      subst g1; subst g2
      have hnm : n ≠ m := fun e => hne (by rw [e])
      show bl (be8 (n + 9223372036854775808).toNat ++ x) (be8 (m + 9223372036854775808).toNat ++ y) = decide (n < m)
      rw [bl_be8 _ _ (by omega) (by omega)]
      have e1 : decide ((n + 9223372036854775808).toNat < (m + 9223372036854775808).toNat) = decide (n < m) := decide_eq_decide.mpr (by omega)
      have e2 : decide ((n + 9223372036854775808).toNat = (m + 9223372036854775808).toNat) = false := by simp; omega
      rw [e1, e2]; simp
    · subst h
      have g1 : t = [] ∧ kept (ub n) = n := by rcases ga with h | h | h | h <;> simp_all
      have g2 : u = [] ∧ kept (ub m) = m := by rcases gb with h | h | h | h <;> simp_all
      obtain ⟨g1, k1⟩ := g1
      obtain ⟨g2, k2⟩ := g2
      subst g1; subst g2
      have hnm : n ≠ m := fun e => hne (by rw [e])
      show bl (be8 (fkey n) ++ x) (be8 (fkey m) ++ y) = lessF n m
      have f1 : fkey n = fk n := by unfold fkey; rw [k1]
      have f2 : fkey m = fk m := by unfold fkey; rw [k2]
      rw [f1, f2, bl_be8 _ _ (fk_lt n) (fk_lt m), lessF_key n m k1 k2]
      have e2 : decide (fk n = fk m) = false := by simp; exact fun e => hnm (fk_inj ra rb e)
      rw [e2]; simp
    · subst h
      have g1 : n = 0 := by rcases ga with h | h | h | h <;> simp_all
      have g2 : m = 0 := by rcases gb with h | h | h | h <;> simp_all
      subst g1; subst g2
      have hnm : t ≠ u := fun e => hne (by rw [e])
      show bl ((esc t ++ [0, 0]) ++ x) ((esc u ++ [0, 0]) ++ y) = bl t u
      have := bl_esc t u x y hnm
      simpa using this
  · rw [if_neg e]
    have e1 : decide (k.toNat % 256 < l.toNat % 256) = decide (k < l) := decide_eq_decide.mpr (by omega)
    have e2 : decide (k.toNat % 256 = l.toNat % 256) = false := by simp; omega
    rw [e1, e2]; simp
end Go.Proofs.YtmaciepkkianhabGreatDoor.M

set_option linter.unusedSimpArgs false
namespace Go.Proofs.YtmaciepkkianhabGreatDoor.M
open Go.RowKit Go.Proofs.YtmaciepkkianhabGreatDoor.H Go.Proofs.YtmaciepkkianhabGreatDoor.QVal Go.Proofs.YtmaciepkkianhabGreatDoorW.PrintWords Go.Proofs.YtmaciepkkianhabGreatDoorW.PrintMore

/-- A value, its text as a list. -/
abbrev V (k n : Int) (t : ByteArray) : Val := (k, n, t.data.toList)
/-- A list's text. -/
abbrev B (l : List UInt8) : ByteArray := ⟨l.toArray⟩
theorem Sz (s : ByteArray) : s.size = s.data.toList.length := by rw [Array.length_toList]; rfl
theorem w64 (n : Int) (h : -9223372036854775808 ≤ n ∧ n ≤ 9223372036854775807) : wrap64 n = n := by unfold wrap64; omega
theorem B_size (l : List UInt8) : (B l).size = l.length := by simp [ByteArray.size]
theorem B_append (a b : List UInt8) : B a ++ B b = B (a ++ b) := by apply ByteArray.ext; simp
theorem toL (s : ByteArray) : s.toList = s.data.toList := ByteArray.toList_eq s
theorem B_toL (l : List UInt8) : (B l).toList = l := toL _
theorem wrap_ub (n : Int) : IntKind.u64.wrap n = (ub n : Int) := by unfold ub; have := u64_range n; omega
theorem of_f (n : Int) : real_Of.f n = some (ub n) := rfl
theorem rof_f (n : Int) : mortmainref02_Of.f n = some (ub n) := rfl
theorem canon_f (u : Nat) (hu : u < 18446744073709551616) : real_Canon.f u = some (kept u) := by
  unfold real_Canon.f kept
  rw [show FloatKind.f64.format.order u u = F.order u u from rfl, show FloatKind.f64.format.order u 0 = F.order u 0 from rfl, ne_self u hu]
  by_cases h : isNan u = true
  · rw [if_pos h, if_pos h]
  · rw [if_neg h, if_neg h, eq_zero u hu (by simpa using h)]
    by_cases g : u % 9223372036854775808 = 0
    · simp [g]
    · simp [g]
theorem rkept_f (u : Nat) (hu : u < 18446744073709551616) : mortmainref02_Kept.f u = some (kept u) := by
  have := canon_f u hu
  unfold real_Canon.f at this
  unfold mortmainref02_Kept.f math_IsNaN.f
  exact this
theorem realgood_f (n : Int) : real_Good.f n = some (kept (ub n) == n) := by
  unfold real_Good.f
  rw [of_f]; simp only [Option.bind_some]; rw [canon_f _ (ub_lt n)]; rfl
theorem fkey_lt (n : Int) : fkey n < 18446744073709551616 := fk_lt _
theorem realkey_f (n : Int) : real_Key.f n = some (fkey n : Int) := by
  unfold real_Key.f
  rw [of_f]; simp only [Option.bind_some]; rw [canon_f _ (ub_lt n)]; simp only [Option.bind_some]
  rw [wrap_ub]
  have hl := ub_lt (kept (ub n))
  unfold fkey fk
  generalize ub (kept (ub n)) = u at hl ⊢
  rw [and_top (u : Int) (by omega) (by omega)]
  by_cases h : u < 9223372036854775808
  · have h' : (u : Int) < 9223372036854775808 := by omega
    rw [if_pos h', if_pos rfl, or_top (u : Int) (by omega) h', if_pos h]; exact congrArg some (by omega)
  · have h' : ¬ (u : Int) < 9223372036854775808 := by omega
    have h2 : ¬ ((9223372036854775808 : Int) = 0) := by decide
    rw [if_neg h', if_neg h2, xor_max (u : Int) (by omega) (by omega), if_neg h]; exact congrArg some (by omega)
theorem rkey_f (n : Int) : mortmainref02_Key.f n = some (fkey n : Int) := by
  unfold mortmainref02_Key.f
  rw [rof_f]; simp only [Option.bind_some]; rw [rkept_f _ (ub_lt n)]; simp only [Option.bind_some]
  rw [wrap_ub]
  have hl := ub_lt (kept (ub n))
  unfold fkey fk
  generalize ub (kept (ub n)) = u at hl ⊢
  by_cases h : u < 9223372036854775808
  · have h' : ¬ (u : Int) ≥ 9223372036854775808 := by omega
    rw [if_neg h', if_pos h, wrap_u64]; exact congrArg some (by omega)
  · have h' : (u : Int) ≥ 9223372036854775808 := by omega
    rw [if_pos h', if_neg h, wrap_u64]; exact congrArg some (by omega)
theorem isE (t : ByteArray) : (t.toList == ([] : List UInt8)) = decide (t.data.toList = []) := by rw [toL]; cases t.data.toList <;> rfl
theorem dec_false {p : Prop} [Decidable p] (h : ¬ p) : some false = some (decide p) := by rw [decide_eq_false h]
theorem dec_iff {p q : Prop} [Decidable p] [Decidable q] (h : p ↔ q) : some (decide p) = some (decide q) := by rw [decide_eq_decide.mpr h]
theorem good_f (k n : Int) (t : ByteArray) : value_Good.f k n t = some (decide (good (V k n t))) := by
  unfold value_Good.f
  have hs : (t.size : Int) = (t.data.toList.length : Int) := by rw [Sz]
  have he : t.toList.isEmpty = decide (t.data.toList = []) := by rw [toL]; cases t.data.toList <;> rfl
  have hz : (t.toList = ([] : List UInt8)) = (t.data.toList = []) := by rw [toL]
  simp only [isE, he, hs, hz, realgood_f]
  unfold good V
  generalize t.data.toList = l
  clear hs he hz
  by_cases h0 : k = 0
  · subst h0
    rw [if_pos rfl, show ((0 : Int) == 0 && (n == 0 && decide (l = []))) = decide (n = 0 ∧ l = []) by simp [Bool.beq_eq_decide_eq]]
    exact dec_iff (by simp)
  · rw [if_neg h0]
    by_cases h1 : k = 1
    · subst h1
      rw [if_pos rfl]
      exact dec_iff (by simp)
    · rw [if_neg h1]
      by_cases h2 : k = 2
      · subst h2
        rw [if_pos rfl]
        by_cases ht : l = []
        · rw [if_pos ht, Option.bind_some, show (kept (ub n) == n) = decide (kept (ub n) = n) from rfl]
          exact dec_iff (by simp [ht])
        · rw [if_neg ht]
          exact dec_false (by simp [ht])
      · rw [if_neg h2]
        by_cases h3 : k = 3
        · subst h3
          rw [if_pos rfl]
          by_cases hn : n = 0
          · rw [if_pos hn]
            exact dec_iff (by simp [hn]; omega)
          · rw [if_neg hn]
            exact dec_false (by simp [hn])
        · rw [if_neg h3]
          exact dec_false (by simp [h0, h1, h2, h3])
theorem rgood_f (k n : Int) (t : ByteArray) : mortmainref03_Good.f k n t = some (decide (good (V k n t))) := by
  rw [← good_f]
  unfold value_Good.f mortmainref03_Good.f
  rw [realgood_f, rof_f]; simp only [Option.bind_some]; rw [rkept_f _ (ub_lt n)]; simp only [Option.bind_some]
  have he : t.toList.isEmpty = (t.toList == ([] : List UInt8)) := by cases t.toList <;> rfl
  by_cases h0 : k = 0
  · rw [if_pos h0, if_pos h0, he]
    subst h0
    by_cases hn : n = 0
    · subst hn; rw [if_pos rfl]; rfl
    · rw [if_neg hn, show (n == 0) = false from beq_eq_false_iff_ne.mpr hn]; rfl
  · rw [if_neg h0, if_neg h0]

theorem bt_get (s : ByteArray) (i : Nat) (h : i < s.size) : bt s (i : Int) = (s.data.toList[i]'(by rw [← Sz]; exact h)).toNat := by
  unfold bt
  rw [dif_pos (show ((i : Int).toNat) < s.size from h)]
  rfl
theorem strOf_bytes (l : List Int) : strOfNums l = B (l.map fun n => UInt8.ofNat n.toNat) := rfl
theorem shr_byte (u : Int) (h0 : 0 ≤ u) (j : Int) (m : Nat) (hj : j = m) (hm : m ≤ 64) (d : Nat) (hd : 2 ^ m = d) : UInt8.ofNat ((shr .u64 u j) % 256).toNat = by8 (u.toNat / d) := by
  subst hj; subst hd
  obtain ⟨u, rfl⟩ := Int.eq_ofNat_of_zero_le h0
  unfold shr by8
  rw [show min ((m : Int).toNat) (IntKind.bits .u64) = m from Nat.min_eq_left hm]
  have e : ((u : Int) / 2 ^ m) = ((u / 2 ^ m : Nat) : Int) := by push_cast; rfl
  rw [e, show (((u / 2 ^ m : Nat) : Int) % 256).toNat = (u / 2 ^ m) % 256 by omega]
  apply UInt8.toNat_inj.mp
  simp
theorem eight_f (k : Nat) (u : Nat) (hk : 9 ≤ k) : value_eight.f k (u : Int) = some (B (be8 u)) := by
  obtain ⟨k, rfl⟩ : ∃ m, k = m + 9 := ⟨k - 9, by omega⟩
  unfold value_eight.f
  have hl : ((List.replicate 8 (0 : Int)).length : Int) = 8 := rfl
  rw [if_pos (by decide), Option.bind_some, hl]
  iterate 8
    unfold value_eight.l0
    simp only [Int.reduceLT, Int.reduceSub, Int.reduceMul, Int.reduceAdd, w64, and_self, Int.reduceLE, if_true, ite_true]
  simp only [List.length_set, List.length_replicate, show ((8 : Nat) : Int) = 8 from rfl, Int.reduceLT, if_true, ite_true]
  unfold value_eight.l0
  rw [if_neg (by decide), strOf_bytes]
  have hu : (0 : Int) ≤ u := by omega
  have e (m : Nat) (hm : m ≤ 64) (d : Nat) (hd : 2 ^ m = d) : UInt8.ofNat (shr .u64 (u : Int) (m : Nat) % 256).toNat = by8 (u / d) := shr_byte (u : Int) hu m m rfl hm d hd
  refine congrArg some (congrArg B ?_)
  show [UInt8.ofNat (shr .u64 (u : Int) (56 : Nat) % 256).toNat, UInt8.ofNat (shr .u64 (u : Int) (48 : Nat) % 256).toNat, UInt8.ofNat (shr .u64 (u : Int) (40 : Nat) % 256).toNat, UInt8.ofNat (shr .u64 (u : Int) (32 : Nat) % 256).toNat,
    UInt8.ofNat (shr .u64 (u : Int) (24 : Nat) % 256).toNat, UInt8.ofNat (shr .u64 (u : Int) (16 : Nat) % 256).toNat, UInt8.ofNat (shr .u64 (u : Int) (8 : Nat) % 256).toNat, UInt8.ofNat (shr .u64 (u : Int) (0 : Nat) % 256).toNat] = _
  rw [e 56 (by decide) 72057594037927936 (by decide), e 48 (by decide) 281474976710656 (by decide), e 40 (by decide) 1099511627776 (by decide), e 32 (by decide) 4294967296 (by decide),
    e 24 (by decide) 16777216 (by decide), e 16 (by decide) 65536 (by decide), e 8 (by decide) 256 (by decide), e 0 (by decide) 1 (by decide), Nat.div_one]
  rfl
theorem reight_l (u : Nat) (hu : u < 18446744073709551616) : ∀ (m j k : Nat) (v : Nat) (s : List UInt8), j + m = 8 → m + 1 ≤ k → v = u / 256 ^ j → s = (be8 u).drop m → mortmainref03_eight.l0 k (v : Int) (B s) (j : Int) = some (B (be8 u))
  | 0, j, k + 1, v, s, hj, hk, hv, hs => by
    unfold mortmainref03_eight.l0
    rw [if_neg (by omega), hs]; rfl
  | m + 1, j, k + 1, v, s, hj, hk, hv, hs => by
    unfold mortmainref03_eight.l0
    have hv2 : v < 18446744073709551616 := by rw [hv]; exact Nat.lt_of_le_of_lt (Nat.div_le_self _ _) hu
    have hsl : s.length ≤ 8 := by rw [hs, List.length_drop]; exact Nat.sub_le _ _
    have e1 : strOfNums [Int.tmod (v : Int) 256 % 256] = B [by8 v] := by
      rw [strOf_bytes]
      refine congrArg B ?_
      simp only [List.map_cons, List.map_nil]
      refine congrArg (· :: []) ?_
      apply UInt8.toNat_inj.mp
      rw [by8_toNat, Int.tmod_eq_emod_of_nonneg (by omega)]
      rw [show (((v : Int) % 256 % 256).toNat) = v % 256 by omega]
      simp
    have e2 : IntKind.u64.wrap (Int.tdiv (v : Int) 256) = ((v / 256 : Nat) : Int) := by
      rw [Int.tdiv_eq_ediv_of_nonneg (by omega), wrap_u64]; omega
    rw [if_pos (by omega), Option.bind_some, e1, B_size, B_size, if_pos (by simp only [List.length_cons, List.length_nil]; omega), B_append, e2, w64 _ (by omega), show ((j : Int) + 1) = ((j + 1 : Nat) : Int) by omega]
    refine reight_l u hu m (j + 1) k _ _ (by omega) (by omega) ?_ ?_
    · rw [hv, Nat.div_div_eq_div_mul, Nat.pow_succ]
    · rw [hs, hv]
      have : j = 7 - m := by omega
      subst this
      have hm : m < 8 := by omega
      match m, hm with
      | 0, _ => rfl
      | 1, _ => rfl
      | 2, _ => rfl
      | 3, _ => rfl
      | 4, _ => rfl
      | 5, _ => rfl
      | 6, _ => rfl
      | 7, _ => simp [be8]
theorem reight_f (k : Nat) (u : Nat) (hu : u < 18446744073709551616) (hk : 9 ≤ k) : mortmainref03_eight.f k (u : Int) = some (B (be8 u)) := by
  have := reight_l u hu 8 0 k u [] rfl hk (by simp) rfl
  exact this

/-! ### Keys -/
theorem first_f (k : Int) (h0 : 0 ≤ k) (h1 : k < 256) : strOfNums [k % 256] = B [by8 k.toNat] := by
  rw [strOf_bytes]
  refine congrArg B ?_
  simp only [List.map_cons, List.map_nil]
  rw [show (k % 256).toNat = k.toNat by omega]; rfl
theorem top_u64 (n : Int) (hn : -9223372036854775808 ≤ n ∧ n ≤ 9223372036854775807) : bits .xor .u64 (IntKind.u64.wrap n) 9223372036854775808 = ((n + 9223372036854775808).toNat : Int) := by
  have := u64_range n
  rw [xor_top _ this.1 this.2, wrap_u64]
  split <;> omega
theorem key_f (k : Nat) (d n : Int) (t : ByteArray) (hn : -9223372036854775808 ≤ n ∧ n ≤ 9223372036854775807) (ht : t.size ≤ 1000) (hk : 9 ≤ k) : value_Key.f k d n t = some (B (keyL (V d n t))) := by
  unfold value_Key.f
  rw [good_f, Option.bind_some]
  by_cases hg : good (V d n t)
  · have hd := good_kind hg
    rw [decide_eq_true hg, if_pos rfl, Option.bind_some]
    unfold keyL
    rw [if_pos hg]
    unfold tail
    show _ = some (B (by8 d.toNat :: if d = 1 then _ else if d = 2 then _ else if d = 3 then _ else _))
    rw [first_f d (by rcases hd with h | h | h | h <;> (simp only at h; omega)) (by rcases hd with h | h | h | h <;> (simp only at h; omega))]
    by_cases h1 : d = 1
    · rw [if_pos h1, if_pos h1, top_u64 n hn, eight_f _ _ hk, Option.bind_some, B_size, B_size, be8_length, if_pos (by simp), B_append]; rfl
    · rw [if_neg h1, if_neg h1]
      by_cases h2 : d = 2
      · rw [if_pos h2, if_pos h2, realkey_f, Option.bind_some, eight_f _ _ hk, Option.bind_some, B_size, B_size, be8_length, if_pos (by simp), B_append]; rfl
      · rw [if_neg h2, if_neg h2]
        by_cases h3 : d = 3
        · rw [if_pos h3, if_pos h3]
          have ts : t.data.toList.length = t.size := (Sz t).symm
          have e : strings_ReplaceAll.f t ⟨#[0]⟩ ⟨#[0, 255]⟩ = some (B (esc t.data.toList)) := by
            unfold strings_ReplaceAll.f
            have hc := Lib.countB_le ⟨#[0]⟩ (by decide) t.size t (Nat.le_refl _)
            rw [if_pos ⟨by omega, by decide, by rw [show (ByteArray.mk #[0, 255]).size = 2 from rfl]; omega⟩, show (ByteArray.mk #[0]).data.toList = [0] from rfl, show (ByteArray.mk #[0, 255]).data.toList = [0, 255] from rfl, replaceAll_esc]
          rw [e, Option.bind_some, B_size, B_size]
          have := (esc_length t.data.toList).2
          rw [if_pos (by simp only [List.length_cons, List.length_nil]; omega), if_pos (by simp only [List.length_cons, List.length_nil]; omega), B_append]; rfl
        · rw [if_neg h3, if_neg h3]
  · rw [decide_eq_false hg, if_neg (by decide)]
    unfold keyL
    rw [if_neg hg]
theorem esc_cons (c : UInt8) (l : List UInt8) : esc (c :: l) = (if c = 0 then [0, 255] else [c]) ++ esc l := by
  simp only [esc]
  split <;> simp_all
theorem slice1 (t : ByteArray) (j : Nat) (h : j < t.size) : t.extract j (j + 1) = B [t.data.toList[j]'(by rw [← Sz]; exact h)] := by
  apply ByteArray.ext
  apply Array.toList_inj.mp
  rw [ByteArray.data_extract, Array.toList_extract, List.extract_eq_take_drop]
  rw [List.drop_eq_getElem_cons (by rw [← Sz]; exact h), show j + 1 - j = 1 by omega]
  rfl
theorem rkey_l (t : ByteArray) (ht : t.size ≤ 1000) (a b : Int) : ∀ (m j k : Nat) (s : List UInt8), j + m = t.size → m + 1 ≤ k → s.length + 2 * m ≤ 9000 → mortmainref03_Key.l0 k (B s) (j : Int) a b t = some (B (s ++ (esc (t.data.toList.drop j) ++ [0, 0])))
  | 0, j, k + 1, s, hj, hk, hs => by
    unfold mortmainref03_Key.l0
    rw [if_neg (by omega), B_size, if_pos (by omega), List.drop_of_length_le (by rw [← Sz]; omega)]
    exact congrArg some (B_append s [0, 0])
  | m + 1, j, k + 1, s, hj, hk, hs => by
    have hl : j < t.data.toList.length := by rw [← Sz]; omega
    unfold mortmainref03_Key.l0
    rw [w64 _ (by omega), show ((j : Int) + 1) = ((j + 1 : Nat) : Int) by omega, show ((j : Int)).toNat = j from rfl, show (((j + 1 : Nat) : Int)).toNat = j + 1 from rfl, slice1 t j (by omega), bt_get t j (by omega)]
    rw [if_pos (by omega), if_pos (by omega), if_pos (by omega), if_pos (by omega), B_size, B_size, if_pos (by simp only [List.length_cons, List.length_nil]; omega)]
    have hd : t.data.toList.drop j = t.data.toList[j] :: t.data.toList.drop (j + 1) := List.drop_eq_getElem_cons hl
    rw [hd, esc_cons]
    by_cases hc : t.data.toList[j] = 0
    · rw [if_pos hc, if_pos (by rw [hc]; rfl), if_pos (by simp only [List.length_cons, List.length_nil]; omega), hc, show (B s ++ B [0]) ++ (⟨#[255]⟩ : ByteArray) = B ((s ++ [0]) ++ [255]) by rw [B_append s [0]]; exact B_append _ _]
      rw [rkey_l t ht a b m (j + 1) k _ (by omega) (by omega) (by simp only [List.length_append, List.length_cons, List.length_nil]; omega)]
      simp
    · have hn : ¬ ((t.data.toList[j].toNat : Int) = 0) := by
        intro e; apply hc; apply UInt8.toNat_inj.mp; show _ = 0; omega
      rw [if_neg hc, if_neg hn, B_append]
      rw [rkey_l t ht a b m (j + 1) k _ (by omega) (by omega) (by simp only [List.length_append, List.length_cons, List.length_nil]; omega)]
      simp
theorem refkey_f (k : Nat) (d n : Int) (t : ByteArray) (hn : -9223372036854775808 ≤ n ∧ n ≤ 9223372036854775807) (ht : t.size ≤ 1000) (hk : 1009 ≤ k) : mortmainref03_Key.f k d n t = some (B (keyL (V d n t))) := by
  unfold mortmainref03_Key.f
  rw [rgood_f, Option.bind_some]
  by_cases hg : good (V d n t)
  · have hd := good_kind hg
    rw [decide_eq_true hg, if_pos rfl, Option.bind_some]
    unfold keyL
    rw [if_pos hg]
    unfold tail
    show _ = some (B (by8 d.toNat :: if d = 1 then _ else if d = 2 then _ else if d = 3 then _ else _))
    rw [first_f d (by rcases hd with h | h | h | h <;> (simp only at h; omega)) (by rcases hd with h | h | h | h <;> (simp only at h; omega))]
    by_cases h1 : d = 1
    · have e : IntKind.u64.wrap (IntKind.u64.wrap n + 9223372036854775808) = ((n + 9223372036854775808).toNat : Int) := by
        rw [wrap_u64, wrap_u64]; omega
      rw [if_pos h1, if_pos h1, e, reight_f _ _ (by omega) (by omega), Option.bind_some, B_size, B_size, be8_length, if_pos (by simp), B_append]; rfl
    · rw [if_neg h1, if_neg h1]
      by_cases h2 : d = 2
      · rw [if_pos h2, if_pos h2, rkey_f, Option.bind_some, reight_f _ _ (fkey_lt _) (by omega), Option.bind_some, B_size, B_size, be8_length, if_pos (by simp), B_append]; rfl
      · rw [if_neg h2, if_neg h2]
        by_cases h3 : d = 3
        · rw [if_pos h3, if_pos h3]
          rw [show (0 : Int) = ((0 : Nat) : Int) from rfl, rkey_l t ht d n t.size 0 k _ (by omega) (by omega) (by simp only [List.length_cons, List.length_nil]; omega)]; rfl
        · rw [if_neg h3, if_neg h3]
  · rw [decide_eq_false hg, if_neg (by decide)]
    unfold keyL
    rw [if_neg hg]
end Go.Proofs.YtmaciepkkianhabGreatDoor.M

set_option linter.unusedSimpArgs false
namespace Go.Proofs.YtmaciepkkianhabGreatDoor.M
open Go.RowKit Go.Proofs.YtmaciepkkianhabGreatDoor.H Go.Proofs.YtmaciepkkianhabGreatDoor.QVal Go.Proofs.YtmaciepkkianhabGreatDoorW.PrintWords Go.Proofs.YtmaciepkkianhabGreatDoorW.PrintMore

abbrev Z (s : ByteArray) : Prop := s.size ≤ 140737488355328
abbrev I (n : Int) : Prop := -9223372036854775808 ≤ n ∧ n ≤ 9223372036854775807
theorem alive3_f (k : Nat) : mortmainlaw03_alive.f k = some true := by
  have h1 : value_Text.f (⟨#[97]⟩ : ByteArray) = some (3, 0, ⟨#[97]⟩) := by rfl
  have h2 : value_Key.f k 3 0 (⟨#[97]⟩ : ByteArray) = some ⟨#[3, 97, 0, 0]⟩ := by
    unfold value_Key.f
    have a : value_Good.f 3 0 (⟨#[97]⟩ : ByteArray) = some true := by decide +kernel
    have b : strings_ReplaceAll.f (⟨#[97]⟩ : ByteArray) ⟨#[0]⟩ ⟨#[0, 255]⟩ = some ⟨#[97]⟩ := by decide +kernel
    rw [a]
    simp only [Option.bind_some, if_true, b]
    rw [if_neg (by decide), if_neg (by decide)]
    decide +kernel
  have h3 : value_Float.f 4602678819172646912 = some (2, 4602678819172646912, ⟨#[]⟩) := by decide +kernel
  have h4 : value_Show.f 2 4602678819172646912 ⟨#[]⟩ = some ⟨#[102, 48, 46, 53]⟩ := by decide +kernel
  have h5 : value_Good.f 0 0 (⟨#[]⟩ : ByteArray) = some true := by decide +kernel
  unfold mortmainlaw03_alive.f
  rw [h1]; simp only [Option.bind_some]
  rw [h2]; simp only [Option.bind_some]
  rw [if_pos (by decide +kernel), h3]; simp only [Option.bind_some]
  rw [h4]; simp only [Option.bind_some]
  rw [if_pos (by decide +kernel), h5]; rfl
theorem rless_f (m n : Int) : mortmainref02_Less.f (ub m) (ub n) = some (lessF m n) := by
  unfold mortmainref02_Less.f math_IsNaN.f lessF
  rw [show FloatKind.f64.format.order (ub m) (ub m) = F.order (ub m) (ub m) from rfl, show FloatKind.f64.format.order (ub n) (ub n) = F.order (ub n) (ub n) from rfl, ne_self _ (ub_lt m), ne_self _ (ub_lt n)]
  simp only [Option.bind_some]
  split
  · rfl
  · split <;> rfl
theorem rcmp_f (m n : Int) : mortmainref02_Compare.f m n = some (if lessF m n = true then -1 else if lessF n m = true then 1 else 0) := by
  unfold mortmainref02_Compare.f
  simp only [rof_f, Option.bind_some, rless_f]
  by_cases h : lessF m n = true
  · rw [if_pos h, if_pos h]
  · rw [if_neg h, if_neg h]
    by_cases g : lessF n m = true
    · rw [if_pos g, if_pos g]
    · rw [if_neg g, if_neg g]
theorem less_f (d n : Int) (t : ByteArray) (e m : Int) (u : ByteArray) : mortmainref03_Less.f d n t e m u = some (lessV (V d n t) (V e m u)) := by
  unfold mortmainref03_Less.f lessV
  simp only [rcmp_f, Option.bind_some, toL]
  by_cases h : d = e
  · rw [if_pos h, if_pos h]
    by_cases h1 : d = 1
    · rw [if_pos h1, if_pos h1]
    · rw [if_neg h1, if_neg h1]
      by_cases h2 : d = 2
      · rw [if_pos h2, if_pos h2]
        refine congrArg some ?_
        by_cases g : lessF n m = true
        · rw [if_pos g, g]; rfl
        · rw [if_neg g]
          have : lessF n m = false := by simpa using g
          rw [this]
          split <;> rfl
      · rw [if_neg h2, if_neg h2]
  · rw [if_neg h, if_neg h]
theorem compare_f (d n : Int) (t : ByteArray) (e m : Int) (u : ByteArray) : mortmainref03_Compare.f d n t e m u = some (if lessV (V d n t) (V e m u) = true then -1 else if lessV (V e m u) (V d n t) = true then 1 else 0) := by
  unfold mortmainref03_Compare.f
  rw [less_f, less_f, Option.bind_some, Option.bind_some]
  by_cases h : lessV (V d n t) (V e m u) = true
  · rw [if_pos h, if_pos h]
  · rw [if_neg h, if_neg h]
    split <;> rfl
/-- No key begins with another one's. -/
theorem key_begins (a b : Val) (ga : good a) (gb : good b) (ra : inR a) (rb : inR b) (h : (keyL b).take (keyL a).length = keyL a) : a = b := by
  have e : keyL b = keyL a ++ (keyL b).drop (keyL a).length := by
    have h0 := List.take_append_drop (keyL a).length (keyL b)
    rw [h] at h0
    exact h0.symm
  have h1 := cut_key b gb rb []
  rw [List.append_nil, e, cut_key a ga ra] at h1
  simp only [Option.some.injEq, Prod.mk.injEq] at h1
  exact h1.1
end Go.Proofs.YtmaciepkkianhabGreatDoor.M

set_option linter.unusedSimpArgs false
namespace Go.Proofs.YtmaciepkkianhabGreatDoor.M
open Go.RowKit Go.Proofs.YtmaciepkkianhabGreatDoor.H Go.Proofs.YtmaciepkkianhabGreatDoor.QVal Go.Proofs.YtmaciepkkianhabGreatDoorW.PrintWords Go.Proofs.YtmaciepkkianhabGreatDoorW.PrintMore

theorem great2_f (k : Nat) (d n : Int) (t : ByteArray) (e m : Int) (u : ByteArray) (hk : 4 ≤ k) : mortmainlaw03_great.f k [(⟨d, n, t⟩ : S23), ⟨e, m, u⟩] = some (decide ((t.size : Int) > 200 ∨ (u.size : Int) > 200)) := by
  obtain ⟨k, rfl⟩ : ∃ m, k = m + 3 := ⟨k - 3, by omega⟩
  unfold mortmainlaw03_great.f
  by_cases h : (t.size : Int) > 200
  · simp [mortmainlaw03_great.l0, rd_T23, h]
  · by_cases h2 : (u.size : Int) > 200
    · simp [mortmainlaw03_great.l0, rd_T23, h, h2, wrap64]
    · simp [mortmainlaw03_great.l0, rd_T23, h, h2, wrap64]
theorem vkeys_true (k : Nat) (hk : 1020 ≤ k) (d n : Int) (t : ByteArray) (e m : Int) (u : ByteArray) (_ht : Z t) (_hu : Z u) (hn : I n) (hm : I m) : mortmainlaw03_ValueKeys.f k d n t e m u = some true := by
  unfold mortmainlaw03_ValueKeys.f
  rw [alive3_f]; simp only [Option.bind_some, if_true]
  rw [great2_f k d n t e m u (by omega)]; simp only [Option.bind_some]
  by_cases hg : (t.size : Int) > 200 ∨ (u.size : Int) > 200
  · rw [if_pos (decide_eq_true hg)]
  · rw [if_neg (by simpa using hg)]
    have h1 : t.size ≤ 1000 := by omega
    have h2 : u.size ≤ 1000 := by omega
    rw [key_f k d n t hn h1 (by omega), key_f k e m u hm h2 (by omega), refkey_f k d n t hn h1 (by omega), refkey_f k e m u hm h2 (by omega)]
    simp only [Option.bind_some, if_true, bne_self_eq_false]
    obtain ⟨k, rfl⟩ : ∃ j, k = j + 2 := ⟨k - 2, by omega⟩
    rw [mortmainlaw03_ValueKeys.j0, if_neg (by decide), rgood_f, rgood_f]; simp only [Option.bind_some]
    by_cases ga : good (V d n t)
    · rw [if_pos (decide_eq_true ga)]
      by_cases gb : good (V e m u)
      · rw [if_pos (decide_eq_true gb), mortmainlaw03_ValueKeys.j1]
        by_cases he : V d n t = V e m u
        · rw [if_pos]
          simp only [V, Prod.mk.injEq] at he
          simp [he.1, he.2.1, toL, he.2.2]
        · rw [if_neg (by
            intro h
            simp only [Bool.and_eq_true, beq_iff_eq, toL] at h
            exact he (by simp only [V, Prod.mk.injEq]; exact ⟨h.1, h.2.1, h.2.2⟩))]
          have hb := bl_key _ _ ga gb hn hm he [] []
          rw [List.append_nil, List.append_nil] at hb
          have hc : ((mortmainref03_Compare.f d n t e m u).bind fun t186 => some ((Op.bytesLess (B (keyL (V d n t))).toList (B (keyL (V e m u))).toList) == (decide (t186 < 0)))) = some true := by
            rw [compare_f, Option.bind_some, B_toL, B_toL]
            refine congrArg some ?_
            rw [show Op.bytesLess (keyL (V d n t)) (keyL (V e m u)) = lessV (V d n t) (V e m u) from hb]
            by_cases hl : lessV (V d n t) (V e m u) = true
            · rw [if_pos hl, hl]; rfl
            · rw [if_neg hl]
              have : lessV (V d n t) (V e m u) = false := by simpa using hl
              rw [this]
              split <;> rfl
          rw [hc]
          split
          · rw [if_pos (by omega), if_neg]
            intro h
            rw [B_toL, toL] at h
            have e3 : ((B (keyL (V e m u))).extract 0 (((B (keyL (V d n t))).size : Int).toNat)).data.toList = (keyL (V e m u)).take (keyL (V d n t)).length := by
              rw [B_size, Int.toNat_natCast, ByteArray.data_extract, Array.toList_extract]
              simp
            rw [e3] at h
            exact he (key_begins _ _ ga gb hn hm h)
          · rfl
      · rw [if_neg (by simpa using gb), mortmainlaw03_ValueKeys.j1, if_pos rfl]
    · rw [if_neg (by simpa using ga), mortmainlaw03_ValueKeys.j1, if_pos rfl]
end Go.Proofs.YtmaciepkkianhabGreatDoor.M

namespace Go.Proofs.YtmaciepkkianhabGreatDoor.V
theorem witness_row_zip {H : Type} {enc : TypeId × Value → H} {C : Checked} {os : Os} {f : FuncId} {fn : Func} {s : OpenSpec} {conds : List PathCond} {apart : Bool} {laid : List (String × DataW Unit)} (modest : Bool) (w0 : World) (args : Array Value) (hos : w0.os = os)
    (hv : (w0.forCall (fun _ _ => 0) ⟨#[], args, []⟩).variablesZipB C.prog = true)
    (hr : ((w0.forCall (fun _ _ => 0) ⟨#[], args, []⟩).heap.toList.drop C.prog.globals.size).take ((begin C.prog (fun _ _ => 0) default).world.heap.size - C.prog.globals.size) =
      (begin C.prog (fun _ _ => 0) default).world.heap.toList.drop C.prog.globals.size)
    (hok : Input.okWideB C.prog (w0.forCall (fun _ _ => 0) ⟨#[], args, []⟩) f ⟨#[], args, []⟩ = true)
    (hrow : s.preRow enc C.prog fn conds apart laid (w0.forCall (fun _ _ => 0) ⟨#[], args, []⟩).memory args) :
    ∃ (w : World) (tape : Tape) (i : Input), w.os = os ∧ (w.forCall tape i).Shaped C.prog ∧ i.vars = [] ∧ Input.okWide C.prog (w.forCall tape i) .any w.heap.size f i ∧
      s.preRow enc C.prog fn conds apart laid (w.forCall tape i).memory i.args ∧ ({ modest := modest } : Assume).holds C.prog (lone (Frame.enter C.prog f i.args .normal) [] (w.forCall tape i)) :=
  ⟨w0, fun _ _ => 0, ⟨#[], args, []⟩, hos, World.shaped_of_ZipB hv hr, (Input.okWide_of_okWideB (base := 0) hok).1, (Input.okWide_of_okWideB hok).2, hrow, by
    simp only [Assume.holds]
    exact ⟨by simp, by simp, fun _ => Modest.zero, by simp, by simp⟩⟩
end Go.Proofs.YtmaciepkkianhabGreatDoor.V

namespace Go.Proofs.YtmaciepkkianhabGreatDoor.valueKeys
open Go.ChangeShapes Go.WideShapes Go.ChangeAt Go.RowKit Go.Joins
open Go.ChangeMaps (open_string shut_string)
set_option linter.unusedVariables false
theorem own : ownKnob Tryz.prog.godebug = none := by kernel_rfl
theorem laidOut : laidOutB Tryz.prog = true := by kernel_rfl
/-- What every world of the row holds that the walk asks for. -/
theorem tens_eq : (Rows.laid_internal_strconv_uint64pow10 : DataW Unit) = Lib.tabData .u64 Lib.pow10Tab := by kernel_rfl
theorem tabs {W : World} (h : W.ShapedOpen Tryz.prog) (hL : laidMet Tryz.prog Rows.valueKeysRow.laid W) : H.Tabs W := by
  have hm : ∃ m, W.cell? ⟨5, 0, none⟩ = some (.int .i64 m) := cell_of_shapedOpen_int (g := 5) (t := 3) (zero := #[.int .i64 0]) (k := .i64) h (of_decide_eq_true (by kernel_rfl)) (by kernel_rfl) rfl (by kernel_rfl) (by kernel_rfl) (by kernel_rfl)
  have h1 := (Lib.laidMet.reads hL (n := "internal/strconv.uint64pow10") (d := Rows.laid_internal_strconv_uint64pow10) (List.mem_of_getElem? (i := 3) rfl))
  rw [tens_eq] at h1
  have h2 := (Lib.laidMet.reads hL (n := "internal/strconv.pow10Tab") (d := Rows.laid_internal_strconv_pow10Tab) (List.mem_of_getElem? (i := 6) rfl))
  exact ⟨hm, T.tabIs_of_reads (g := 2) (t := 163) (e := 75) (n := 20) (by kernel_rfl) (by kernel_rfl) Tryz.underlying163 Tryz.underlying75 (by kernel_rfl) (by kernel_rfl) h1,
    fun i x hx => T.pairs_cell (g := 8) (t := 185) (e := 184) (n := 696) (k := .u64) (zs := Go.Pinned.pow10Rows) (by kernel_rfl) (by kernel_rfl) Tryz.underlying185 Tryz.underlying184 (fun i f hf => match i, hf with | 0, h => by (obtain rfl := Option.some.inj h; exact ⟨Tryz.underlying75, rfl, by kernel_rfl⟩) | 1, h => by (obtain rfl := Option.some.inj h; exact ⟨Tryz.underlying75, rfl, by kernel_rfl⟩) | n + 2, h => by (simp at h)) rfl (by kernel_rfl) h2 i x hx⟩
theorem int_in {n : Int} (h : (Lit.int .i64 n).wf = true) : M.I n := by
  have h2 : -9223372036854775808 ≤ n ∧ n ≤ 9223372036854775807 := by
    simp only [Lit.wf, IntKind.min, IntKind.max, IntKind.signed, IntKind.bits, Bool.and_eq_true, decide_eq_true_eq, if_true] at h
    omega
  exact h2
set_option maxHeartbeats 1600000 in
set_option maxRecDepth 100000 in
theorem contract (H : Type) (enc : TypeId × Value → H) (W : World) (base : Nat) (args : Array Value) (ds gs : List (DataW H)) (before : List MemPlace)
    (hval0 : ∀ (j : Nat) t v, Tryz.f3.params[j]? = some t → args[j]? = some v → Value.okWide Tryz.prog W .any base t v)
    (hW : DataW.Whole enc Tryz.prog Tryz.f3.params.toList Rows.valueKeysSpec.vars false W args.toList ds gs before)
    (hsz0 : (DataW.weightsEach Tryz.prog (Tryz.f3.params.toList ++ Rows.valueKeysSpec.plain.varTypes Tryz.prog) (ds ++ gs)).all (· ≤ reachBytes) = true)
    (hsh : W.ShapedOpen Tryz.prog) (hL : laidMet Tryz.prog Rows.valueKeysRow.laid W) :
    Calls Tryz.prog 3 args W fun e W' => ∃ v, e = .returned v ∧ Rows.valueKeysSpec.post enc Tryz.prog Tryz.f3 false true false false W args v W' := by
  have hT := tabs hsh hL
  have hsz : (DataW.weightsEach Tryz.prog (Tryz.f3.params.toList ++ Rows.valueKeysSpec.plain.varTypes Tryz.prog) (ds ++ gs)).all (· ≤ reachBytes) = true := hsz0
  have hval : ∀ (j : Nat) t v, Tryz.f3.params[j]? = some t → args[j]? = some v → Value.okWide Tryz.prog W .any base t v := hval0
  have hW' := hW
  obtain ⟨p, q, hA0, hV, rfl, hfz, hnd⟩ := hW
  have hA : DataW.TrodAll enc Tryz.prog W 0 (fun _ => true) true Tryz.f3.params.toList args.toList ds p := hA0
  rw [Tryz.params3] at hA hval hsz
  obtain ⟨v0, vs0, d0, ds0, p0, q0, hargs, rfl, rfl, h0, r0⟩ := trodAll_cons hA
  obtain ⟨v1, vs1, d1, ds1, p1, q1, rfl, rfl, rfl, h1, r1⟩ := trodAll_cons r0
  obtain ⟨rfl, rfl, rfl⟩ := trodAll_nil r1
  obtain rfl : args = #[v0, v1] := by cases args; simp_all
  obtain ⟨rfl, rfl⟩ := trodVars_none hV
  have k0 := h0
  have lt0 : ∀ x ∈ p0, x.block < W.heap.size := by obtain ⟨m, hm⟩ := k0; exact DataW.trod_lt m _ _ _ hm
  obtain ⟨c00, c01, c02, z00, z01, z02, m0, rfl, rfl, rfl, g00, g01, g02⟩ := open_agg3 Tryz.underlying23 (by kernel_rfl) (by kernel_rfl) (hval 0 23 v0 rfl rfl) h0
  obtain ⟨a0_0, e00, rfl, y00⟩ := DataW.trod_int Tryz.underlying3 g00
  obtain ⟨a0_1, e01, rfl, y01⟩ := DataW.trod_int Tryz.underlying3 g01
  obtain ⟨a0_2, e02, rfl, y02⟩ := DataW.trod_string Tryz.underlying9 g02
  simp only [List.cons.injEq, and_true] at e00 e01 e02
  subst e00 e01 e02
  have w0 : M.Z a0_2 := by
    have z := List.all_eq_true.1 hsz _ (DataW.weights_mem_each (j := 0) (t := 23) rfl rfl a0_2.data.toList.length (by simp [DataW.weights, DataW.weightsEach, Tryz.underlying23]))
    rw [Array.length_toList] at z
    have z2 : a0_2.size ≤ 140737488351232 := of_decide_eq_true z
    unfold M.Z; omega
  have k1 := h1
  have lt1 : ∀ x ∈ p1, x.block < W.heap.size := by obtain ⟨m, hm⟩ := k1; exact DataW.trod_lt m _ _ _ hm
  obtain ⟨c10, c11, c12, z10, z11, z12, m1, rfl, rfl, rfl, g10, g11, g12⟩ := open_agg3 Tryz.underlying23 (by kernel_rfl) (by kernel_rfl) (hval 1 23 v1 rfl rfl) h1
  obtain ⟨a1_0, e10, rfl, y10⟩ := DataW.trod_int Tryz.underlying3 g10
  obtain ⟨a1_1, e11, rfl, y11⟩ := DataW.trod_int Tryz.underlying3 g11
  obtain ⟨a1_2, e12, rfl, y12⟩ := DataW.trod_string Tryz.underlying9 g12
  simp only [List.cons.injEq, and_true] at e10 e11 e12
  subst e10 e11 e12
  have w1 : M.Z a1_2 := by
    have z := List.all_eq_true.1 hsz _ (DataW.weights_mem_each (j := 1) (t := 23) rfl rfl a1_2.data.toList.length (by simp [DataW.weights, DataW.weightsEach, Tryz.underlying23]))
    rw [Array.length_toList] at z
    have z2 : a1_2.size ≤ 140737488351232 := of_decide_eq_true z
    unfold M.Z; omega
  clear hA0 hval0 hsz0 hsz
  have pure_ := M.vkeys_true 1020 (by omega) a0_0 a0_1 a0_2 a1_0 a1_1 a1_2 w0 w1 (int_in y01) (int_in y11)
  refine (QVal.mortmainlaw03_ValueKeys.calls _ a0_0 a0_1 a0_2 a1_0 a1_1 a1_2 true W hT ⟨rfl⟩ pure_).mono fun e W' ⟨he, bel⟩ => ?_
  subst he
  exact ⟨_, rfl, _, _, _, [], _, [], hW', trodAll_mk1 (shut_bool Tryz.underlying4 _), (trodAll_cons_mk (Below.trod laidOut (by kernel_rfl) (of_decide_eq_true (by kernel_rfl)) k0 bel lt0) (trodAll_cons_mk (Below.trod laidOut (by kernel_rfl) (of_decide_eq_true (by kernel_rfl)) k1 bel lt1) trodAll_mk0)), rfl, bel.frame _, fun h => by cases h⟩
noncomputable def laidWorld (os : Os) : World := World.laidAll Tryz.prog os Rows.valueKeysRow.laid
theorem laid_met (os : Os) : laidMet Tryz.prog Rows.valueKeysRow.laid ((laidWorld os).forCall (fun _ _ => 0) ⟨#[], #[.agg #[.int .i64 0, .int .i64 0, .string ⟨#[]⟩], .agg #[.int .i64 0, .int .i64 0, .string ⟨#[]⟩]], []⟩).memory :=
  laidMet_laidAll _ (by kernel_rfl) (by kernel_rfl)
theorem reads (os : Os) {H : Type} (enc : TypeId × Value → H) : ∃ places, DataW.whole enc Tryz.prog ((laidWorld os).forCall (fun _ _ => 0) ⟨#[], #[.agg #[.int .i64 0, .int .i64 0, .string ⟨#[]⟩], .agg #[.int .i64 0, .int .i64 0, .string ⟨#[]⟩]], []⟩).memory Tryz.f3.params.toList Rows.valueKeysSpec.vars false (#[.agg #[.int .i64 0, .int .i64 0, .string ⟨#[]⟩], .agg #[.int .i64 0, .int .i64 0, .string ⟨#[]⟩]] : Array Value).toList 8 = some ([.agg [.lit (.int .i64 0), .lit (.int .i64 0), .lit (.string [])], .agg [.lit (.int .i64 0), .lit (.int .i64 0), .lit (.string [])]], [], places) :=
  ⟨[], by kernel_rfl⟩
set_option maxRecDepth 100000 in
theorem lifted (os : Os) (started : os.Started) (H : Type) (enc : TypeId × Value → H) (F : Stop.Interp) :
    ReturnsInHanded {} Tryz.checked os 3 .any ((OpenSpec.ofChange Rows.valueKeysSpec).preRow enc Tryz.prog Tryz.f3 Rows.valueKeysRow.domain false Rows.valueKeysRow.laid) (((OpenSpec.ofChange Rows.valueKeysSpec).at F).post enc Tryz.prog Tryz.f3 false true false false) := by
  obtain ⟨places, hx⟩ := reads os enc
  refine returnsInHanded_of_row (C := Tryz.checked) (s := OpenSpec.ofChange Rows.valueKeysSpec) own started (by kernel_rfl) Tryz.func3
    (V.witness_row_zip (enc := enc) (C := Tryz.checked) false (laidWorld os) #[.agg #[.int .i64 0, .int .i64 0, .string ⟨#[]⟩], .agg #[.int .i64 0, .int .i64 0, .string ⟨#[]⟩]] (World.laidAll_os _ _ _) (by kernel_rfl) (by kernel_rfl) (by kernel_rfl)
      (OpenSpec.preRow_of_cond 8 hx (by kernel_rfl) (fun k hk => by cases hk) (by kernel_rfl) (laid_met os))) ?_
  intro W base args ds gs before hval hW _ _ hsz hL hsh _
  exact contract H enc W base args ds gs before hval hW hsz hsh hL
theorem said : Rows.ValueKeysSaid :=
  OpenClaim.holds_of_cond 3 Tryz.f3 rfl rfl rfl rfl rfl rfl rfl ⟨rfl, rfl, rfl, rfl, rfl⟩ rfl rfl rfl rfl rfl (by kernel_rfl) Tryz.func3 (by kernel_rfl)
    (of_decide_eq_true (by kernel_rfl)) (by unfold Func.isWrapper; first | (rw [if_pos (by decide +kernel)]; kernel_rfl) | (rw [if_neg (by decide +kernel)]; exact ⟨rfl, rfl⟩))
    (fun os started H enc _ F => by rw [OpenClaim.pre_eq_preRow]; exact lifted os started H enc F)
theorem plain (f : FuncId) (fn : Func) (hf : Tryz.pinned.checked.prog.funcNamed "mortmain/mortmainlaw03.ValueKeys" = some f) (hfn : Tryz.pinned.checked.prog.funcs[f]? = some fn) :
    true = Tryz.pinned.checked.prog.looks [] ∧ ∀ (j : Nat) t, fn.params[j]? = some t → Tryz.pinned.checked.prog.wantsStandIn t = false := by
  obtain rfl : f = 3 := Option.some.inj ((show Tryz.prog.funcNamed "mortmain/mortmainlaw03.ValueKeys" = some 3 by kernel_rfl).symm.trans hf) |>.symm
  obtain rfl : fn = Tryz.f3 := (Option.some.inj (Tryz.func3.symm.trans hfn)).symm
  refine ⟨by kernel_rfl, fun j t ht => ?_⟩
  rw [Tryz.params3] at ht
  have hm := Array.mem_of_getElem? ht
  have h2 := Array.mem_toList_iff.mpr hm
  change t ∈ ([23, 23] : List Nat) at h2
  simp only [List.mem_cons, List.not_mem_nil, or_false] at h2
  rcases h2 with rfl | rfl
  · exact (show Tryz.prog.wantsStandIn 23 = false by kernel_rfl)
  · exact (show Tryz.prog.wantsStandIn 23 = false by kernel_rfl)
/-- The card. -/
theorem card : Rows.ValueKeysCardSaid :=
  Claim7.holds_tied_plain_at .later [] _ _ _ _ said (fun _ h => by cases h) (by kernel_rfl) (fun _ h => by cases h) valueKeys_row_tie rfl ⟨rfl, rfl⟩ (by kernel_rfl) rfl plain (by kernel_rfl)
#print axioms card
end Go.Proofs.YtmaciepkkianhabGreatDoor.valueKeys
