/-
  Plain laws of the lifted program: BLib.
-/
import Derived.Test.YtgfadkdgifpddaaQNLib
set_option linter.unusedVariables false
/- Bits: and, or, xor, shifts of words as arithmetic. Plain Lean. -/
namespace Go.AM.PL
theorem wrap_u64_nat (n : Nat) (h : n < 18446744073709551616) : IntKind.wrap .u64 (n : Int) = n := wu64_in (by omega) (by omega)
theorem wrap_u32_nat (n : Nat) (h : n < 4294967296) : IntKind.wrap .u32 (n : Int) = n := wu32_in (by omega) (by omega)
theorem wu64n {n : Nat} (h : n < 18446744073709551616) : wu64 (n : Int) = n := wu64_in (by omega) (by omega)
theorem wu32n {n : Nat} (h : n < 4294967296) : wu32 (n : Int) = n := wu32_in (by omega) (by omega)
theorem limbs_setN {a : List Int} (h : limbs a) (i : Nat) {n : Nat} (h1 : n < 4294967296) : limbs (a.set i (n : Int)) := limbs_set h i (by omega) (by omega)
theorem andI_u32 {x y : Nat} (hx : x < 4294967296) (hy : y < 4294967296) : andI .u32 (x : Int) (y : Int) = ((x &&& y : Nat) : Int) := by
  show IntKind.wrap .u32 (((BitVec.ofInt 32 (x : Int) &&& BitVec.ofInt 32 (y : Int)).toNat : Nat) : Int) = _
  have e : (BitVec.ofInt 32 (x : Int) &&& BitVec.ofInt 32 (y : Int)).toNat = x &&& y := by
    simp [BitVec.ofInt_natCast, Nat.mod_eq_of_lt hx, Nat.mod_eq_of_lt hy]
  rw [e]
  exact wrap_u32_nat _ (Nat.lt_of_le_of_lt Nat.and_le_left hx)
theorem orI_u32 {x y : Nat} (hx : x < 4294967296) (hy : y < 4294967296) : orI .u32 (x : Int) (y : Int) = ((x ||| y : Nat) : Int) := by
  show IntKind.wrap .u32 (((BitVec.ofInt 32 (x : Int) ||| BitVec.ofInt 32 (y : Int)).toNat : Nat) : Int) = _
  have e : (BitVec.ofInt 32 (x : Int) ||| BitVec.ofInt 32 (y : Int)).toNat = x ||| y := by
    simp [BitVec.ofInt_natCast, Nat.mod_eq_of_lt hx, Nat.mod_eq_of_lt hy]
  rw [e]
  exact wrap_u32_nat _ (Nat.or_lt_two_pow (n := 32) hx hy)
theorem xorI_u32 {x y : Nat} (hx : x < 4294967296) (hy : y < 4294967296) : xorI .u32 (x : Int) (y : Int) = ((x ^^^ y : Nat) : Int) := by
  show IntKind.wrap .u32 (((BitVec.ofInt 32 (x : Int) ^^^ BitVec.ofInt 32 (y : Int)).toNat : Nat) : Int) = _
  have e : (BitVec.ofInt 32 (x : Int) ^^^ BitVec.ofInt 32 (y : Int)).toNat = x ^^^ y := by
    simp [BitVec.ofInt_natCast, Nat.mod_eq_of_lt hx, Nat.mod_eq_of_lt hy]
  rw [e]
  exact wrap_u32_nat _ (Nat.xor_lt_two_pow (n := 32) hx hy)
theorem orI_u64 {x y : Nat} (hx : x < 18446744073709551616) (hy : y < 18446744073709551616) : orI .u64 (x : Int) (y : Int) = ((x ||| y : Nat) : Int) := by
  show IntKind.wrap .u64 (((BitVec.ofInt 64 (x : Int) ||| BitVec.ofInt 64 (y : Int)).toNat : Nat) : Int) = _
  have e : (BitVec.ofInt 64 (x : Int) ||| BitVec.ofInt 64 (y : Int)).toNat = x ||| y := by
    simp [BitVec.ofInt_natCast, Nat.mod_eq_of_lt hx, Nat.mod_eq_of_lt hy]
  rw [e]
  exact wrap_u64_nat _ (Nat.or_lt_two_pow (n := 64) hx hy)
/-- High part and low part. -/
theorem or_add (x y m : Nat) (hy : y < 2 ^ m) : x * 2 ^ m ||| y = x * 2 ^ m + y := by
  have := Nat.shiftLeft_add_eq_or_of_lt hy x
  rw [Nat.shiftLeft_eq] at this
  exact this.symm
theorem shl32 {x : Int} (h0 : 0 ≤ x) (h1 : x < 4294967296) : shlI .u64 x 32 = x * 4294967296 := by
  have e : shlI .u64 x 32 = wu64 (x * 4294967296) := rfl
  rw [e, wu64_in (by omega) (by omega)]
/-- Two limbs as one word. -/
theorem hilo {x y : Int} (h0 : 0 ≤ x) (h1 : x < 4294967296) (h2 : 0 ≤ y) (h3 : y < 4294967296) : orI .u64 (shlI .u64 x 32) (wu64 y) = x * 4294967296 + y := by
  rw [shl32 h0 h1, wu64_in h2 (by omega)]
  obtain ⟨a, rfl⟩ := Int.eq_ofNat_of_zero_le h0
  obtain ⟨b, rfl⟩ := Int.eq_ofNat_of_zero_le h2
  have e := orI_u64 (x := a * 4294967296) (y := b) (by omega) (by omega)
  rw [or_add a b 32 (by simpa using by omega)] at e
  simpa using e
theorem hilo2 {x y : Int} (h0 : 0 ≤ x) (h1 : x < 4294967296) (h2 : 0 ≤ y) (h3 : y < 4294967296) : orI .u64 (shlI .u64 x 32) y = x * 4294967296 + y := by
  have := hilo h0 h1 h2 h3
  rwa [wu64_in h2 (by omega)] at this
theorem shr32 {x : Int} (h0 : 0 ≤ x) : shrI .u64 x 32 = x / 4294967296 := by
  show Int.fdiv x 4294967296 = _
  rw [Int.fdiv_eq_ediv_of_nonneg _ (by omega)]
theorem tdiv_pos {x y : Int} (h : 0 ≤ x) : Int.tdiv x y = x / y := Int.tdiv_eq_ediv_of_nonneg h
theorem tmod_pos {x y : Int} (h : 0 ≤ x) : Int.tmod x y = x % y := Int.tmod_eq_emod_of_nonneg h
/-- The highest bit of a word of 32 bits. -/
theorem bit31 {v : Nat} (h : v < 4294967296) : v / 2147483648 = if v.testBit 31 = true then 1 else 0 := by
  have e : v.testBit 31 = decide (v / 2 ^ 31 % 2 = 1) := by rw [Nat.testBit_eq_decide_div_mod_eq]
  rw [e]
  by_cases h2 : v < 2147483648
  · have : v / 2147483648 = 0 := by omega
    simp [this]
  · have : v / 2147483648 = 1 := by omega
    simp [this]
theorem bit31' {v : Nat} (h : v < 4294967296) : v.testBit 31 = decide (2147483648 ≤ v) := by
  rw [Nat.testBit_eq_decide_div_mod_eq]
  by_cases h2 : v < 2147483648
  · have : v / 2 ^ 31 = 0 := by omega
    simp [this]; omega
  · have : v / 2 ^ 31 = 1 := by omega
    simp [this]; omega
theorem sub32 {x y b : Nat} (hx : x < 4294967296) (hy : y < 4294967296) (hb : b ≤ 1) :
    wu32 (wu32 ((x : Int) - y) - b) = (((x + 4294967296 * (if x < y + b then 1 else 0)) - y - b : Nat) : Int) := by
  rw [wu32_mod, wu32_mod]
  split <;> omega
theorem borrow32 {x y b d : Nat} (hx : x < 4294967296) (hy : y < 4294967296) (hb : b ≤ 1) (hd : d = (x + 4294967296 * (if x < y + b then 1 else 0)) - y - b) :
    shrI .u32 (orI .u32 (andI .u32 (xorI .u32 (4294967295 : Int) x) y) (andI .u32 (xorI .u32 (4294967295 : Int) (xorI .u32 x y)) (d : Int))) 31 = if x < y + b then 1 else 0 := by
  have hdl : d < 4294967296 := by rw [hd]; split <;> omega
  have e1 := xorI_u32 (x := 4294967295) (y := x) (by omega) hx
  have h1 : 4294967295 ^^^ x < 4294967296 := Nat.xor_lt_two_pow (n := 32) (by omega) hx
  have e2 := andI_u32 h1 hy
  have h2 : (4294967295 ^^^ x) &&& y < 4294967296 := Nat.lt_of_le_of_lt Nat.and_le_left h1
  have e3 := xorI_u32 hx hy
  have h3 : x ^^^ y < 4294967296 := Nat.xor_lt_two_pow (n := 32) hx hy
  have e4 := xorI_u32 (x := 4294967295) (y := x ^^^ y) (by omega) h3
  have h4 : 4294967295 ^^^ (x ^^^ y) < 4294967296 := Nat.xor_lt_two_pow (n := 32) (by omega) h3
  have e5 := andI_u32 h4 hdl
  have h5 : (4294967295 ^^^ (x ^^^ y)) &&& d < 4294967296 := Nat.lt_of_le_of_lt Nat.and_le_left h4
  have e6 := orI_u32 h2 h5
  have h6 := Nat.or_lt_two_pow (n := 32) h2 h5
  have ec : (4294967295 : Int) = ((4294967295 : Nat) : Int) := rfl
  rw [ec, e1, e2, e3, e4, e5, e6]
  show Int.fdiv _ 2147483648 = _
  rw [Int.fdiv_eq_ediv_of_nonneg _ (by omega)]
  have e7 := bit31 h6
  have e8 : (((((4294967295 ^^^ x) &&& y) ||| ((4294967295 ^^^ (x ^^^ y)) &&& d) : Nat) : Int)) / 2147483648 = (((((4294967295 ^^^ x) &&& y) ||| ((4294967295 ^^^ (x ^^^ y)) &&& d)) / 2147483648 : Nat) : Int) := by omega
  rw [e8, e7]
  have t1 : (4294967295 : Nat).testBit 31 = true := by decide
  simp only [Nat.testBit_or, Nat.testBit_and, Nat.testBit_xor, t1, bit31' hx, bit31' hy, bit31' hdl]
  by_cases c : x < y + b
  · rw [if_pos c] at hd ⊢
    by_cases p : 2147483648 ≤ x <;> by_cases q : 2147483648 ≤ y <;> by_cases r : 2147483648 ≤ d <;> simp [p, q, r] <;> omega
  · rw [if_neg c] at hd ⊢
    by_cases p : 2147483648 ≤ x <;> by_cases q : 2147483648 ≤ y <;> by_cases r : 2147483648 ≤ d <;> simp [p, q, r] <;> omega
end Go.AM.PL
