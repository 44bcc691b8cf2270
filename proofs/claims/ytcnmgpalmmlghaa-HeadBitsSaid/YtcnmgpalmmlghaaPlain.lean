/- Plain facts on bits and whole numbers that the head laws lean on: no program is named here. -/
import Derived.Laws.BitsLemmas
import Derived.RowKit
namespace Go.Proofs.Ytcnmgpalmmlghaa.Plain
open Go.RowKit

theorem wraps63 (n : Int) (h0 : 0 ≤ n) (h1 : n < 2 ^ 63) : IntKind.i64.wrap n = n := by
  rw [IntKind.wrap_i64]; omega

theorem or_low (i : Nat) (y x : Int) (hx0 : 0 ≤ x) (hx : x % 2 ^ i = 0) (hx1 : x < 2 ^ 63) (hy0 : 0 ≤ y) (hy : y < 2 ^ i) (hy1 : y < 2 ^ 63) :
    bits .or .i64 y x = y + x := by
  have hc : bits .or .i64 y x = bits .or .i64 x y := by simp only [bits, BitVec.or_comm]
  rw [hc, bits_join .i64 63 (by decide) wraps63 i x y hx0 hx hx1 hy0 hy hy1]
  omega

theorem and1 (n : Int) : bits .and .i64 n 1 = n % 2 := by
  have hm : (BitVec.ofInt 64 1).toNat = 2 ^ 1 - 1 := by decide
  have key : (BitVec.ofInt 64 n &&& BitVec.ofInt 64 1).toNat = (n % ((2 ^ 64 : Nat) : Int)).toNat % 2 ^ 1 := by
    rw [BitVec.toNat_and, BitVec.toNat_ofInt, hm, Nat.and_two_pow_sub_one_eq_mod]
  show IntKind.i64.wrap ((BitVec.ofInt 64 n &&& BitVec.ofInt 64 1).toNat : Nat) = n % 2
  rw [key, IntKind.wrap_i64]
  omega

theorem and127 (n : Int) : bits .and .i64 n 127 = n % 128 := by
  have hm : (BitVec.ofInt 64 127).toNat = 2 ^ 7 - 1 := by decide
  have key : (BitVec.ofInt 64 n &&& BitVec.ofInt 64 127).toNat = (n % ((2 ^ 64 : Nat) : Int)).toNat % 2 ^ 7 := by
    rw [BitVec.toNat_and, BitVec.toNat_ofInt, hm, Nat.and_two_pow_sub_one_eq_mod]
  show IntKind.i64.wrap ((BitVec.ofInt 64 n &&& BitVec.ofInt 64 127).toNat : Nat) = n % 128
  rw [key, IntKind.wrap_i64]
  omega

theorem and22 (n : Int) : bits .and .i64 n 4194303 = n % 4194304 := by
  have hm : (BitVec.ofInt 64 4194303).toNat = 2 ^ 22 - 1 := by decide
  have key : (BitVec.ofInt 64 n &&& BitVec.ofInt 64 4194303).toNat = (n % ((2 ^ 64 : Nat) : Int)).toNat % 2 ^ 22 := by
    rw [BitVec.toNat_and, BitVec.toNat_ofInt, hm, Nat.and_two_pow_sub_one_eq_mod]
  show IntKind.i64.wrap ((BitVec.ofInt 64 n &&& BitVec.ofInt 64 4194303).toNat : Nat) = n % 4194304
  rw [key, IntKind.wrap_i64]
  omega

theorem nat_and_bit (x i : Nat) : x &&& 2 ^ i = x / 2 ^ i % 2 * 2 ^ i := by
  apply Nat.eq_of_testBit_eq
  intro j
  rw [Nat.testBit_and, Nat.testBit_two_pow, Nat.testBit_mul_two_pow]
  by_cases h : i = j
  · subst h
    simp [Nat.testBit_eq_decide_div_mod_eq]
  · simp only [h, decide_false, Bool.and_false]
    by_cases hj : i ≤ j
    · obtain ⟨d, hd⟩ : ∃ d, j - i = d + 1 := ⟨j - i - 1, by omega⟩
      rw [hd, Nat.testBit_succ]
      simp [Nat.div_eq_of_lt (Nat.mod_lt (x / 2 ^ i) (show 2 > 0 by decide))]
    · simp [hj]

theorem and2 (n : Int) : bits .and .i64 n 2 = n / 2 % 2 * 2 := by
  have hm : (BitVec.ofInt 64 2).toNat = 2 ^ 1 := by decide
  have key : (BitVec.ofInt 64 n &&& BitVec.ofInt 64 2).toNat = (n % ((2 ^ 64 : Nat) : Int)).toNat / 2 ^ 1 % 2 * 2 ^ 1 := by
    rw [BitVec.toNat_and, BitVec.toNat_ofInt, hm, nat_and_bit]
  show IntKind.i64.wrap ((BitVec.ofInt 64 n &&& BitVec.ofInt 64 2).toNat : Nat) = n / 2 % 2 * 2
  rw [key, IntKind.wrap_i64]
  omega

theorem and4 (n : Int) : bits .and .i64 n 4 = n / 4 % 2 * 4 := by
  have hm : (BitVec.ofInt 64 4).toNat = 2 ^ 2 := by decide
  have key : (BitVec.ofInt 64 n &&& BitVec.ofInt 64 4).toNat = (n % ((2 ^ 64 : Nat) : Int)).toNat / 2 ^ 2 % 2 * 2 ^ 2 := by
    rw [BitVec.toNat_and, BitVec.toNat_ofInt, hm, nat_and_bit]
  show IntKind.i64.wrap ((BitVec.ofInt 64 n &&& BitVec.ofInt 64 4).toNat : Nat) = n / 4 % 2 * 4
  rw [key, IntKind.wrap_i64]
  omega

def b1 (b : Bool) (k : Int) : Int := if b = true then k else 0

/-- A head's word, as a sum. -/
def word (u o d : Bool) (n b m : Int) : Int := b1 u 1 + b1 o 2 + b1 d 4 + 8 * n + 1024 * b + 4294967296 * m

theorem or_word (u o d : Bool) (n b m : Int) (hn : 0 ≤ n ∧ n ≤ 63) (hb : 0 ≤ b ∧ b ≤ 1048576) (hm : 0 ≤ m ∧ m ≤ 1048576) :
    bits .or .i64 (bits .or .i64 (bits .or .i64 (bits .or .i64 (bits .or .i64 (b1 u 1) (b1 o 2)) (b1 d 4)) (wrap64 (n * 8))) (wrap64 (b * 1024))) (wrap64 (m * 4294967296)) = word u o d n b m := by
  have e1 : wrap64 (n * 8) = 8 * n := by unfold wrap64; omega
  have e2 : wrap64 (b * 1024) = 1024 * b := by unfold wrap64; omega
  have e3 : wrap64 (m * 4294967296) = 4294967296 * m := by unfold wrap64; omega
  have hu : 0 ≤ b1 u 1 ∧ b1 u 1 ≤ 1 := by cases u <;> simp [b1]
  have ho : b1 o 2 = 0 ∨ b1 o 2 = 2 := by cases o <;> simp [b1]
  have hd : b1 d 4 = 0 ∨ b1 d 4 = 4 := by cases d <;> simp [b1]
  rw [e1, e2, e3]
  unfold word
  generalize b1 u 1 = x at *
  generalize b1 o 2 = y at *
  generalize b1 d 4 = z at *
  rw [or_low 1 x y (by omega) (by omega) (by omega) (by omega) (by omega) (by omega),
    or_low 2 (x + y) z (by omega) (by omega) (by omega) (by omega) (by omega) (by omega),
    or_low 3 (x + y + z) (8 * n) (by omega) (by omega) (by omega) (by omega) (by omega) (by omega),
    or_low 10 (x + y + z + 8 * n) (1024 * b) (by omega) (by omega) (by omega) (by omega) (by omega) (by omega),
    or_low 32 (x + y + z + 8 * n + 1024 * b) (4294967296 * m) (by omega) (by omega) (by omega) (by omega) (by omega) (by omega)]

/-- May a head be? -/
def may (u o d : Bool) (n b m : Int) : Bool :=
  if u = true then decide (0 ≤ n ∧ n ≤ 63) && (decide (0 ≤ b ∧ b ≤ 1048576) && decide (0 ≤ m ∧ m ≤ 1048576)) else !o && (!d && (n == 0 && (b == 0 && m == 0)))

theorem may_used {o d : Bool} {n b m : Int} (h : may true o d n b m = true) : (0 ≤ n ∧ n ≤ 63) ∧ (0 ≤ b ∧ b ≤ 1048576) ∧ (0 ≤ m ∧ m ≤ 1048576) := by
  simpa [may] using h
theorem may_unused {o d : Bool} {n b m : Int} (h : may false o d n b m = true) : o = false ∧ d = false ∧ n = 0 ∧ b = 0 ∧ m = 0 := by
  simpa [may] using h
theorem may_range {u o d : Bool} {n b m : Int} (h : may u o d n b m = true) : (0 ≤ n ∧ n ≤ 63) ∧ (0 ≤ b ∧ b ≤ 1048576) ∧ (0 ≤ m ∧ m ≤ 1048576) := by
  cases u
  · obtain ⟨rfl, rfl, rfl, rfl, rfl⟩ := may_unused h; simp
  · exact may_used h

/-- The used head of a word, if there is one. -/
def odd (w : Int) : Bool := decide (0 ≤ w) && (decide (w % 2 = 1) && may true (w / 2 % 2 == 1) (w / 4 % 2 == 1) (w / 8 % 128) (w / 1024 % 4194304) (w / 4294967296))

abbrev Parts := Bool × Bool × Bool × Int × Int × Int × Bool
/-- The head of a word. -/
def unpack (w : Int) : Parts :=
  if w = 0 then (false, false, false, 0, 0, 0, true)
  else if odd w = true then (true, w / 2 % 2 == 1, w / 4 % 2 == 1, w / 8 % 128, w / 1024 % 4194304, w / 4294967296, true)
  else (false, false, false, 0, 0, 0, false)

theorem word_odd (w : Int) (h1 : w % 2 = 1) :
    word true (w / 2 % 2 == 1) (w / 4 % 2 == 1) (w / 8 % 128) (w / 1024 % 4194304) (w / 4294967296) = w := by
  have e1 : b1 (w / 2 % 2 == 1) 2 = 2 * (w / 2 % 2) := by
    by_cases h : w / 2 % 2 = 1
    · simp [b1, h]
    · have : w / 2 % 2 = 0 := by omega
      simp [b1, this]
  have e2 : b1 (w / 4 % 2 == 1) 4 = 4 * (w / 4 % 2) := by
    by_cases h : w / 4 % 2 = 1
    · simp [b1, h]
    · have : w / 4 % 2 = 0 := by omega
      simp [b1, this]
  unfold word
  rw [e1, e2]
  simp only [b1, if_true]
  omega

/-- Unpack's own way comes to it. -/
theorem unpack_way (w : Int) (hw : -9223372036854775808 ≤ w ∧ w ≤ 9223372036854775807) :
    (if may (w % 2 != 0) (w / 2 % 2 != 0) (w / 4 % 2 != 0) (w / 8 % 128) (w / 1024 % 4194304) (w / 4294967296) = true then
      (if word (w % 2 != 0) (w / 2 % 2 != 0) (w / 4 % 2 != 0) (w / 8 % 128) (w / 1024 % 4194304) (w / 4294967296) = w then
        ((w % 2 != 0), (w / 2 % 2 != 0), (w / 4 % 2 != 0), w / 8 % 128, w / 1024 % 4194304, w / 4294967296, true) else (false, false, false, 0, 0, 0, false))
      else (false, false, false, 0, 0, 0, false)) = unpack w := by
  have f2 : (w / 2 % 2 != 0) = (w / 2 % 2 == 1) := by
    rcases Int.emod_two_eq (w / 2) with h | h <;> simp [h]
  have f4 : (w / 4 % 2 != 0) = (w / 4 % 2 == 1) := by
    rcases Int.emod_two_eq (w / 4) with h | h <;> simp [h]
  rw [f2, f4]
  unfold unpack odd
  rcases Int.emod_two_eq w with h | h
  · have f1 : (w % 2 != 0) = false := by simp [h]
    rw [f1]
    by_cases hz : w = 0
    · subst hz; decide
    · rw [if_neg hz]
      have hn : ¬ (may false (w / 2 % 2 == 1) (w / 4 % 2 == 1) (w / 8 % 128) (w / 1024 % 4194304) (w / 4294967296) = true) := by
        intro hm
        obtain ⟨g1, g2, g3, g4, g5⟩ := may_unused hm
        simp at g1 g2
        omega
      rw [if_neg hn]
      simp [h]
  · have f1 : (w % 2 != 0) = true := by simp [h]
    rw [f1]
    have hz : ¬ w = 0 := by omega
    rw [if_neg hz]
    by_cases h0 : 0 ≤ w
    · rw [word_odd w h]
      simp [h0, h]
    · have hn : ¬ (may true (w / 2 % 2 == 1) (w / 4 % 2 == 1) (w / 8 % 128) (w / 1024 % 4194304) (w / 4294967296) = true) := by
        intro hm
        have := may_used hm
        omega
      rw [if_neg hn]
      simp [h0]

theorem odd_parts {w : Int} (h : odd w = true) : 0 ≤ w ∧ w % 2 = 1 ∧ may true (w / 2 % 2 == 1) (w / 4 % 2 == 1) (w / 8 % 128) (w / 1024 % 4194304) (w / 4294967296) = true := by
  simpa [odd] using h

/-- What was packed is unpacked. -/
theorem unpack_word (o d : Bool) (n b m : Int) (h : may true o d n b m = true) : unpack (word true o d n b m) = (true, o, d, n, b, m, true) := by
  obtain ⟨hn, hb, hm⟩ := may_used h
  have ho : (o = true ∧ b1 o 2 = 2) ∨ (o = false ∧ b1 o 2 = 0) := by cases o <;> simp [b1]
  have hd : (d = true ∧ b1 d 4 = 4) ∨ (d = false ∧ b1 d 4 = 0) := by cases d <;> simp [b1]
  have hw : word true o d n b m = 1 + b1 o 2 + b1 d 4 + 8 * n + 1024 * b + 4294967296 * m := by simp [word, b1]
  generalize hW : word true o d n b m = W at *
  have p1 : (W / 2 % 2 == 1) = o := by
    rcases ho with ⟨rfl, e⟩ | ⟨rfl, e⟩ <;> rcases hd with ⟨rfl, e'⟩ | ⟨rfl, e'⟩ <;> simp <;> omega
  have p2 : (W / 4 % 2 == 1) = d := by
    rcases ho with ⟨rfl, e⟩ | ⟨rfl, e⟩ <;> rcases hd with ⟨rfl, e'⟩ | ⟨rfl, e'⟩ <;> simp <;> omega
  have p3 : W / 8 % 128 = n := by rcases ho with ⟨_, e⟩ | ⟨_, e⟩ <;> rcases hd with ⟨_, e'⟩ | ⟨_, e'⟩ <;> omega
  have p4 : W / 1024 % 4194304 = b := by rcases ho with ⟨_, e⟩ | ⟨_, e⟩ <;> rcases hd with ⟨_, e'⟩ | ⟨_, e'⟩ <;> omega
  have p5 : W / 4294967296 = m := by rcases ho with ⟨_, e⟩ | ⟨_, e⟩ <;> rcases hd with ⟨_, e'⟩ | ⟨_, e'⟩ <;> omega
  have p6 : W % 2 = 1 := by rcases ho with ⟨_, e⟩ | ⟨_, e⟩ <;> rcases hd with ⟨_, e'⟩ | ⟨_, e'⟩ <;> omega
  have p7 : 0 ≤ W := by rcases ho with ⟨_, e⟩ | ⟨_, e⟩ <;> rcases hd with ⟨_, e'⟩ | ⟨_, e'⟩ <;> omega
  have p8 : ¬ W = 0 := by omega
  unfold unpack
  have hodd : odd W = true := by
    unfold odd
    rw [p1, p2, p3, p4, p5, h]
    simp [p6, p7]
  rw [if_neg p8, if_pos hodd, p1, p2, p3, p4, p5]

theorem word_unused : word false false false 0 0 0 = 0 := by decide
theorem word_pos (o d : Bool) (n b m : Int) (h : may true o d n b m = true) : 0 < word true o d n b m := by
  obtain ⟨hn, hb, hm⟩ := may_used h
  have ho : b1 o 2 = 2 ∨ b1 o 2 = 0 := by cases o <;> simp [b1]
  have hd : b1 d 4 = 4 ∨ b1 d 4 = 0 := by cases d <;> simp [b1]
  unfold word
  simp only [b1, if_true] at *
  omega

end Go.Proofs.Ytcnmgpalmmlghaa.Plain
