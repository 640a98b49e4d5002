/- Bits. -/
import Derived.Test.YtdkjcadffhnjgaaDoorVW
namespace Go.V
open Go
theorem or_low {a b : Nat} (h : b < 256) : (a * 256) ||| b = a * 256 + b := by
  have := Nat.shiftLeft_add_eq_or_of_lt (i := 8) (b := b) (by simpa using h) a
  rw [Nat.shiftLeft_eq] at this
  exact this.symm
theorem bv_i64 {a : Nat} : BitVec.ofInt IntKind.i64.bits (a : Int) = BitVec.ofNat 64 a := by
  show BitVec.ofInt 64 (a : Int) = _
  simp
theorem bv_u8 (a : Nat) : BitVec.ofInt IntKind.u8.bits (a : Int) = BitVec.ofNat 8 a := by
  show BitVec.ofInt 8 (a : Int) = _
  simp
theorem ib_orN {a b : Nat} (ha : a < 2 ^ 63) (hb : b < 2 ^ 63) : ibin .or .i64 (a : Int) .i64 (b : Int) = some (.int .i64 ((a ||| b : Nat) : Int)) := by
  have h : a ||| b < 2 ^ 63 := Nat.or_lt_two_pow ha hb
  simp only [ibin, ibits, if_true]
  rw [bv_i64, bv_i64]
  have e : (BitVec.ofNat 64 a ||| BitVec.ofNat 64 b).toNat = a ||| b := by
    rw [BitVec.toNat_or, BitVec.toNat_ofNat, BitVec.toNat_ofNat, Nat.mod_eq_of_lt (by omega), Nat.mod_eq_of_lt (by omega)]
  show some (PV.int .i64 (IntKind.i64.wrap ((BitVec.ofNat 64 a ||| BitVec.ofNat 64 b).toNat : Int))) = _
  rw [e, w_i64 (by omega) (by omega)]
theorem ib_andN {a b : Nat} (ha : a < 2 ^ 63) (hb : b < 2 ^ 63) : ibin .and .i64 (a : Int) .i64 (b : Int) = some (.int .i64 ((a &&& b : Nat) : Int)) := by
  have h : a &&& b < 2 ^ 63 := Nat.and_lt_two_pow a hb
  simp only [ibin, ibits, if_true]
  rw [bv_i64, bv_i64]
  have e : (BitVec.ofNat 64 a &&& BitVec.ofNat 64 b).toNat = a &&& b := by
    rw [BitVec.toNat_and, BitVec.toNat_ofNat, BitVec.toNat_ofNat, Nat.mod_eq_of_lt (by omega), Nat.mod_eq_of_lt (by omega)]
  show some (PV.int .i64 (IntKind.i64.wrap ((BitVec.ofNat 64 a &&& BitVec.ofNat 64 b).toNat : Int))) = _
  rw [e, w_i64 (by omega) (by omega)]
theorem bv_u64 {a : Nat} : BitVec.ofInt IntKind.u64.bits (a : Int) = BitVec.ofNat 64 a := by
  show BitVec.ofInt 64 (a : Int) = _
  simp
theorem ib_andU {a b : Nat} (ha : a < 2 ^ 64) (hb : b < 2 ^ 64) : ibin .and .u64 (a : Int) .u64 (b : Int) = some (.int .u64 ((a &&& b : Nat) : Int)) := by
  have h : a &&& b < 2 ^ 64 := Nat.and_lt_two_pow a hb
  simp only [ibin, ibits, if_true]
  rw [bv_u64, bv_u64]
  have e : (BitVec.ofNat 64 a &&& BitVec.ofNat 64 b).toNat = a &&& b := by
    rw [BitVec.toNat_and, BitVec.toNat_ofNat, BitVec.toNat_ofNat, Nat.mod_eq_of_lt (by omega), Nat.mod_eq_of_lt (by omega)]
  show some (PV.int .u64 (IntKind.u64.wrap ((BitVec.ofNat 64 a &&& BitVec.ofNat 64 b).toNat : Int))) = _
  rw [e, w_u64 (by omega) (by omega)]
theorem ib_andB {a b : UInt8} : ibin .and .u8 (a.toNat : Int) .u8 (b.toNat : Int) = some (.int .u8 (((a &&& b).toNat : Nat) : Int)) := by
  simp only [ibin, ibits, if_true]
  rw [bv_u8, bv_u8]
  have e : (BitVec.ofNat 8 a.toNat &&& BitVec.ofNat 8 b.toNat).toNat = (a &&& b).toNat := by
    have h1 := a.toNat_lt
    have h2 := b.toNat_lt
    rw [BitVec.toNat_and, BitVec.toNat_ofNat, BitVec.toNat_ofNat, Nat.mod_eq_of_lt (by omega), Nat.mod_eq_of_lt (by omega), UInt8.toNat_and]
  show some (PV.int .u8 (IntKind.u8.wrap ((BitVec.ofNat 8 a.toNat &&& BitVec.ofNat 8 b.toNat).toNat : Int))) = _
  have := (a &&& b).toNat_lt
  rw [e, w_u8 (by omega) (by omega)]
theorem ib_shlN {a : Nat} {k' : IntKind} {n : Nat} (hn : n ≤ 64) (h : a * 2 ^ n < 2 ^ 63) : ibin .shl .i64 (a : Int) k' (n : Int) = some (.int .i64 ((a * 2 ^ n : Nat) : Int)) := by
  have e : min (n : Int).toNat IntKind.i64.bits = n := by rw [Int.toNat_natCast]; exact Nat.min_eq_left hn
  unfold ibin
  simp only [e]
  rw [if_pos (by omega)]
  have e2 : (a : Int) * 2 ^ n = ((a * 2 ^ n : Nat) : Int) := by push_cast; rfl
  rw [e2, w_i64 (by omega) (by omega)]
theorem ib_shrN {a : Nat} {k k' : IntKind} {n : Nat} (hn : n ≤ k.bits) : ibin .shr k (a : Int) k' (n : Int) = some (.int k ((a / 2 ^ n : Nat) : Int)) := by
  have e : min (n : Int).toNat k.bits = n := by rw [Int.toNat_natCast]; exact Nat.min_eq_left hn
  unfold ibin
  simp only [e]
  rw [if_pos (by omega)]
  have e2 : Int.fdiv (a : Int) (2 ^ n) = ((a / 2 ^ n : Nat) : Int) := by
    rw [Int.fdiv_eq_ediv_of_nonneg _ (Int.pow_nonneg (by omega))]; push_cast; rfl
  rw [e2]
end Go.V
