/- Numbers in base 16. -/
import Derived.Test.YtdkjcadffhnjgaaDoorF2
import Derived.Test.YtdkjcadffhnjgaaDoorG5
namespace Go.Proofs.YtdkjcadffhnjgaaDoor
open Go Go.V
set_option maxRecDepth 10000
def dgs : List UInt8 := [48, 49, 50, 51, 52, 53, 54, 55, 56, 57, 97, 98, 99, 100, 101, 102, 103, 104, 105, 106, 107, 108, 109, 110, 111, 112, 113, 114, 115, 116, 117, 118, 119, 120, 121, 122]
def dig (n : Nat) : UInt8 := dgs.getD n 0
def hex (n : Nat) : List UInt8 := if n < 16 then [dig n] else hex (n / 16) ++ [dig (n % 16)]
termination_by n
theorem hex_lt {n : Nat} (h : n < 16) : hex n = [dig n] := by rw [hex, if_pos h]
theorem hex_ge {n : Nat} (h : ¬ n < 16) : hex n = hex (n / 16) ++ [dig (n % 16)] := by rw [hex, if_neg h]
theorem dig_at {n : Nat} (h : n < 36) : dgs[(n : Int).toNat]? = some (dig n) := by
  rw [Int.toNat_natCast, dig, List.getD_eq_getElem?_getD, List.getElem?_eq_getElem (by exact h)]; rfl
theorem uPow : U Tryd.prog 129 [.int .i64 16] (.bool true) := by
  intro σ Post hk
  refine T129 fun hB hA => ?_
  refine W ?_
  exact hk
theorem uTz64 : U Tryd.prog 134 [.int .u64 16] (.int .i64 4) := by
  intro σ Post hk
  have b0 : IntKind.u64.wrap (0 - 16) = 18446744073709551600 := by kernel_rfl
  have b1 : ibin .and .u64 16 .u64 18446744073709551600 = some (.int .u64 16) := by kernel_rfl
  have b2 : ibin .mul .u64 16 .u64 285870213051353865 = some (.int .u64 4573923408821661840) := by kernel_rfl
  have b3 : ibin .shr .u64 4573923408821661840 .u64 58 = some (.int .u64 15) := by kernel_rfl
  refine T134 fun hB hA => ?_
  refine W ?_
  exact hk
theorem uTz : U Tryd.prog 130 [.int .u64 16] (.int .i64 4) := by
  intro σ Post hk
  refine T130 fun hB hA => ?_
  refine W ?_
  refine cu uTz64 ?_
  refine W ?_
  exact hk
instance (b : List UInt8) (o l : Nat) : VCut (u8c b) o l (bsl ((b.drop o).take l)) := ⟨by simp [u8c, bsl, List.map_drop, List.map_take, Function.comp_def]⟩
theorem spl_u8 {b : List UInt8} {i : Nat} {y : UInt8} (h : i < b.length) : splice (u8c b) i [byt y] = u8c (b.set i y) := by
  unfold splice
  rw [List.set_eq_take_append_cons_drop, if_pos h]
  simp [u8c]
theorem uBits {n : Nat} (hn : n < 1000000) : U Tryd.prog 117 [.sl [], .int .u64 n, .int .i64 16, .bool false, .bool false] (.tup [.sl [], .str (hex n)]) := by
  intro σ Post hk
  refine T117 fun hB hA => ?_
  refine W ?_
  refine cu uPow ?_
  refine W ?_
  refine cu uTz ?_
  refine W ?_
  refine lp (fun k e s => ∃ (u i : Nat) (d : List UInt8), i = k + 1 ∧ u < 16 ^ (k + 1) ∧ u < 1000000 ∧ i + d.length = 65 ∧ hex n = hex u ++ d ∧ e 1 = .int .u64 u ∧ e 13 = .int .i64 i ∧
    s = σ ++ [(1, .row 1 [] false), (1, .box (u8c (List.replicate i 0 ++ d)) false), (0, .dead)]) 64 ⟨n, 65, [], rfl, by omega, hn, rfl, by simp, rfl, rfl, rfl⟩ ?_
  rintro k u' _ ⟨u, i, d, hi, hu, hu2, hd, hh, e1, e13, rfl⟩
  have hlen : (List.replicate i (0 : UInt8) ++ d).length = 65 := by simp; omega
  have hlc : (u8c (List.replicate i (0 : UInt8) ++ d)).length = 65 := by rw [u8c_len, hlen]
  have hi2 : ((i : Int) - 1).toNat = i - 1 := by omega
  have hset : ∀ y : UInt8, (List.replicate i (0 : UInt8) ++ d).set (i - 1) y = List.replicate (i - 1) 0 ++ (y :: d) := fun y => by
    obtain ⟨j, rfl⟩ : ∃ j, i = j + 1 := ⟨i - 1, by omega⟩
    rw [List.replicate_succ', List.append_assoc, Nat.add_sub_cancel, List.set_append_right _ _ (by simp), List.length_replicate, Nat.sub_self]; rfl
  by_cases h5 : u < 16
  · have hs2 : splice (u8c (List.replicate i 0 ++ d)) ((i : Int) - 1).toNat [byt (dig u)] = u8c (List.replicate (i - 1) 0 ++ (dig u :: d)) := by
      rw [hi2, spl_u8 (by omega), hset]
    have hl2 : (u8c (List.replicate (i - 1) (0 : UInt8) ++ (dig u :: d))).length = 65 := by rw [u8c_len]; simp; omega
    have hdg := dig_at (n := u) (by omega)
    have hres : ((List.replicate (i - 1) (0 : UInt8) ++ (dig u :: d)).drop ((i : Int) - 1).toNat).take (65 - ((i : Int) - 1).toNat) = hex n := by
      rw [hi2, List.drop_left' (by simp), List.take_of_length_le (by simp; omega), hh, hex_lt h5]; rfl
    rw [← hres] at hk
    refine W ?_
    exact hk
  · have hb : ibin .and .u64 (u : Int) .u64 15 = some (.int .u64 ((u % 16 : Nat) : Int)) := by
      have := ib_andU (a := u) (b := 15) (by omega) (by omega)
      rw [show (15 : Nat) = 2 ^ 4 - 1 from rfl, Nat.and_two_pow_sub_one_eq_mod] at this
      exact this
    have hs : ibin .shr .u64 (u : Int) .u64 4 = some (.int .u64 ((u / 16 : Nat) : Int)) := ib_shrN (n := 4) (by decide)
    have hs2 : splice (u8c (List.replicate i 0 ++ d)) ((i : Int) - 1).toNat [byt (dig (u % 16))] = u8c (List.replicate (i - 1) 0 ++ (dig (u % 16) :: d)) := by
      rw [hi2, spl_u8 (by omega), hset]
    have hdg := dig_at (n := u % 16) (by omega)
    have hk1 : 0 < k := by
      rcases Nat.eq_zero_or_pos k with rfl | h
      · omega
      · exact h
    refine W ?_
    refine ⟨k - 1, by omega, u / 16, i - 1, dig (u % 16) :: d, by omega, ?_, by omega, by simp; omega, by rw [hh, hex_ge h5, List.append_assoc]; rfl, rfl, ?_, rfl⟩
    · rw [show k - 1 + 1 = k by omega]
      rw [Nat.pow_succ] at hu
      exact Nat.div_lt_of_lt_mul (by rw [Nat.mul_comm]; exact hu)
    · show PV.int _ _ = _
      congr 1; omega
theorem uFmt99 {n : Nat} (hn : n < 1000000) : U Tryd.prog 99 [.int .i64 n, .int .i64 16] (.str (hex n)) := by
  intro σ Post hk
  refine T99 fun hB hA => ?_
  refine W ?_
  refine cu (uBits hn) ?_
  refine W ?_
  exact hk
theorem uFmt {n : Nat} (hn : n < 1000000) : U Tryd.prog 118 [.int .i64 n, .int .i64 16] (.str (hex n)) := by
  intro σ Post hk
  refine T118 fun hB hA => ?_
  refine W ?_
  refine cu (uFmt99 hn) ?_
  refine W ?_
  exact hk
end Go.Proofs.YtdkjcadffhnjgaaDoor
