/- Multicast routes: a route's cells; of, bare, Right. -/
import Derived.Test.YtjhmobdncjhcnaaGreatDoorM1
import Derived.Test.YtjhmobdncjhcnaaGreatDoorVJ
namespace Go.Proofs.YtjhmobdncjhcnaaGreatDoor
open Go Go.V
set_option maxRecDepth 10000
structure Mr where
  k : Int
  rd : List UInt8
  aa : Int
  s : Ad
  g : Ad
  f : Ad
  key : List UInt8
  deriving DecidableEq
def mrc (m : Mr) : List PV := [.int .i64 m.k] ++ (u8c m.rd ++ ([.int .i64 m.aa] ++ (adc m.s ++ (adc m.g ++ (adc m.f ++ [.str m.key])))))
structure okM (m : Mr) : Prop where
  rd : m.rd.length = 8
  s : okD m.s
  g : okD m.g
  f : okD m.f
def mr0 : Mr := ⟨0, z8, 0, ad0, ad0, ad0, []⟩
theorem mr0_ok : okM mr0 := ⟨rfl, rfl, rfl, rfl⟩
def mz : List PV := mrc mr0
instance (m : Mr) : PlL (mrc m) := by unfold mrc; infer_instance
instance (m : Mr) : ClL (mrc m) := by unfold mrc; infer_instance
section
variable {m : Mr}
theorem mrc_sc : (mrc m).all scalar = true := by
  unfold mrc
  simp only [List.all_append, u8c_sc, adc_sc, List.all_cons, List.all_nil, scalar, Bool.and_self]
theorem mrc_len (h : okM m) : (mrc m).length = 62 := by
  unfold mrc
  simp only [List.length_append, List.length_cons, List.length_nil, u8c_len, h.rd, adc_len h.s, adc_len h.g, adc_len h.f]
theorem mrc_all (h : okM m) : cut (mrc m) 0 (some 62) = some (.agg (mrc m)) := by
  have := mrc_len h
  simp only [cut]; rw [if_pos (by omega), List.drop_zero, List.take_of_length_le (by omega)]
theorem e_as : mrc m = ([.int .i64 m.k] ++ u8c m.rd) ++ (.int .i64 m.aa :: (adc m.s ++ (adc m.g ++ (adc m.f ++ [.str m.key])))) := by simp [mrc]
theorem e_s : mrc m = ([.int .i64 m.k] ++ (u8c m.rd ++ [.int .i64 m.aa])) ++ (adc m.s ++ (adc m.g ++ (adc m.f ++ [.str m.key]))) := by simp [mrc]
theorem e_g : mrc m = ([.int .i64 m.k] ++ (u8c m.rd ++ ([.int .i64 m.aa] ++ adc m.s))) ++ (adc m.g ++ (adc m.f ++ [.str m.key])) := by simp [mrc]
theorem e_f : mrc m = ([.int .i64 m.k] ++ (u8c m.rd ++ ([.int .i64 m.aa] ++ (adc m.s ++ adc m.g)))) ++ (adc m.f ++ [.str m.key]) := by simp [mrc]
theorem e_key : mrc m = ([.int .i64 m.k] ++ (u8c m.rd ++ ([.int .i64 m.aa] ++ (adc m.s ++ (adc m.g ++ adc m.f))))) ++ (.str m.key :: []) := by simp [mrc]
section
variable (h : okM m)
include h
theorem l_as : ([PV.int .i64 m.k] ++ u8c m.rd).length = 9 := by simp [u8c_len, h.rd]
theorem l_s : ([PV.int .i64 m.k] ++ (u8c m.rd ++ [PV.int .i64 m.aa])).length = 10 := by simp [u8c_len, h.rd]
theorem l_g : ([PV.int .i64 m.k] ++ (u8c m.rd ++ ([PV.int .i64 m.aa] ++ adc m.s))).length = 27 := by simp [u8c_len, h.rd, adc_len h.s]
theorem l_f : ([PV.int .i64 m.k] ++ (u8c m.rd ++ ([PV.int .i64 m.aa] ++ (adc m.s ++ adc m.g)))).length = 44 := by simp [u8c_len, h.rd, adc_len h.s, adc_len h.g]
theorem l_key : ([PV.int .i64 m.k] ++ (u8c m.rd ++ ([PV.int .i64 m.aa] ++ (adc m.s ++ (adc m.g ++ adc m.f))))).length = 61 := by simp [u8c_len, h.rd, adc_len h.s, adc_len h.g, adc_len h.f]
theorem mc_rd : cut (mrc m) 1 (some 8) = some (.agg (u8c m.rd)) := cut_mid rfl (by rw [u8c_len, h.rd])
theorem mc_as : cut (mrc m) 9 none = some (.int .i64 m.aa) := by rw [e_as]; exact cut_one (l_as h)
theorem mc_s : cut (mrc m) 10 (some 17) = some (.agg (adc m.s)) := by rw [e_s]; exact cut_mid (l_s h) (adc_len h.s)
theorem mc_g : cut (mrc m) 27 (some 17) = some (.agg (adc m.g)) := by rw [e_g]; exact cut_mid (l_g h) (adc_len h.g)
theorem mc_f : cut (mrc m) 44 (some 17) = some (.agg (adc m.f)) := by rw [e_f]; exact cut_mid (l_f h) (adc_len h.f)
theorem mc_key : cut (mrc m) 61 none = some (.str m.key) := by rw [e_key]; exact cut_one (l_key h)
theorem ms_all : splice mz 0 (mrc m) = mrc m := by
  unfold splice
  rw [List.drop_of_length_le (by rw [mrc_len h]; exact Nat.le_refl _)]
  simp
theorem ms_rd {q : List UInt8} (hq : q.length = 8) : splice (mrc m) 1 (u8c q) = mrc { m with rd := q } := spl_mid rfl (by rw [u8c_len, u8c_len, h.rd, hq])
theorem ms_as {z : Int} : splice (mrc m) 9 [.int .i64 z] = mrc { m with aa := z } := by
  have := @spl_mid ([PV.int .i64 m.k] ++ u8c m.rd) [.int .i64 m.aa] [.int .i64 z] (adc m.s ++ (adc m.g ++ (adc m.f ++ [.str m.key]))) 9 (l_as h) rfl
  rw [e_as, e_as (m := { m with aa := z })]; exact this
theorem ms_s {a : Ad} (ha : okD a) : splice (mrc m) 10 (adc a) = mrc { m with s := a } := by
  rw [e_s, e_s (m := { m with s := a })]; exact spl_mid (l_s h) (by rw [adc_len ha, adc_len h.s])
theorem ms_g {a : Ad} (ha : okD a) : splice (mrc m) 27 (adc a) = mrc { m with g := a } := by
  rw [e_g, e_g (m := { m with g := a })]; exact spl_mid (l_g h) (by rw [adc_len ha, adc_len h.g])
theorem ms_f {a : Ad} (ha : okD a) : splice (mrc m) 44 (adc a) = mrc { m with f := a } := by
  rw [e_f, e_f (m := { m with f := a })]; exact spl_mid (l_f h) (by rw [adc_len ha, adc_len h.f])
theorem ms_key {z : List UInt8} : splice (mrc m) 61 [.str z] = mrc { m with key := z } := by
  have := @spl_mid ([PV.int .i64 m.k] ++ (u8c m.rd ++ ([PV.int .i64 m.aa] ++ (adc m.s ++ (adc m.g ++ adc m.f))))) [.str m.key] [.str z] [] 61 (l_key h) rfl
  rw [e_key, e_key (m := { m with key := z })]; simpa using this
end
end
structure Pt where
  rd : Bool
  aa : Bool
  fl : Bool
  fr : Bool
  deriving DecidableEq
def ptc (p : Pt) : List PV := [.bool p.rd, .bool p.aa, .bool p.fl, .bool p.fr]
theorem pt_len (p : Pt) : (ptc p).length = 4 := rfl
theorem pt_set (p : Pt) : splice [.bool false, .bool false, .bool false, .bool false] 0 (ptc p) = ptc p := rfl
instance (p : Pt) : PlL (ptc p) := by unfold ptc; infer_instance
instance (p : Pt) : ClL (ptc p) := by unfold ptc; infer_instance
theorem pt_sc (p : Pt) : (ptc p).all scalar = true := rfl
def ofF (k : Int) : Pt × Bool :=
  if k = 1 then (⟨true, false, false, true⟩, true) else if k = 2 then (⟨true, true, false, false⟩, true) else if k = 3 then (⟨true, false, true, true⟩, true) else if k = 4 then (⟨false, false, false, true⟩, true)
  else if k = 5 then (⟨true, false, true, false⟩, true) else if k = 6 then (⟨true, true, true, false⟩, true) else if k = 7 then (⟨true, true, true, false⟩, true) else (⟨false, false, false, false⟩, false)
theorem kinds {k : Int} (h : (ofF k).2 = true) : k = 1 ∨ k = 2 ∨ k = 3 ∨ k = 4 ∨ k = 5 ∨ k = 6 ∨ k = 7 := by
  unfold ofF at h
  by_cases h1 : k = 1 <;> by_cases h2 : k = 2 <;> by_cases h3 : k = 3 <;> by_cases h4 : k = 4 <;> by_cases h5 : k = 5 <;> by_cases h6 : k = 6 <;> by_cases h7 : k = 7 <;> simp_all
theorem ofF_no {k : Int} (h : ¬ (1 ≤ k ∧ k ≤ 7)) : ofF k = (⟨false, false, false, false⟩, false) := by
  unfold ofF
  rw [if_neg (by omega), if_neg (by omega), if_neg (by omega), if_neg (by omega), if_neg (by omega), if_neg (by omega), if_neg (by omega)]
def mtab1 : List (Nat × VFun) := [(144, vf144)]
theorem mtab1_ok : TabOk Tryz.prog mtab1 := TabOk.cons ⟨_, rawF, Tryz.func144, cf144⟩ TabOk.nil
theorem box60 : splice (List.replicate 32 (PV.bool false)) 0 [PV.bool false, .bool false, .bool false, .bool false, .bool true, .bool false, .bool false, .bool true, .bool true, .bool true, .bool false, .bool false, .bool true, .bool false, .bool true, .bool true, .bool false, .bool false, .bool false, .bool true, .bool true, .bool false, .bool true, .bool false, .bool true, .bool true, .bool true, .bool false, .bool true, .bool true, .bool true, .bool false] = [PV.bool false, .bool false, .bool false, .bool false, .bool true, .bool false, .bool false, .bool true, .bool true, .bool true, .bool false, .bool false, .bool true, .bool false, .bool true, .bool true, .bool false, .bool false, .bool false, .bool true, .bool true, .bool false, .bool true, .bool false, .bool true, .bool true, .bool true, .bool false, .bool true, .bool true, .bool true, .bool false] := by rfl
theorem of1 : U Tryz.prog 144 [.int .i64 1] (.tup [.agg [.bool true, .bool false, .bool false, .bool true], .bool true]) := U_kernelA (tab := mtab1) (ext := extX) (spec := specX) 100 20 [.int .i64 1] (.tup [.agg [.bool true, .bool false, .bool false, .bool true], .bool true]) mtab1_ok extX_ok specX_ok glob_cl (by kernel_rfl) (by kernel_rfl)
theorem of2 : U Tryz.prog 144 [.int .i64 2] (.tup [.agg [.bool true, .bool true, .bool false, .bool false], .bool true]) := U_kernelA (tab := mtab1) (ext := extX) (spec := specX) 100 20 [.int .i64 2] (.tup [.agg [.bool true, .bool true, .bool false, .bool false], .bool true]) mtab1_ok extX_ok specX_ok glob_cl (by kernel_rfl) (by kernel_rfl)
theorem of3 : U Tryz.prog 144 [.int .i64 3] (.tup [.agg [.bool true, .bool false, .bool true, .bool true], .bool true]) := U_kernelA (tab := mtab1) (ext := extX) (spec := specX) 100 20 [.int .i64 3] (.tup [.agg [.bool true, .bool false, .bool true, .bool true], .bool true]) mtab1_ok extX_ok specX_ok glob_cl (by kernel_rfl) (by kernel_rfl)
theorem of4 : U Tryz.prog 144 [.int .i64 4] (.tup [.agg [.bool false, .bool false, .bool false, .bool true], .bool true]) := U_kernelA (tab := mtab1) (ext := extX) (spec := specX) 100 20 [.int .i64 4] (.tup [.agg [.bool false, .bool false, .bool false, .bool true], .bool true]) mtab1_ok extX_ok specX_ok glob_cl (by kernel_rfl) (by kernel_rfl)
theorem of5 : U Tryz.prog 144 [.int .i64 5] (.tup [.agg [.bool true, .bool false, .bool true, .bool false], .bool true]) := U_kernelA (tab := mtab1) (ext := extX) (spec := specX) 100 20 [.int .i64 5] (.tup [.agg [.bool true, .bool false, .bool true, .bool false], .bool true]) mtab1_ok extX_ok specX_ok glob_cl (by kernel_rfl) (by kernel_rfl)
theorem of6 : U Tryz.prog 144 [.int .i64 6] (.tup [.agg [.bool true, .bool true, .bool true, .bool false], .bool true]) := U_kernelA (tab := mtab1) (ext := extX) (spec := specX) 100 20 [.int .i64 6] (.tup [.agg [.bool true, .bool true, .bool true, .bool false], .bool true]) mtab1_ok extX_ok specX_ok glob_cl (by kernel_rfl) (by kernel_rfl)
theorem of7 : U Tryz.prog 144 [.int .i64 7] (.tup [.agg [.bool true, .bool true, .bool true, .bool false], .bool true]) := U_kernelA (tab := mtab1) (ext := extX) (spec := specX) 100 20 [.int .i64 7] (.tup [.agg [.bool true, .bool true, .bool true, .bool false], .bool true]) mtab1_ok extX_ok specX_ok glob_cl (by kernel_rfl) (by kernel_rfl)
section
attribute [local irreducible] vBuild
set_option maxHeartbeats 4000000 in
theorem uOf {k : Int} : U Tryz.prog 144 [.int .i64 k] (.tup [.agg (ptc (ofF k).1), .bool (ofF k).2]) := by
  intro σ Post hk
  by_cases h : 1 ≤ k ∧ k ≤ 7
  · have h7 : k = 1 ∨ k = 2 ∨ k = 3 ∨ k = 4 ∨ k = 5 ∨ k = 6 ∨ k = 7 := by omega
    have all : U Tryz.prog 144 [.int .i64 k] (.tup [.agg (ptc (ofF k).1), .bool (ofF k).2]) := by
      rcases h7 with rfl | rfl | rfl | rfl | rfl | rfl | rfl
      · exact of1
      · exact of2
      · exact of3
      · exact of4
      · exact of5
      · exact of6
      · exact of7
    exact all _ _ hk
  · rw [ofF_no h] at hk
    have hc : k < 1 ∨ k ≥ 8 := by omega
    clear h
    refine T144 fun hB hA => ?_
    have f1 : splice [PV.bool false, .bool false, .bool false, .bool false, .bool false, .bool false, .bool false, .bool false, .bool false, .bool false, .bool false, .bool false, .bool false, .bool false, .bool false, .bool false, .bool false, .bool false, .bool false, .bool false, .bool false, .bool false, .bool false, .bool false, .bool false, .bool false, .bool false, .bool false, .bool false, .bool false, .bool false, .bool false] 4 [PV.bool true, .bool false, .bool false, .bool true] = [PV.bool false, .bool false, .bool false, .bool false, .bool true, .bool false, .bool false, .bool true, .bool false, .bool false, .bool false, .bool false, .bool false, .bool false, .bool false, .bool false, .bool false, .bool false, .bool false, .bool false, .bool false, .bool false, .bool false, .bool false, .bool false, .bool false, .bool false, .bool false, .bool false, .bool false, .bool false, .bool false] := rfl
    have f2 : splice [PV.bool false, .bool false, .bool false, .bool false, .bool true, .bool false, .bool false, .bool true, .bool false, .bool false, .bool false, .bool false, .bool false, .bool false, .bool false, .bool false, .bool false, .bool false, .bool false, .bool false, .bool false, .bool false, .bool false, .bool false, .bool false, .bool false, .bool false, .bool false, .bool false, .bool false, .bool false, .bool false] 8 [PV.bool true, .bool true, .bool false, .bool false] = [PV.bool false, .bool false, .bool false, .bool false, .bool true, .bool false, .bool false, .bool true, .bool true, .bool true, .bool false, .bool false, .bool false, .bool false, .bool false, .bool false, .bool false, .bool false, .bool false, .bool false, .bool false, .bool false, .bool false, .bool false, .bool false, .bool false, .bool false, .bool false, .bool false, .bool false, .bool false, .bool false] := rfl
    have f3 : splice [PV.bool false, .bool false, .bool false, .bool false, .bool true, .bool false, .bool false, .bool true, .bool true, .bool true, .bool false, .bool false, .bool false, .bool false, .bool false, .bool false, .bool false, .bool false, .bool false, .bool false, .bool false, .bool false, .bool false, .bool false, .bool false, .bool false, .bool false, .bool false, .bool false, .bool false, .bool false, .bool false] 12 [PV.bool true, .bool false, .bool true, .bool true] = [PV.bool false, .bool false, .bool false, .bool false, .bool true, .bool false, .bool false, .bool true, .bool true, .bool true, .bool false, .bool false, .bool true, .bool false, .bool true, .bool true, .bool false, .bool false, .bool false, .bool false, .bool false, .bool false, .bool false, .bool false, .bool false, .bool false, .bool false, .bool false, .bool false, .bool false, .bool false, .bool false] := rfl
    have f4 : splice [PV.bool false, .bool false, .bool false, .bool false, .bool true, .bool false, .bool false, .bool true, .bool true, .bool true, .bool false, .bool false, .bool true, .bool false, .bool true, .bool true, .bool false, .bool false, .bool false, .bool false, .bool false, .bool false, .bool false, .bool false, .bool false, .bool false, .bool false, .bool false, .bool false, .bool false, .bool false, .bool false] 16 [PV.bool false, .bool false, .bool false, .bool true] = [PV.bool false, .bool false, .bool false, .bool false, .bool true, .bool false, .bool false, .bool true, .bool true, .bool true, .bool false, .bool false, .bool true, .bool false, .bool true, .bool true, .bool false, .bool false, .bool false, .bool true, .bool false, .bool false, .bool false, .bool false, .bool false, .bool false, .bool false, .bool false, .bool false, .bool false, .bool false, .bool false] := rfl
    have f5 : splice [PV.bool false, .bool false, .bool false, .bool false, .bool true, .bool false, .bool false, .bool true, .bool true, .bool true, .bool false, .bool false, .bool true, .bool false, .bool true, .bool true, .bool false, .bool false, .bool false, .bool true, .bool false, .bool false, .bool false, .bool false, .bool false, .bool false, .bool false, .bool false, .bool false, .bool false, .bool false, .bool false] 20 [PV.bool true, .bool false, .bool true, .bool false] = [PV.bool false, .bool false, .bool false, .bool false, .bool true, .bool false, .bool false, .bool true, .bool true, .bool true, .bool false, .bool false, .bool true, .bool false, .bool true, .bool true, .bool false, .bool false, .bool false, .bool true, .bool true, .bool false, .bool true, .bool false, .bool false, .bool false, .bool false, .bool false, .bool false, .bool false, .bool false, .bool false] := rfl
    have f6 : splice [PV.bool false, .bool false, .bool false, .bool false, .bool true, .bool false, .bool false, .bool true, .bool true, .bool true, .bool false, .bool false, .bool true, .bool false, .bool true, .bool true, .bool false, .bool false, .bool false, .bool true, .bool true, .bool false, .bool true, .bool false, .bool false, .bool false, .bool false, .bool false, .bool false, .bool false, .bool false, .bool false] 24 [PV.bool true, .bool true, .bool true, .bool false] = [PV.bool false, .bool false, .bool false, .bool false, .bool true, .bool false, .bool false, .bool true, .bool true, .bool true, .bool false, .bool false, .bool true, .bool false, .bool true, .bool true, .bool false, .bool false, .bool false, .bool true, .bool true, .bool false, .bool true, .bool false, .bool true, .bool true, .bool true, .bool false, .bool false, .bool false, .bool false, .bool false] := rfl
    have f7 : splice [PV.bool false, .bool false, .bool false, .bool false, .bool true, .bool false, .bool false, .bool true, .bool true, .bool true, .bool false, .bool false, .bool true, .bool false, .bool true, .bool true, .bool false, .bool false, .bool false, .bool true, .bool true, .bool false, .bool true, .bool false, .bool true, .bool true, .bool true, .bool false, .bool false, .bool false, .bool false, .bool false] 28 [PV.bool true, .bool true, .bool true, .bool false] = [PV.bool false, .bool false, .bool false, .bool false, .bool true, .bool false, .bool false, .bool true, .bool true, .bool true, .bool false, .bool false, .bool true, .bool false, .bool true, .bool true, .bool false, .bool false, .bool false, .bool true, .bool true, .bool false, .bool true, .bool false, .bool true, .bool true, .bool true, .bool false, .bool true, .bool true, .bool true, .bool false] := rfl
    have f8 := box60
    have f9 : splice [PV.bool false, .bool false, .bool false, .bool false, .bool false, .bool false, .bool false, .bool false, .bool false, .bool false, .bool false, .bool false, .bool false, .bool false, .bool false, .bool false, .bool false, .bool false, .bool false, .bool false, .bool false, .bool false, .bool false, .bool false, .bool false, .bool false, .bool false, .bool false, .bool false, .bool false, .bool false, .bool false] 0 [PV.bool false, .bool false, .bool false, .bool false, .bool true, .bool false, .bool false, .bool true, .bool true, .bool true, .bool false, .bool false, .bool true, .bool false, .bool true, .bool true, .bool false, .bool false, .bool false, .bool true, .bool true, .bool false, .bool true, .bool false, .bool true, .bool true, .bool true, .bool false, .bool true, .bool true, .bool true, .bool false] = [PV.bool false, .bool false, .bool false, .bool false, .bool true, .bool false, .bool false, .bool true, .bool true, .bool true, .bool false, .bool false, .bool true, .bool false, .bool true, .bool true, .bool false, .bool false, .bool false, .bool true, .bool true, .bool false, .bool true, .bool false, .bool true, .bool true, .bool true, .bool false, .bool true, .bool true, .bool true, .bool false] := box60
    have z0 : splice [.bool false, .bool false, .bool false, .bool false] 0 [.bool false, .bool false, .bool false, .bool false] = ptc ⟨false, false, false, false⟩ := rfl
    have z1 : cut (ptc ⟨false, false, false, false⟩) 0 (some 4) = some (.agg (ptc ⟨false, false, false, false⟩)) := rfl
    have z2 : (ptc ⟨false, false, false, false⟩).length = 4 := rfl
    by_cases h1 : k < 1
    · clear hc
      refine W ?_
      exact hk
    · have h8 : k ≥ 8 := by omega
      clear hc
      refine W ?_
      exact hk
end
def bareF (m : Mr) (p : Pt) : Mr := ⟨m.k, if p.rd then m.rd else z8, if p.aa then m.aa else 0, if p.fl then m.s else ad0, if p.fl then m.g else ad0, if p.fr then m.f else ad0, if m.k = 4 then m.key else []⟩
theorem bareF_ok {m : Mr} (h : okM m) (p : Pt) : okM (bareF m p) := by
  unfold bareF
  constructor
  · show (if p.rd then m.rd else z8).length = 8
    split
    · exact h.rd
    · rfl
  · show okD (if p.fl then m.s else ad0)
    split
    · exact h.s
    · rfl
  · show okD (if p.fl then m.g else ad0)
    split
    · exact h.g
    · rfl
  · show okD (if p.fr then m.f else ad0)
    split
    · exact h.f
    · rfl
end Go.Proofs.YtjhmobdncjhcnaaGreatDoor
