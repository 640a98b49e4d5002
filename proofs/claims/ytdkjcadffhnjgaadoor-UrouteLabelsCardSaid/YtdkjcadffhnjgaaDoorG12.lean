/- uroute.Same, cmp.Compare, cmp.Or. -/
import Derived.Test.YtdkjcadffhnjgaaDoorG11
namespace Go.Proofs.YtdkjcadffhnjgaaDoor
open Go Go.V
set_option maxRecDepth 10000
/-- A name's cells. -/
def nmc (rd : List UInt8) (s : Int) (b : List UInt8) (k : Int) : List PV := u8c rd ++ pfx s b k
theorem eqC_nm {rd rd' b b' : List UInt8} {s s' k k' : Int} (hr : rd.length = 8) (hr' : rd'.length = 8) (hb : b.length = 16) (hb' : b'.length = 16) : eqCells [.i .u8, .i .u8, .i .u8, .i .u8, .i .u8, .i .u8, .i .u8, .i .u8, .i .i64, .i .u8, .i .u8, .i .u8, .i .u8, .i .u8, .i .u8, .i .u8, .i .u8, .i .u8, .i .u8, .i .u8, .i .u8, .i .u8, .i .u8, .i .u8, .i .u8, .i .i64] (nmc rd s b k) (nmc rd' s' b' k') = some ((rd == rd') && (s == s' && (b == b') && (k == k'))) := by
  have h := eqC_app (eqC_u8 rd rd' (by omega)) (eqC_pfx (s := s) (t := s') (k := k) (m := k') hb hb')
  rw [hr] at h
  exact h
def sameU (rd : List UInt8) (s : Int) (b : List UInt8) (k : Int) (rd' : List UInt8) (s' : Int) (b' : List UInt8) (k' : Int) : Bool := (rd == rd') && (s == s' && (b == b') && (k == k'))
def nz : List PV := [byt 0, byt 0, byt 0, byt 0, byt 0, byt 0, byt 0, byt 0, .int .i64 0, byt 0, byt 0, byt 0, byt 0, byt 0, byt 0, byt 0, byt 0, byt 0, byt 0, byt 0, byt 0, byt 0, byt 0, byt 0, byt 0, .int .i64 0]
theorem nm_fill {rd b : List UInt8} {s k : Int} (hr : rd.length = 8) (hb : b.length = 16) : splice nz 0 (u8c rd) = u8c rd ++ pz ∧ splice (u8c rd ++ pz) 8 (pfx s b k) = nmc rd s b k := by
  have hl := pfx_len (s := s) (k := k) (b := b)
  have h8 : (u8c rd).length = 8 := by rw [u8c_len, hr]
  constructor
  · unfold splice; rw [h8]; rfl
  · unfold splice
    rw [List.take_left' h8, List.drop_of_length_le (by rw [List.length_append, h8, hl, hb]; show 8 + 18 ≤ _; omega), List.append_nil]; rfl
theorem uSame {rd rd' b b' : List UInt8} {s s' k k' a a' : Int} (hr : rd.length = 8) (hr' : rd'.length = 8) (hb : b.length = 16) (hb' : b'.length = 16) : U Tryd.prog 27 [.agg (urc rd s b k a), .agg (urc rd' s' b' k' a')] (.bool (sameU rd s b k rd' s' b' k')) := by
  intro σ Post hk
  have hs := urc_sc rd s k a b
  have hs' := urc_sc rd' s' k' a' b'
  have c1 := urc_rd (s := s) (k := k) (a := a) hr hb
  have c1' := urc_rd (s := s') (k := k') (a := a') hr' hb'
  have c2 := urc_pfx (s := s) (k := k) (a := a) hr hb
  have c2' := urc_pfx (s := s') (k := k') (a := a') hr' hb'
  have h1 := u8c_sc rd
  have h1' := u8c_sc rd'
  have h2 := pfx_sc s k b
  have h2' := pfx_sc s' k' b'
  have h3 : (u8c rd).length = 8 := by rw [u8c_len, hr]
  have h3' : (u8c rd').length = 8 := by rw [u8c_len, hr']
  have h4 : (pfx s b k).length = 18 := by rw [pfx_len, hb]
  have h4' : (pfx s' b' k').length = 18 := by rw [pfx_len, hb']
  have h5 : (u8c rd ++ pz).length = 26 := by rw [List.length_append, h3]; rfl
  have h5' : (u8c rd' ++ pz).length = 26 := by rw [List.length_append, h3']; rfl
  obtain ⟨f1, f2⟩ := nm_fill (s := s) (k := k) hr hb
  obtain ⟨f1', f2'⟩ := nm_fill (s := s') (k := k') hr' hb'
  have he := eqC_nm (s := s) (s' := s') (k := k) (k' := k') hr hr' hb hb'
  refine T27 fun hB hA => ?_
  refine W ?_
  exact hk
/-- cmp.Compare of ints. -/
def cmpI (a b : Int) : Int := if a < b then -1 else if b < a then 1 else 0
theorem uNan {a : Int} : U Tryd.prog 83 [.int .i64 a] (.bool false) := by
  intro σ Post hk
  refine T83 fun hB hA => ?_
  refine W ?_
  exact hk
theorem uCmp {a b : Int} : U Tryd.prog 59 [.int .i64 a, .int .i64 b] (.int .i64 (cmpI a b)) := by
  intro σ Post hk
  unfold cmpI at hk
  refine T59 fun hB hA => ?_
  refine W ?_
  refine cu uNan ?_
  refine W ?_
  refine cu uNan ?_
  by_cases h : a < b
  · rw [if_pos h] at hk
    refine W ?_
    exact hk
  · rw [if_neg h] at hk
    by_cases h2 : b < a
    · rw [if_pos h2] at hk
      refine W ?_
      exact hk
    · rw [if_neg h2] at hk
      refine W ?_
      exact hk
end Go.Proofs.YtdkjcadffhnjgaaDoor
