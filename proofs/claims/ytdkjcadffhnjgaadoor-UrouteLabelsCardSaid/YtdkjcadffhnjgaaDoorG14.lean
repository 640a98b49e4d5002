/- addr.Compare, uroute.Compare. -/
import Derived.Test.YtdkjcadffhnjgaaDoorG13
namespace Go.Proofs.YtdkjcadffhnjgaaDoor
open Go Go.V
set_option maxRecDepth 10000
instance (s : Int) (b : List UInt8) (l : Nat) : VCut (adr s b) 1 l (bsl (b.take l)) := ⟨by rw [adr, List.drop_succ_cons, List.drop_zero]; simp [u8c, bsl, List.map_take, Function.comp_def]⟩
def adrCmp (s : Int) (a : List UInt8) (t : Int) (b : List UInt8) : Int := orI [cmpI s t, Lib.compareBytes a b]
theorem uAdrCmp {s t : Int} {a b : List UInt8} (ha : a.length = 16) (hb : b.length = 16) : U Tryd.prog 58 [.agg (adr s a), .agg (adr t b)] (.int .i64 (adrCmp s a t b)) := by
  intro σ Post hk
  have h1 := adr_sc s a
  have h2 := adr_sc t b
  have h3 : (adr s a).length = 17 := by rw [adr_len, ha]
  have h4 : (adr t b).length = 17 := by rw [adr_len, hb]
  have c1 : cut (adr s a) 0 none = some (.int .i64 s) := rfl
  have c2 : cut (adr t b) 0 none = some (.int .i64 t) := rfl
  have ta : a.take 16 = a := List.take_of_length_le (by omega)
  have tb : b.take 16 = b := List.take_of_length_le (by omega)
  unfold adrCmp at hk
  refine T58 fun hB hA => ?_
  refine Wo ?_
  refine drJ (fun _ => True) [(1, 0), (1, 1), (1, 2), (1, 3), (1, 4), (1, 5), (1, 6), (1, 7), (1, 8), (0, 9), (0, 10), (0, 11), (2, 12)] (by kernel_rfl) (by kernel_rfl) (by exact z_ol) trivial ?_
  refine W ?_
  refine s1 (uCmp (a := s) (b := t)) ?_
  refine W ?_
  refine sv_0 ?_
  refine cu (uOrder (a := a.take 16) (b := b.take 16)) ?_
  rw [ta, tb]
  refine st_end ⟨trivial, ?_⟩
  refine W ?_
  refine sv_0 ?_
  refine cu (uOr (l := [cmpI s t, Lib.compareBytes a b]) (by simp)) ?_
  refine st_end ⟨trivial, ?_⟩
  refine W ?_
  exact hk
def ucmp (rd : List UInt8) (s : Int) (b : List UInt8) (k : Int) (rd' : List UInt8) (s' : Int) (b' : List UInt8) (k' : Int) : Int := orI [rdCmp rd rd', adrCmp s b s' b', cmpI k k']
theorem uCmpU {rd rd' b b' : List UInt8} {s s' k k' a a' : Int} (hr : rd.length = 8) (hr' : rd'.length = 8) (hb : b.length = 16) (hb' : b'.length = 16) : U Tryd.prog 26 [.agg (urc rd s b k a), .agg (urc rd' s' b' k' a')] (.int .i64 (ucmp rd s b k rd' s' b' k')) := by
  intro σ Post hk
  have hs := urc_sc rd s k a b
  have hs' := urc_sc rd' s' k' a' b'
  have c1 := urc_rd (s := s) (k := k) (a := a) hr hb
  have c1' := urc_rd (s := s') (k := k') (a := a') hr' hb'
  have c2 := urc_adr (s := s) (k := k) (a := a) hr hb
  have c2' := urc_adr (s := s') (k := k') (a := a') hr' hb'
  have c3 := urc_k (s := s) (k := k) (a := a) hr hb
  have c3' := urc_k (s := s') (k := k') (a := a') hr' hb'
  unfold ucmp at hk
  refine T26 fun hB hA => ?_
  refine Wo ?_
  refine drJ (fun _ => True) [(1, 0), (1, 1), (1, 2), (1, 3), (1, 4), (1, 5), (1, 6), (1, 7), (1, 8), (1, 9), (1, 10), (1, 11), (1, 12), (1, 13), (1, 14), (1, 15), (1, 16), (1, 17), (1, 18), (0, 19), (0, 20), (2, 21)] (by kernel_rfl) (by kernel_rfl) (by exact z_ol) trivial ?_
  refine W ?_
  refine s1 (uRdCmp hr hr') ?_
  refine W ?_
  refine s1 (uAdrCmp hb hb') ?_
  refine W ?_
  refine s1 (uCmp (a := k) (b := k')) ?_
  refine W ?_
  refine sv_0 ?_
  refine cu (uOr (l := [rdCmp rd rd', adrCmp s b s' b', cmpI k k']) (by simp)) ?_
  refine st_end ⟨trivial, ?_⟩
  refine W ?_
  exact hk
end Go.Proofs.YtdkjcadffhnjgaaDoor
