/- mroute.Parse. -/
import Derived.Test.YtdkjcadffhnjgaaDoorM9
namespace Go.Proofs.YtdkjcadffhnjgaaDoor
open Go Go.V
set_option maxRecDepth 10000
attribute [local irreducible] vBuild vCallV
/-- What Parse makes of what Take answers. -/
def prs (t : MT) (n : Nat) : Mr × Int := if t.e ≠ 0 then (mr0, t.e) else if t.n ≠ n then (mr0, 4) else (t.m, 0)
set_option maxHeartbeats 4000000 in
theorem uParseG {l : List UInt8} {s : Int} {t : MT} (ht : okM t.m) (hT : U Tryd.prog 36 [.sl (bsl l), .int .i64 s] (.tup [.agg (mrc t.m), .int .i64 (t.n : Int), .int .i64 t.e])) :
    U Tryd.prog 35 [.sl (bsl l), .int .i64 s] (.tup [.agg (mrc (prs t l.length).1), .int .i64 (prs t l.length).2]) := by
  intro σ Post hk
  have w1 := mz_zz
  have w2 := mz_zy
  have w3 := mz_all
  have w4 := mz_len
  have w5 := mz_sc
  have w6 := mz_st ht
  have w7 : splice mz 0 (mrc t.m) = mrc t.m := ms_all ht
  have w8 := mrc_len ht
  have w9 := mrc_sc (m := t.m)
  have wA := mrc_all ht
  have bl := bsl_len l
  unfold prs at hk
  refine T35 fun hB hA => ?_
  refine W ?_
  refine cu hT ?_
  by_cases he : t.e = 0
  · rw [if_neg (by simpa using he)] at hk
    by_cases hn : t.n = l.length
    · rw [if_neg (by simpa using hn)] at hk
      refine W ?_
      exact hk
    · rw [if_pos hn] at hk
      refine W ?_
      exact hk
  · rw [if_pos he] at hk
    refine W ?_
    exact hk
end Go.Proofs.YtdkjcadffhnjgaaDoor
