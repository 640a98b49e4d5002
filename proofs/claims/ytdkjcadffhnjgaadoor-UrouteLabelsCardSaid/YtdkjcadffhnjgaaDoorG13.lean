/- Orders: cursor.Order, rd.Compare, addr.Compare, uroute.Compare. -/
import Derived.Test.YtdkjcadffhnjgaaDoorVX
import Derived.Test.YtdkjcadffhnjgaaDoorG12
namespace Go.Proofs.YtdkjcadffhnjgaaDoor
open Go Go.V
set_option maxRecDepth 10000
theorem cx {P : Program} {n : Nat} {K : Env → VHeap → Prop} {r : List VO} {d : Option Nat} {env : Env} {h : VHeap} {f : FuncId} {args : List VA} {vs : List PV} {v : PV} (hx : ∀ Post : KP, Post v h → X P f vs h Post) (hm : args.map (va env) = vs) (hp : PlL vs) (k : vrunOps P n K r (eput env d v) h) : vrunOps P n K (⟨d, .ext f args, none⟩ :: r) env h := by
  simp only [vrunOps, vop]
  rw [hm]
  have e1 : inlArgs h vs = vs := by
    unfold inlArgs
    rw [← inlL_eq]; exact hp.pl.1 h
  have e2 : frzArgs h vs = h := by
    unfold frzArgs
    rw [hp.pl.2]; rfl
  rw [e1, e2]
  exact hx _ k
theorem uBytesCmp {a b : List UInt8} : U Tryd.prog 86 [.sl (bsl a), .sl (bsl b)] (.int .i64 (Lib.compareBytes a b)) := by
  intro σ Post hk
  refine T86 fun hB hA => ?_
  refine W ?_
  refine cx (fun Post k => X_cmp Tryd.func98 (by kernel_rfl) (by kernel_rfl) (by kernel_rfl) (by kernel_rfl) (a := a) (b := b) k) (by exact z_ma) (by infer_instance) ?_
  refine W ?_
  exact hk
theorem uOrder {a b : List UInt8} : U Tryd.prog 68 [.sl (bsl a), .sl (bsl b)] (.int .i64 (Lib.compareBytes a b)) := by
  intro σ Post hk
  refine T68 fun hB hA => ?_
  refine W ?_
  refine cu uBytesCmp ?_
  refine W ?_
  exact hk
def orI : List Int → Int
  | [] => 0
  | x :: r => if x = 0 then orI r else x
def islI (l : List Int) : List (List PV) := l.map fun x => [.int .i64 x]
theorem uOr {l : List Int} (hl : l.length ≤ 1000) : U Tryd.prog 56 [.sl (islI l)] (.int .i64 (orI l)) := by
  intro σ Post hk
  refine T56 fun hB hA => ?_
  have hm : SLen (islI l) l.length := ⟨by simp [islI]⟩
  refine W ?_
  refine lp (fun j e h => ∃ i : Nat, i + j = l.length ∧ e 8 = .int .i64 i ∧ orI (l.drop i) = orI l ∧ h = σ ++ []) l.length ⟨0, by simp, rfl, rfl, rfl⟩ ?_
  rintro j u _ ⟨i, hi, e8, ho, rfl⟩
  by_cases h5 : i < l.length
  · have hx : (islI l)[(i : Int).toNat]? = some [.int .i64 l[i]] := by rw [Int.toNat_natCast, islI, List.getElem?_map, List.getElem?_eq_getElem h5]; rfl
    rw [List.drop_eq_getElem_cons h5, orI] at ho
    by_cases h0 : l[i] = 0
    · rw [if_pos h0] at ho
      refine W ?_
      exact ⟨j - 1, by omega, i + 1, by omega, rfl, ho, rfl⟩
    · rw [if_neg h0] at ho
      rw [← ho] at hk
      refine W ?_
      exact hk
  · rw [List.drop_of_length_le (by omega)] at ho
    rw [← ho] at hk
    refine W ?_
    exact hk
instance (rd : List UInt8) (l : Nat) : VCut (u8c rd) 0 l (bsl (rd.take l)) := ⟨by simp [u8c, bsl, List.map_take, Function.comp_def]⟩
def rdCmp (a b : List UInt8) : Int := if a = b then 0 else Lib.compareBytes a b
theorem uRdCmp {a b : List UInt8} (ha : a.length = 8) (hb : b.length = 8) : U Tryd.prog 57 [.agg (u8c a), .agg (u8c b)] (.int .i64 (rdCmp a b)) := by
  intro σ Post hk
  have h1 := u8c_sc a
  have h2 := u8c_sc b
  have h3 : (u8c a).length = 8 := by rw [u8c_len, ha]
  have h4 : (u8c b).length = 8 := by rw [u8c_len, hb]
  have c1 : cut (u8c a) 0 (some 8) = some (.agg (u8c a)) := by
    simp only [cut]; rw [if_pos (by omega), List.drop_zero, List.take_of_length_le (by omega)]
  have c2 : cut (u8c b) 0 (some 8) = some (.agg (u8c b)) := by
    simp only [cut]; rw [if_pos (by omega), List.drop_zero, List.take_of_length_le (by omega)]
  have he := eqC_u8 a b (by omega)
  rw [ha] at he
  have ta : a.take 8 = a := List.take_of_length_le (by omega)
  have tb : b.take 8 = b := List.take_of_length_le (by omega)
  unfold rdCmp at hk
  refine T57 fun hB hA => ?_
  by_cases h : a = b
  · rw [if_pos h] at hk
    rw [show (a == b) = true by simp [h]] at he
    have he' : eqCells [.i .u8, .i .u8, .i .u8, .i .u8, .i .u8, .i .u8, .i .u8, .i .u8] (u8c a) (u8c b) = some true := he
    refine W ?_
    exact hk
  · rw [if_neg h] at hk
    rw [show (a == b) = false by simp [h]] at he
    have he' : eqCells [.i .u8, .i .u8, .i .u8, .i .u8, .i .u8, .i .u8, .i .u8, .i .u8] (u8c a) (u8c b) = some false := he
    refine Wo ?_
    refine drJ (fun _ => True) [(1, 0), (1, 1), (0, 2), (2, 3)] (by kernel_rfl) (by kernel_rfl) (by exact z_ol) trivial ?_
    refine W ?_
    refine sv_0 ?_
    refine cu (uOrder (a := a.take 8) (b := b.take 8)) ?_
    rw [ta, tb]
    refine st_end ⟨trivial, ?_⟩
    refine W ?_
    exact hk
end Go.Proofs.YtdkjcadffhnjgaaDoor
