/- mroute.Bytes: what it writes (its walk is not written yet). -/
import Derived.Test.YtdkjcadffhnjgaaDoorM13
namespace Go.Proofs.YtdkjcadffhnjgaaDoor
open Go Go.V
set_option maxRecDepth 10000
/-- The parts of a route in bytes, its key ahead. -/
def partsB (m : Mr) (p : Pt) : List UInt8 := m.key ++ ((if p.rd = true then m.rd else []) ++ ((if p.aa = true then be m.aa.toNat 4 else []) ++ ((if p.fl = true then longF m.s ++ longF m.g else []) ++ (if p.fr = true then abytes m.f else []))))
/-- mroute.Bytes of a route that is right. -/
def mbytes (m : Mr) : List UInt8 := UInt8.ofNat m.k.toNat :: UInt8.ofNat (partsB m (ofF m.k).1).length :: partsB m (ofF m.k).1
theorem longF_len {a : Ad} (h : okD a) : (longF a).length ≤ 17 := by
  have := abytes_len h
  unfold longF
  rw [List.length_cons]; omega
theorem partsB_len {m : Mr} (h : okM m) (p : Pt) : (partsB m p).length ≤ m.key.length + 62 := by
  have h1 := longF_len h.s
  have h2 := longF_len h.g
  have h3 := abytes_len h.f
  have h4 := h.rd
  have h5 := be_len m.aa.toNat 4
  unfold partsB
  cases p with
  | mk a b c d => cases a <;> cases b <;> cases c <;> cases d <;> simp only [List.length_append, if_true, if_false, Bool.false_eq_true, List.length_nil] <;> omega
end Go.Proofs.YtdkjcadffhnjgaaDoor
