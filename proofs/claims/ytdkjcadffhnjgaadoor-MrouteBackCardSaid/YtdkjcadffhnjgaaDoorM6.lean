/- mroute.read: its parts in the reader's memory. -/
import Derived.Test.YtdkjcadffhnjgaaDoorM5
import Derived.Test.YtdkjcadffhnjgaaDoorM3
namespace Go.Proofs.YtdkjcadffhnjgaaDoor
open Go Go.V
set_option maxRecDepth 10000
theorem spl_in {A C : List PV} {b q : List UInt8} {o : Nat} (ho : A.length = o) (hq : q.length ≤ b.length) : splice (A ++ (u8c b ++ C)) o (u8c q) = A ++ (u8c (over q b) ++ C) := by
  subst ho
  unfold splice over
  rw [List.take_left, u8c_len, ← List.drop_drop, List.drop_left, List.drop_append_of_le_length (by rw [u8c_len]; exact hq), List.append_assoc]
  congr 1
  rw [← List.append_assoc]
  congr 1
  simp [u8c]
theorem ms_over {m : Mr} (h : okM m) {q : List UInt8} (hq : q.length ≤ 8) : splice (mrc m) 1 (u8c q) = mrc { m with rd := over q m.rd } := spl_in (A := [.int .i64 m.k]) rfl (by rw [h.rd]; exact hq)
theorem set_same {σ : VHeap} {i g : Nat} {o : VObj} (h : vGet σ i g = some o) : σ.set i (g, o) = σ := by
  have h := vGet_some h
  apply List.ext_getElem?
  intro j
  by_cases hj : i = j
  · subst hj; rw [List.getElem?_set_self (List.getElem?_eq_some_iff.1 h).1, h]
  · rw [List.getElem?_set_ne hj]
section
variable {σ L : VHeap} {Post : KP} {i gi n z : Nat} {l p q p2 q2 : List UInt8} {bad ok c c2 : Bool} {a1 a2 a3 a5 : Nat × VObj}
def rdO (gi : Nat) (l : List UInt8) (bad : Bool) : Nat × VObj := (gi, .box [.sl (bsl l), .bool bad] false)
theorem rdO_get (hi : i < σ.length) : vGet (σ.set i (rdO gi l bad) ++ L) i gi = some (.box [.sl (bsl l), .bool bad] false) := oget (hget_eq hi)
theorem rdO_set (hi : i < σ.length) {y : Nat × VObj} : (σ.set i (rdO gi l bad) ++ L).set i y = σ.set i y ++ L := by
  rw [oset _ (by rw [List.length_set]; exact hi), List.set_set]
theorem oTake (e : rdT l bad z = (p, q, c)) (hl : l.length ≤ 140737488355328) (hi : i < σ.length) (hk : Post (.sl (bsl p)) (σ.set i (rdO gi q c) ++ L)) : T Tryd.prog 48 [.ptr i gi 0, .int .i64 z] (σ.set i (rdO gi l bad) ++ L) Post := by
  refine tTake hl (rdO_get hi) fun l1 l2 b hb => ?_
  simp only [bcond] at hb
  obtain ⟨rfl, rfl, rfl⟩ := rdT_cond e hb
  rw [rdO_set hi]; exact hk
theorem oNum (e : rdT l bad z = (p, q, c)) (h1 : 1 ≤ z) (h4 : z ≤ 4) (hi : i < σ.length) (hk : Post (.int .i64 (big p 0)) (σ.set i (rdO gi q c) ++ L)) : T Tryd.prog 44 [.ptr i gi 0, .int .i64 z] (σ.set i (rdO gi l bad) ++ L) Post := by
  refine tNum (rdO_get hi) fun l1 l2 b hb => ?_
  simp only [bcond4 h1 h4] at hb
  obtain ⟨rfl, rfl, rfl⟩ := rdT_cond e hb
  rw [rdO_set hi]; exact hk
theorem oLeft (hi : i < σ.length) (hk : Post (.int .i64 (if bad then 0 else l.length : Nat)) (σ.set i (rdO gi l bad) ++ L)) : T Tryd.prog 49 [.ptr i gi 0] (σ.set i (rdO gi l bad) ++ L) Post := by
  refine tLeft (rdO_get hi) ?_
  rw [bsl_len]
  cases bad <;> exact hk
theorem oBad (hi : i < σ.length) (hk : Post (.bool bad) (σ.set i (rdO gi l bad) ++ L)) : T Tryd.prog 46 [.ptr i gi 0] (σ.set i (rdO gi l bad) ++ L) Post := tBad (rdO_get hi) hk
/-- The memory of read: its reader, its answer, the route, the parts, whether all is well, take. -/
def rdL (i gi : Nat) (m : List PV) (p : Pt) (ok : Bool) (tk : PV) : VHeap := [(1, .box [.ptr i gi 0] false), (1, .box mz false), (1, .box m false), (1, .box (ptc p) false), (1, .box [.bool ok] false), (1, .box [tk] false)]
variable {m : List PV} {pt : Pt} {tk : PV}
theorem oTk (e : rdT l bad n = (p, q, c)) (hl : l.length ≤ 140737488355328) (hi : i < σ.length)
    (hk : Post (.agg (adc (ofA p).1)) (σ.set i (rdO gi q c) ++ rdL i gi m pt (ok && decide ((ofA p).2 = 0)) tk)) : T Tryd.prog 94 [.int .i64 (n : Int), .ptr (σ.length + 0) 1 0, .ptr (σ.length + 4) 1 0] (σ.set i (rdO gi l bad) ++ rdL i gi m pt ok tk) Post := by
  have hn : (σ.set i (rdO gi l bad)).length = σ.length := List.length_set
  have hn2 : (σ.set i (rdO gi q c)).length = σ.length := List.length_set
  refine tTk e hl (lget hn rfl) (rdO_get hi) (lget hn rfl) (by omega) ?_
  have e1 : (σ.set i (rdO gi l bad) ++ rdL i gi m pt ok tk).set i (gi, .box [.sl (bsl q), .bool c] false) = σ.set i (rdO gi q c) ++ rdL i gi m pt ok tk := rdO_set hi
  rw [e1, lset hn2]
  exact hk
theorem oBits (e : rdT l bad 1 = (p, q, c)) (e2 : rdT q c (big p 0 / 8) = (p2, q2, c2)) (hl : l.length ≤ 140737488355328) (hi : i < σ.length)
    (hk : Post (.agg (adc (ofA p2).1)) (σ.set i (rdO gi q2 c2) ++ rdL i gi m pt (ok && decide (big p 0 % 8 = 0) && decide ((ofA p2).2 = 0)) (.fn 94 [.ptr (σ.length + 0) 1 0, .ptr (σ.length + 4) 1 0]))) :
    T Tryd.prog 95 [.ptr (σ.length + 0) 1 0, .ptr (σ.length + 4) 1 0, .ptr (σ.length + 5) 1 0] (σ.set i (rdO gi l bad) ++ rdL i gi m pt ok (.fn 94 [.ptr (σ.length + 0) 1 0, .ptr (σ.length + 4) 1 0])) Post := by
  have hn : (σ.set i (rdO gi l bad)).length = σ.length := List.length_set
  have hn2 : (σ.set i (rdO gi q2 c2)).length = σ.length := List.length_set
  refine tBits e e2 hl (lget hn rfl) (rdO_get hi) (lget hn rfl) (lget hn rfl) (by omega) (by omega) (by omega) (by omega) (by omega) ?_
  have e1 : (σ.set i (rdO gi l bad) ++ rdL i gi m pt ok (.fn 94 [.ptr (σ.length + 0) 1 0, .ptr (σ.length + 4) 1 0])).set i (gi, .box [.sl (bsl q2), .bool c2] false) = σ.set i (rdO gi q2 c2) ++ rdL i gi m pt ok (.fn 94 [.ptr (σ.length + 0) 1 0, .ptr (σ.length + 4) 1 0]) := rdO_set hi
  rw [e1, lset hn2]
  exact hk
end
/-! What read makes of the bytes. -/
structure RS where
  m : Mr
  l : List UInt8
  bad : Bool
  ok : Bool
def rs1 (p : Pt) (S : RS) : RS := if p.rd = true then ⟨{ S.m with rd := over (rdT S.l S.bad 8).1 S.m.rd }, (rdT S.l S.bad 8).2.1, (rdT S.l S.bad 8).2.2, S.ok⟩ else S
def rs2 (p : Pt) (S : RS) : RS := if p.aa = true then ⟨{ S.m with aa := (big (rdT S.l S.bad 4).1 0 : Nat) }, (rdT S.l S.bad 4).2.1, (rdT S.l S.bad 4).2.2, S.ok⟩ else S
/-- The bytes of an address behind its length, what is left, whether the length is whole. -/
def btT (l : List UInt8) (bad : Bool) : (List UInt8 × List UInt8 × Bool) × Bool := (rdT (rdT l bad 1).2.1 (rdT l bad 1).2.2 (big (rdT l bad 1).1 0 / 8), decide (big (rdT l bad 1).1 0 % 8 = 0))
def rsS (S : RS) : RS := ⟨{ S.m with s := (ofA (btT S.l S.bad).1.1).1 }, (btT S.l S.bad).1.2.1, (btT S.l S.bad).1.2.2, S.ok && (btT S.l S.bad).2 && decide ((ofA (btT S.l S.bad).1.1).2 = 0)⟩
def rsG (S : RS) : RS := ⟨{ S.m with g := (ofA (btT S.l S.bad).1.1).1 }, (btT S.l S.bad).1.2.1, (btT S.l S.bad).1.2.2, S.ok && (btT S.l S.bad).2 && decide ((ofA (btT S.l S.bad).1.1).2 = 0)⟩
def rs3 (p : Pt) (S : RS) : RS := if p.fl = true then rsG (rsS S) else S
def rsF (S : RS) : RS := ⟨{ S.m with f := (ofA (rdT S.l S.bad (if S.bad then 0 else S.l.length)).1).1 }, (rdT S.l S.bad (if S.bad then 0 else S.l.length)).2.1, (rdT S.l S.bad (if S.bad then 0 else S.l.length)).2.2, S.ok && decide ((ofA (rdT S.l S.bad (if S.bad then 0 else S.l.length)).1).2 = 0)⟩
def rs4 (p : Pt) (S : RS) : RS := if p.fr = true then rsF S else S
def rs0 (k : Int) (l : List UInt8) (bad : Bool) (key : List UInt8) : RS := ⟨{ mr0 with k := k, key := key }, l, bad, (ofF k).2⟩
def readM (k : Int) (l : List UInt8) (bad : Bool) (key : List UInt8) : RS := rs4 (ofF k).1 (rs3 (ofF k).1 (rs2 (ofF k).1 (rs1 (ofF k).1 (rs0 k l bad key))))
theorem btT_len (l : List UInt8) (bad : Bool) : (btT l bad).1.2.1.length ≤ l.length := by
  have h1 := rdT_len l bad 1
  have h2 := rdT_len (rdT l bad 1).2.1 (rdT l bad 1).2.2 (big (rdT l bad 1).1 0 / 8)
  unfold btT
  dsimp only
  omega
/-- A state that read may be in. -/
structure okS (n : Nat) (S : RS) : Prop where
  m : okM S.m
  l : S.l.length ≤ n
section
variable {n : Nat} {S : RS} {p : Pt}
theorem rs0_ok {k : Int} {l : List UInt8} {bad : Bool} {key : List UInt8} (h : l.length ≤ n) : okS n (rs0 k l bad key) := ⟨⟨rfl, rfl, rfl, rfl⟩, h⟩
theorem rs1_ok (h : okS n S) : okS n (rs1 p S) := by
  have h1 := rdT_len S.l S.bad 8
  have h2 := h.l
  unfold rs1; split
  · exact ⟨⟨by show (over _ _).length = 8; rw [over_len (by rw [h.m.rd]; omega), h.m.rd], h.m.s, h.m.g, h.m.f⟩, by dsimp only; omega⟩
  · exact h
theorem rs2_ok (h : okS n S) : okS n (rs2 p S) := by
  have h1 := rdT_len S.l S.bad 4
  have h2 := h.l
  unfold rs2; split
  · exact ⟨⟨h.m.rd, h.m.s, h.m.g, h.m.f⟩, by dsimp only; omega⟩
  · exact h
theorem rsS_ok (h : okS n S) : okS n (rsS S) := by
  have h1 := btT_len S.l S.bad
  have h2 := h.l
  exact ⟨⟨h.m.rd, ofA_ok _, h.m.g, h.m.f⟩, by unfold rsS; dsimp only; omega⟩
theorem rsG_ok (h : okS n S) : okS n (rsG S) := by
  have h1 := btT_len S.l S.bad
  have h2 := h.l
  exact ⟨⟨h.m.rd, h.m.s, ofA_ok _, h.m.f⟩, by unfold rsG; dsimp only; omega⟩
theorem rs3_ok (h : okS n S) : okS n (rs3 p S) := by
  unfold rs3; split
  · exact rsG_ok (rsS_ok h)
  · exact h
theorem rsF_ok (h : okS n S) : okS n (rsF S) := by
  have h1 := rdT_len S.l S.bad (if S.bad then 0 else S.l.length)
  have h2 := h.l
  exact ⟨⟨h.m.rd, h.m.s, h.m.g, ofA_ok _⟩, by unfold rsF; dsimp only; omega⟩
theorem rs4_ok (h : okS n S) : okS n (rs4 p S) := by
  unfold rs4; split
  · exact rsF_ok h
  · exact h
end
end Go.Proofs.YtdkjcadffhnjgaaDoor
