/- The law UrouteSorts as a triple. -/
import Derived.Test.YtdkjcadffhnjgaaDoorG14
import Derived.Test.YtdkjcadffhnjgaaDoorPO
import Derived.Test.YtdkjcadffhnjgaaDoorVQ
namespace Go.Proofs.YtdkjcadffhnjgaaDoor
open Go Go.V
set_option maxRecDepth 10000
theorem cmpI_ordr : Ordr cmpI := by
  constructor
  · intro a b; unfold cmpI; split <;> (try split) <;> omega
  · intro a b; unfold cmpI; split <;> (try split) <;> omega
  · intro a b; unfold cmpI; split <;> split <;> (try split) <;> (try split) <;> omega
  · intro a b c; unfold cmpI Ord3
    refine ⟨?_, ?_, ?_, ?_⟩ <;> (split <;> (try split) <;> (try split) <;> (try split) <;> (try split) <;> (try split) <;> omega)
theorem rdCmp_eq : rdCmp = Lib.compareBytes := by
  funext a b
  unfold rdCmp
  split
  · rename_i h; exact ((cb_zero a b).2 h).symm
  · rfl
structure Nm where
  rd : List UInt8
  s : Int
  b : List UInt8
  k : Int
def nmCmp (x y : Nm) : Int := ucmp x.rd x.s x.b x.k y.rd y.s y.b y.k
theorem or2 (x y : Int) : orI [x, y] = if x = 0 then y else x := by
  simp only [orI]; by_cases h : y = 0 <;> simp [h]
theorem or3 (x y z : Int) : orI [x, y, z] = if x = 0 then (if y = 0 then z else y) else x := by
  simp only [orI]; by_cases h : z = 0 <;> simp [h]
theorem adr_ordr : Ordr fun (x y : Nm) => adrCmp x.s x.b y.s y.b := by
  have := Ordr.lex (γ := Nm) (fun x => x.s) (fun x => x.b) cmpI_ordr cb_ordr
  unfold adrCmp
  simp only [or2]; exact this
theorem nm_ordr : Ordr nmCmp := by
  have h1 := Ordr.lex (γ := Nm) (fun x => x) (fun x => x.k) adr_ordr cmpI_ordr
  have h2 := Ordr.lex (γ := Nm) (fun x => x.rd) (fun x => x) cb_ordr h1
  unfold nmCmp ucmp
  simp only [or3, rdCmp_eq]; exact h2
theorem nm_zero (x y : Nm) : nmCmp x y = 0 ↔ sameU x.rd x.s x.b x.k y.rd y.s y.b y.k = true := by
  unfold nmCmp ucmp adrCmp sameU
  rw [or3, or2, rdCmp_eq]
  simp only [Bool.and_eq_true, beq_iff_eq]
  have h1 := cb_zero x.rd y.rd
  have h2 := cb_zero x.b y.b
  have h3 : ∀ a b, cmpI a b = 0 ↔ a = b := fun a b => by unfold cmpI; split <;> (try split) <;> omega
  have h4 := h3 x.s y.s
  have h5 := h3 x.k y.k
  by_cases a1 : x.rd = y.rd
  · by_cases a2 : x.s = y.s
    · by_cases a3 : x.b = y.b
      · rw [if_pos (h1.2 a1), if_pos (by rw [if_pos (h4.2 a2)]; exact h2.2 a3), h5]; simp [a1, a2, a3]
      · have e : ¬ Lib.compareBytes x.b y.b = 0 := fun e => a3 (h2.1 e)
        rw [if_pos (h1.2 a1), if_pos (h4.2 a2), if_neg e]; simp [e, a3]
    · have e : ¬ cmpI x.s y.s = 0 := fun e => a2 (h4.1 e)
      rw [if_pos (h1.2 a1), if_neg e, if_neg e]; simp [e, a2]
  · have e : ¬ Lib.compareBytes x.rd y.rd = 0 := fun e => a1 (h1.1 e)
    rw [if_neg e]; simp [e, a1]
section
variable {x y z : Nm} {a b c : Int}
def nmU (x : Nm) (a : Int) : List PV := urc x.rd x.s x.b x.k a
def okN (x : Nm) : Prop := x.rd.length = 8 ∧ x.b.length = 16
instance (x : Nm) (a : Int) : PlL (nmU x a) := by unfold nmU; infer_instance
instance (x : Nm) (a : Int) : ClL (nmU x a) := by unfold nmU; infer_instance
theorem nmU_sc : (nmU x a).all scalar = true := urc_sc _ _ _ _ _
theorem nmU_all (h : okN x) : cut (nmU x a) 0 (some 27) = some (.agg (nmU x a)) := urc_all h.1 h.2
theorem nmU_len (h : okN x) : (nmU x a).length = 27 := urc_len h.1 h.2
theorem uNmCmp (hx : okN x) (hy : okN y) : U Tryd.prog 26 [.agg (nmU x a), .agg (nmU y b)] (.int .i64 (nmCmp x y)) := uCmpU hx.1 hy.1 hx.2 hy.2
theorem uNmSame (hx : okN x) (hy : okN y) : U Tryd.prog 27 [.agg (nmU x a), .agg (nmU y b)] (.bool (decide (nmCmp x y = 0))) := by
  have h := uSame (s := x.s) (s' := y.s) (k := x.k) (k' := y.k) (a := a) (a' := b) hx.1 hy.1 hx.2 hy.2
  have e : sameU x.rd x.s x.b x.k y.rd y.s y.b y.k = decide (nmCmp x y = 0) := by
    rw [Bool.eq_iff_iff, decide_eq_true_iff]; exact (nm_zero x y).symm
  rw [e] at h; exact h
set_option maxHeartbeats 2000000 in
theorem tSorts (hx : okN x) (hy : okN y) (hz : okN z) : U Tryd.prog 6 [.agg (nmU x a), .agg (nmU y b), .agg (nmU z c)] (.bool true) := by
  intro σ Post hk
  have hs1 := nmU_sc (x := x) (a := a)
  have hs2 := nmU_sc (x := y) (a := b)
  have hs3 := nmU_sc (x := z) (a := c)
  have c1 := nmU_all (a := a) hx
  have c2 := nmU_all (a := b) hy
  have c3 := nmU_all (a := c) hz
  have n1 := nm_ordr.lo x y
  have n2 := nm_ordr.hi x y
  have n3 := nm_ordr.neg x y
  have n4 := nm_ordr.tr x y z
  have n5 := nm_ordr.lo y z
  have n6 := nm_ordr.hi y z
  have n7 := nm_ordr.lo x z
  have n8 := nm_ordr.hi x z
  obtain ⟨o1, o2, o3, o4⟩ := n4
  have u1 := uNmCmp (a := a) (b := b) hx hy
  have u2 := uNmCmp (a := b) (b := c) hy hz
  have u3 := uNmCmp (a := a) (b := c) hx hz
  have u4 := uNmCmp (a := b) (b := a) hy hx
  have u5 := uNmSame (a := a) (b := b) hx hy
  rw [n3] at u4
  generalize nmCmp x y = p at *
  generalize nmCmp y z = q at *
  generalize nmCmp x z = r at *
  have w1 : IntKind.i64.wrap (0 - p) = -p := by rw [w_i64 (by omega) (by omega)]; omega
  refine T6 fun hB hA => ?_
  refine W ?_
  refine cu uSmall ?_
  refine W ?_
  refine cu u1 ?_
  refine W ?_
  refine cu u2 ?_
  refine W ?_
  refine cu u3 ?_
  by_cases hp : p = 0
  · subst hp
    refine W ?_
    refine cu u4 ?_
    refine W ?_
    refine cu u5 ?_
    have d : decide ((0 : Int) = 0) = true := rfl
    rw [d]
    by_cases hq : q = 0
    · have hr := o4 rfl hq
      subst hq hr
      refine W ?_
      exact hk
    · by_cases hq2 : q < 0
      · have hr := o2 (by omega) hq2
        refine W ?_
        exact hk
      · refine W ?_
        exact hk
  · have d : decide (p = 0) = false := by simp [hp]
    rw [d] at u5
    refine W ?_
    refine cu u4 ?_
    refine W ?_
    refine cu u5 ?_
    by_cases hp2 : p < 0
    · by_cases hq : q ≤ 0
      · have hr := o3 hp2 hq
        refine W ?_
        exact hk
      · refine W ?_
        exact hk
    · refine W ?_
      exact hk
end
end Go.Proofs.YtdkjcadffhnjgaaDoor
