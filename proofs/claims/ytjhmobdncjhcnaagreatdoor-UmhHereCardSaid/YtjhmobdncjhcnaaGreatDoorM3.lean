/- mroute.bare, Right, Bytes; cursor.Put, whose row is the caller's. -/
import Derived.Test.YtjhmobdncjhcnaaGreatDoorM2
namespace Go.Proofs.YtjhmobdncjhcnaaGreatDoor
open Go Go.V
set_option maxRecDepth 10000
theorem mz_k (k : Int) : splice [.int .i64 0, D.o, D.o, D.o, D.o, D.o, D.o, D.o, D.o, .int .i64 0, .int .i64 0, D.o, D.o, D.o, D.o, D.o, D.o, D.o, D.o, D.o, D.o, D.o, D.o, D.o, D.o, D.o, D.o, .int .i64 0, D.o, D.o, D.o, D.o, D.o, D.o, D.o, D.o, D.o, D.o, D.o, D.o, D.o, D.o, D.o, D.o, .int .i64 0, D.o, D.o, D.o, D.o, D.o, D.o, D.o, D.o, D.o, D.o, D.o, D.o, D.o, D.o, D.o, D.o, .str []] 0 [.int .i64 k] = mrc { mr0 with k := k } := rfl
theorem mz_st {m : Mr} (h : okM m) : splice [.int .i64 0, D.o, D.o, D.o, D.o, D.o, D.o, D.o, D.o, .int .i64 0, .int .i64 0, D.o, D.o, D.o, D.o, D.o, D.o, D.o, D.o, D.o, D.o, D.o, D.o, D.o, D.o, D.o, D.o, .int .i64 0, D.o, D.o, D.o, D.o, D.o, D.o, D.o, D.o, D.o, D.o, D.o, D.o, D.o, D.o, D.o, D.o, .int .i64 0, D.o, D.o, D.o, D.o, D.o, D.o, D.o, D.o, D.o, D.o, D.o, D.o, D.o, D.o, D.o, D.o, .str []] 0 (mrc m) = mrc m := ms_all h
def bk (k : Int) : Mr := { mr0 with k := k }
attribute [local irreducible] vBuild
set_option maxHeartbeats 4000000 in
theorem uBare {m : Mr} (h : okM m) (hk : (ofF m.k).2 = true) : U Tryz.prog 184 [.agg (mrc m), .agg (ptc (ofF m.k).1)] (.agg (mrc (bareF m (ofF m.k).1))) := by
  intro σ Post hp
  have sc := mrc_sc (m := m)
  have ln := mrc_len h
  have c1 := mc_rd h
  have c2 := mc_as h
  have c3 := mc_s h
  have c4 := mc_g h
  have c5 := mc_f h
  have c6 := mc_key h
  have c7 : cut (mrc m) 0 none = some (.int .i64 m.k) := rfl
  have k7 := kinds hk
  have d0 := mz_k m.k
  -- the box that is filled
  let b0 : Mr := { mr0 with k := m.k }
  have o0 : okM b0 := ⟨rfl, rfl, rfl, rfl⟩
  have key : ∀ {p : Pt}, (ofF m.k).1 = p → T Tryz.prog 184 [.agg (mrc m), .agg (ptc p)] σ Post := by
    intro p hpp
    rw [hpp] at hp
    let b1 : Mr := if p.rd then { b0 with rd := m.rd } else b0
    let b2 : Mr := if p.aa then { b1 with aa := m.aa } else b1
    let b3 : Mr := if p.fl then { b2 with s := m.s, g := m.g } else b2
    let b4 : Mr := if p.fr then { b3 with f := m.f } else b3
    let b5 : Mr := if m.k = 4 then { b4 with key := m.key } else b4
    have e5 : b5 = bareF m p := by
      simp only [b5, b4, b3, b2, b1, b0, bareF, mr0]
      cases p with
      | mk a b c d => cases a <;> cases b <;> cases c <;> cases d <;> by_cases h4 : m.k = 4 <;> simp [h4]
    have o1 : okM b1 := by simp only [b1]; split; exact ⟨h.rd, rfl, rfl, rfl⟩; exact o0
    have o2 : okM b2 := by simp only [b2]; split; exact ⟨o1.rd, o1.s, o1.g, o1.f⟩; exact o1
    have o3 : okM b3 := by simp only [b3]; split; exact ⟨o2.rd, h.s, h.g, o2.f⟩; exact o2
    have o4 : okM b4 := by simp only [b4]; split; exact ⟨o3.rd, o3.s, o3.g, h.f⟩; exact o3
    have o5 : okM b5 := by simp only [b5]; split; exact ⟨o4.rd, o4.s, o4.g, o4.f⟩; exact o4
    rw [← e5] at hp
    have n1 : b1 = if p.rd then { b0 with rd := m.rd } else b0 := rfl
    have n2 : b2 = if p.aa then { b1 with aa := m.aa } else b1 := rfl
    have n3 : b3 = if p.fl then { b2 with s := m.s, g := m.g } else b2 := rfl
    have n4 : b4 = if p.fr then { b3 with f := m.f } else b3 := rfl
    have n5 : b5 = if m.k = 4 then { b4 with key := m.key } else b4 := rfl
    have n0 : ({ mr0 with k := m.k } : Mr) = b0 := rfl
    rw [n0] at d0
    clear_value b5
    clear_value b4
    clear_value b3
    clear_value b2
    clear_value b1
    clear_value b0
    have q1 : cut (ptc p) 0 none = some (.bool p.rd) := rfl
    have q2 : cut (ptc p) 1 none = some (.bool p.aa) := rfl
    have q3 : cut (ptc p) 2 none = some (.bool p.fl) := rfl
    have q4 : cut (ptc p) 3 none = some (.bool p.fr) := rfl
    have sb0 := mrc_sc (m := b0)
    have w0 := mz_st o0
    have rl : (u8c m.rd).length = 8 := by rw [u8c_len, h.rd]
    have rs := u8c_sc m.rd
    have i0 := mrc_len o0
    have i1 := mrc_len o1
    have i2 := mrc_len o2
    have i3 := mrc_len o3
    have i4 := mrc_len o4
    have i5 := mrc_len o5
    have r5 := mrc_all o5
    have s5 := mrc_sc (m := b5)
    have w1 := ms_rd o0 h.rd
    have w2 := ms_as (z := m.aa) o1
    have w3 := ms_s o2 h.s
    have w3' := ms_g (m := { b2 with s := m.s }) ⟨o2.rd, h.s, o2.g, o2.f⟩ h.g
    have w4 := ms_f o3 h.f
    have w5 := ms_key (z := m.key) o4
    have w6 := mz_st o5
    refine T184 fun hB hA => ?_
    let Inv : Mr → Env → VHeap → Prop := fun b e s => (∃ g, e 2 = .ptr (σ.length + 0) g 0 ∧ g = 1) ∧ (∃ g, e 3 = .ptr (σ.length + 1) g 0 ∧ g = 1) ∧ (∃ g, e 4 = .ptr (σ.length + 2) g 0 ∧ g = 1) ∧ (∃ g, e 5 = .ptr (σ.length + 3) g 0 ∧ g = 1) ∧
      s = σ ++ [(1, .box (mrc m) false), (1, .box (ptc p) false), (1, .box mz false), (1, .box (mrc b) false)]
    refine cutp (fun e s => (∃ g, e 2 = .ptr (σ.length + 0) g 0 ∧ g = 1) ∧ (∃ g, e 3 = .ptr (σ.length + 1) g 0 ∧ g = 1) ∧ (∃ g, e 4 = .ptr (σ.length + 2) g 0 ∧ g = 1) ∧ s = σ ++ [(1, .box (mrc m) false), (1, .box (ptc p) false), (1, .box mz false), (0, .dead)]) ?_ ?_
    · refine W ?_
      exact ⟨⟨1, rfl, rfl⟩, ⟨1, rfl, rfl⟩, ⟨1, rfl, rfl⟩, rfl⟩
    rintro u _ ⟨⟨_, e2, rfl⟩, ⟨_, e3, rfl⟩, ⟨_, e4, rfl⟩, rfl⟩
    refine cutp (Inv b0) ?_ ?_
    · refine W ?_
      exact ⟨⟨1, e2, rfl⟩, ⟨1, e3, rfl⟩, ⟨1, e4, rfl⟩, ⟨1, rfl, rfl⟩, rfl⟩
    clear e2 e3 e4
    rintro u _ ⟨⟨_, e2, rfl⟩, ⟨_, e3, rfl⟩, ⟨_, e4, rfl⟩, ⟨_, e5, rfl⟩, rfl⟩
    refine cutp (Inv b1) ?_ ?_
    · cases hq : p.rd with
      | true =>
        rw [hq] at q1
        rw [hq, if_pos rfl] at n1
        rw [← n1] at w1
        refine W ?_
        exact ⟨⟨1, e2, rfl⟩, ⟨1, e3, rfl⟩, ⟨1, e4, rfl⟩, ⟨1, e5, rfl⟩, rfl⟩
      | false =>
        rw [hq] at q1
        rw [hq, if_neg (by simp)] at n1
        refine W ?_
        rw [n1]
        exact ⟨⟨1, e2, rfl⟩, ⟨1, e3, rfl⟩, ⟨1, e4, rfl⟩, ⟨1, e5, rfl⟩, rfl⟩
    clear e2 e3 e4 e5
    rintro u _ ⟨⟨_, e2, rfl⟩, ⟨_, e3, rfl⟩, ⟨_, e4, rfl⟩, ⟨_, e5, rfl⟩, rfl⟩
    refine cutp (Inv b2) ?_ ?_
    · cases hq : p.aa with
      | true =>
        rw [hq] at q2
        rw [hq, if_pos rfl] at n2
        rw [← n2] at w2
        refine W ?_
        exact ⟨⟨1, e2, rfl⟩, ⟨1, e3, rfl⟩, ⟨1, e4, rfl⟩, ⟨1, e5, rfl⟩, rfl⟩
      | false =>
        rw [hq] at q2
        rw [hq, if_neg (by simp)] at n2
        refine W ?_
        rw [n2]
        exact ⟨⟨1, e2, rfl⟩, ⟨1, e3, rfl⟩, ⟨1, e4, rfl⟩, ⟨1, e5, rfl⟩, rfl⟩
    clear e2 e3 e4 e5
    rintro u _ ⟨⟨_, e2, rfl⟩, ⟨_, e3, rfl⟩, ⟨_, e4, rfl⟩, ⟨_, e5, rfl⟩, rfl⟩
    refine cutp (Inv b3) ?_ ?_
    · cases hq : p.fl with
      | true =>
        rw [hq] at q3
        rw [hq, if_pos rfl] at n3
        rw [← n3] at w3'
        have as1 := adc_len h.s
        have as2 := adc_len h.g
        have as3 := adc_sc (a := m.s)
        have as4 := adc_sc (a := m.g)
        have as5 := mrc_len (m := { b2 with s := m.s }) ⟨o2.rd, h.s, o2.g, o2.f⟩
        refine Wo ?_
        refine drJ (fun h' => vGet h' (σ.length + 0) 1 = some (.box (mrc m) false)) [(1, 0), (1, 1), (2, 2), (2, 3), (1, 4), (0, 5), (1, 6), (0, 7)] (by kernel_rfl) (by kernel_rfl) (by exact z_ol) (lget rfl rfl) ?_
        refine Wo ?_
        refine sv_0 ?_
        refine est (by exact z_ea) ?_
        refine st_end ⟨lget rfl rfl, ?_⟩
        refine Wo ?_
        refine sv_0 ?_
        refine est (by exact z_ea) ?_
        refine st_end ⟨lget rfl rfl, ?_⟩
        refine Wo ?_
        exact ⟨⟨1, e2, rfl⟩, ⟨1, e3, rfl⟩, ⟨1, e4, rfl⟩, ⟨1, e5, rfl⟩, rfl⟩
      | false =>
        rw [hq] at q3
        rw [hq, if_neg (by simp)] at n3
        refine W ?_
        rw [n3]
        exact ⟨⟨1, e2, rfl⟩, ⟨1, e3, rfl⟩, ⟨1, e4, rfl⟩, ⟨1, e5, rfl⟩, rfl⟩
    clear e2 e3 e4 e5
    rintro u _ ⟨⟨_, e2, rfl⟩, ⟨_, e3, rfl⟩, ⟨_, e4, rfl⟩, ⟨_, e5, rfl⟩, rfl⟩
    refine cutp (Inv b4) ?_ ?_
    · cases hq : p.fr with
      | true =>
        rw [hq] at q4
        rw [hq, if_pos rfl] at n4
        rw [← n4] at w4
        have as2 := adc_len h.f
        have as4 := adc_sc (a := m.f)
        refine W ?_
        exact ⟨⟨1, e2, rfl⟩, ⟨1, e3, rfl⟩, ⟨1, e4, rfl⟩, ⟨1, e5, rfl⟩, rfl⟩
      | false =>
        rw [hq] at q4
        rw [hq, if_neg (by simp)] at n4
        refine W ?_
        rw [n4]
        exact ⟨⟨1, e2, rfl⟩, ⟨1, e3, rfl⟩, ⟨1, e4, rfl⟩, ⟨1, e5, rfl⟩, rfl⟩
    clear e2 e3 e4 e5
    rintro u _ ⟨⟨_, e2, rfl⟩, ⟨_, e3, rfl⟩, ⟨_, e4, rfl⟩, ⟨_, e5, rfl⟩, rfl⟩
    refine cutp (Inv b5) ?_ ?_
    · by_cases h4 : m.k = 4
      · rw [if_pos h4] at n5
        rw [← n5] at w5
        refine W ?_
        exact ⟨⟨1, e2, rfl⟩, ⟨1, e3, rfl⟩, ⟨1, e4, rfl⟩, ⟨1, e5, rfl⟩, rfl⟩
      · rw [if_neg h4] at n5
        refine W ?_
        rw [n5]
        exact ⟨⟨1, e2, rfl⟩, ⟨1, e3, rfl⟩, ⟨1, e4, rfl⟩, ⟨1, e5, rfl⟩, rfl⟩
    clear e2 e3 e4 e5
    rintro u _ ⟨⟨_, e2, rfl⟩, ⟨_, e3, rfl⟩, ⟨_, e4, rfl⟩, ⟨_, e5, rfl⟩, rfl⟩
    have mzl : mz.length = 62 := rfl
    have w7 : splice mz 0 (mrc b5) = mrc b5 := ms_all o5
    refine W ?_
    exact hp
  exact key rfl
end Go.Proofs.YtjhmobdncjhcnaaGreatDoor
