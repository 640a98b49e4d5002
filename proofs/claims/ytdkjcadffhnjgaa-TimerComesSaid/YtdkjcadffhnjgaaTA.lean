/- TimerAgain. -/
import Derived.Test.YtdkjcadffhnjgaaTS
namespace Go.Proofs.Ytdkjcadffhnjgaa
open Go Go.V
set_option maxRecDepth 10000

theorem and31 (a : Int) : ∃ r : Int, ibin .and .i64 a .i64 31 = some (.int .i64 r) ∧ 0 ≤ r ∧ r ≤ 31 := by
  have hb : (BitVec.ofInt 64 a &&& BitVec.ofInt 64 31).toNat ≤ 31 := by
    rw [BitVec.toNat_and]
    exact Nat.and_le_right
  refine ⟨((BitVec.ofInt 64 a &&& BitVec.ofInt 64 31).toNat : Int), ?_, by omega, by omega⟩
  show some (PV.int .i64 (IntKind.i64.wrap ((BitVec.ofInt 64 a &&& BitVec.ofInt 64 31).toNat : Int))) = _
  rw [wrap_i64 (by omega) (by omega)]

theorem due_no {nm : List UInt8} {l : Int} (h : l ≠ 1) : mdue [(nm, l)] = [] ∧ mtick [(nm, l)] = [(nm, l - 1)] := by
  constructor
  · unfold mdue; rw [List.filter_cons_of_neg (by simpa using h)]; rfl
  · unfold mtick; rw [List.filter_cons_of_pos (by simpa using h)]; rfl
theorem sort_nil : (([] : List (List UInt8)).mergeSort fun x y => decide (x ≤ y)) = [] := by simp

structure AgI (bid mid mg : Nat) (n m : Int) (stop : Bool) (slot : Nat) (top : Int) (k : Nat) (env : Env) (σ' : VHeap) (i : Int) : Prop where
  e2 : env 2 = .bool stop
  e8 : env 8 = .ptr bid 1 0
  e9 : env 9 = .int .i64 n
  e10 : env 10 = .int .i64 m
  ei : env slot = .int .i64 i
  ge : 1 ≤ i
  kk : (k : Int) + i = top
  tm : Tm σ' bid 1 mid mg [([97], top - (i - 1))]

theorem tAgain {σ : VHeap} {a b : Int} {stop : Bool} {Post : KP} (k : ∀ σ' : VHeap, Post (.bool true) σ') : T Try.prog 3 [.int .i64 a, .int .i64 b, .bool stop] σ Post := by
  obtain ⟨ra, ha, ha0, ha1⟩ := and31 a
  obtain ⟨rb, hb, hb0, hb1⟩ := and31 b
  refine T3 (sf (by show 3 ≤ _; decide) ?_)
  show vrun _ _ vb3 _ (σ ++ vdead 0) _
  unfold vb3
  refine Wk ?_
  apply st_callP (vs := []) rfl rfl
  refine tSmall fun σ1 k1 => ?_
  refine Wk ?_
  apply st_callP (vs := []) rfl rfl
  refine tNew fun σ2 bid mid mg k2 hbid hmid t2 => ?_
  have hbx := t2.box
  refine Wk ?_
  apply st_callP (vs := [.ptr bid 1 0, .str [97], .int .i64 (1 + ra)]) rfl rfl
  refine tStart t2 (by omega) fun σ3 k3 t3 => ?_
  have r3 : startR [97] (1 + ra) [] = 0 := by unfold startR; rw [if_neg (by omega), if_neg (by simp)]
  rw [r3] at t3 ⊢
  rw [if_pos rfl] at t3
  refine Wk ?_
  apply sc_loop
  refine ⟨fun k env σ' => ∃ i, AgI bid mid mg (1 + ra) (1 + rb) stop 11 (1 + ra) k env σ' i, ⟨ra.toNat, 1, rfl, rfl, rfl, rfl, rfl, by omega, by omega, ?_⟩, ?_⟩
  · have : (1 + ra) - (1 - 1) = 1 + ra := by omega
    rw [this]; exact t3
  rintro k0 env σ4 ⟨i, e2, e8, e9, e10, ei, ge, kk, tm⟩
  by_cases hlt : i < 1 + ra
  · refine Wk ?_
    apply st_callP (vs := [.ptr bid 1 0]) rfl rfl
    refine tTick tm (by simp) fun σ5 ss k5 t5 hss => ?_
    obtain ⟨d1, d2⟩ := due_no (nm := [97]) (l := 1 + ra - (i - 1)) (by omega)
    rw [d1] at hss
    rw [d2] at t5
    have hss2 : ss = [] := hss.eq_nil
    subst hss2
    rw [sort_nil]
    refine Wk ?_
    refine ⟨k0 - 1, by omega, i + 1, e2, e8, e9, e10, rfl, by omega, by omega, ?_⟩
    have : 1 + ra - (i + 1 - 1) = 1 + ra - (i - 1) - 1 := by omega
    rw [this]; exact t5
  · have hi : i = 1 + ra := by omega
    subst hi
    have : (1 + ra) - (1 + ra - 1) = 1 := by omega
    rw [this] at tm
    clear this
    have m1 : mtick [(([97] : List UInt8), (1 : Int))] = [] := by decide
    cases stop with
    | true =>
      refine Wk ?_
      apply st_callP (vs := [.ptr bid 1 0, .str [97]]) rfl rfl
      refine tStop tm fun σ5 k5 t5 => ?_
      have h1 : mhas [97] [(([97] : List UInt8), (1 : Int))] = true := by decide
      have h2 : mdel [97] [(([97] : List UInt8), (1 : Int))] = [] := by decide
      rw [h1]
      rw [h2] at t5
      refine Wk ?_
      apply st_callP (vs := [.ptr bid 1 0, .str [97]]) rfl rfl
      refine tStop t5 fun σ6 k6 t6 => ?_
      have h3 : mhas [97] [] = false := rfl
      rw [h3]
      refine Wk ?_
      apply st_callP (vs := [.ptr bid 1 0]) rfl rfl
      refine tTick t6 (by simp [mdel]) fun σ7 ss k7 t7 hss => ?_
      have hss2 : ss = [] := hss.eq_nil
      subst hss2
      rw [sort_nil]
      refine Wk ?_
      exact se_retP (v := .bool true) rfl rfl rfl (k _)
    | false =>
      refine Wk ?_
      apply st_callP (vs := [.ptr bid 1 0, .str [97], .int .i64 (1 + rb)]) rfl rfl
      refine tStart tm (by omega) fun σ5 k5 t5 => ?_
      have r5 : startR [97] (1 + rb) [(([97] : List UInt8), (1 : Int))] = 0 := by
        have : mhas [97] [(([97] : List UInt8), (1 : Int))] = true := by decide
        unfold startR; rw [if_neg (by omega), if_neg (by rw [this]; simp)]
      have p5 : mput [97] (1 + rb) [(([97] : List UInt8), (1 : Int))] = [([97], 1 + rb)] := by
        unfold mput; rw [List.filter_cons_of_neg (by decide)]; rfl
      rw [r5] at t5 ⊢
      rw [if_pos rfl, p5] at t5
      refine Wk ?_
      apply sc_loop
      refine ⟨fun k env σ' => ∃ i, AgI bid mid mg (1 + ra) (1 + rb) false 12 (1 + rb) k env σ' i, ⟨rb.toNat, 1, e2, e8, e9, e10, rfl, by omega, by omega, ?_⟩, ?_⟩
      · have : (1 + rb) - (1 - 1) = 1 + rb := by omega
        rw [this]; exact t5
      clear e2 e8 e9 e10 ei ge kk tm
      rintro k0 env σ4 ⟨i, e2, e8, e9, e10, ei, ge, kk, tm⟩
      by_cases hlt : i < 1 + rb
      · refine Wk ?_
        apply st_callP (vs := [.ptr bid 1 0]) rfl rfl
        refine tTick tm (by simp) fun σ5 ss k5 t5 hss => ?_
        obtain ⟨d1, d2⟩ := due_no (nm := [97]) (l := 1 + rb - (i - 1)) (by omega)
        rw [d1] at hss
        rw [d2] at t5
        have hss2 : ss = [] := hss.eq_nil
        subst hss2
        rw [sort_nil]
        refine Wk ?_
        refine ⟨k0 - 1, by omega, i + 1, e2, e8, e9, e10, rfl, by omega, by omega, ?_⟩
        have : 1 + rb - (i + 1 - 1) = 1 + rb - (i - 1) - 1 := by omega
        rw [this]; exact t5
      · have hi : i = 1 + rb := by omega
        subst hi
        have : (1 + rb) - (1 + rb - 1) = 1 := by omega
        rw [this] at tm
        clear this
        refine Wk ?_
        apply st_callP (vs := [.ptr bid 1 0]) rfl rfl
        refine tTick tm (by simp) fun σ7 ss k7 t7 hss => ?_
        have hss2 : ss = [[97]] := perm_one hss
        subst hss2
        rw [sort_one]
        rw [m1] at t7
        refine Wk ?_
        apply st_indexS (i := 0)
        exact rfl
        exact rfl
        exact rfl
        exact rfl
        refine Wk ?_
        apply st_callP (vs := [.ptr bid 1 0]) rfl rfl
        refine tTick t7 (by simp) fun σ8 ss k8 t8 hss => ?_
        have hss2 : ss = [] := hss.eq_nil
        subst hss2
        rw [sort_nil]
        refine Wk ?_
        exact se_retP (v := .bool true) rfl rfl rfl (k _)
end Go.Proofs.Ytdkjcadffhnjgaa
