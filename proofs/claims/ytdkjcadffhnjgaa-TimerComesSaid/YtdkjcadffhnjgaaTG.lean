/- TimerFirst. -/
import Derived.Test.YtdkjcadffhnjgaaTP
import Derived.Test.YtdkjcadffhnjgaaV21
namespace Go.Proofs.Ytdkjcadffhnjgaa
open Go Go.V
set_option maxRecDepth 10000

/-- What an act is. -/
def IsAct (e : List PV) : Prop := ∃ (d : Int) (s : List UInt8) (n : Int), e = [.int .i64 d, .str s, .int .i64 n] ∧ n ≤ 9223372036854775807

structure PlayI (acts : List (List PV)) (bid mid mg : Nat) (k : Nat) (env : Env) (σ' : VHeap) (i : Nat) (M : TM) : Prop where
  e0 : env 0 = .sl acts
  e4 : env 4 = .ptr bid 1 0
  e5 : env 5 = .int .i64 i
  kk : k + i = acts.length
  tm : Tm σ' bid 1 mid mg M
  ml : M.length ≤ 32

structure FirstI (bid mid mg : Nat) (n : Int) (k : Nat) (env : Env) (σ' : VHeap) (i : Int) (M : TM) : Prop where
  e4 : env 4 = .ptr bid 1 0
  e6 : env 6 = .int .i64 n
  e8 : env 8 = .int .i64 i
  ge : 1 ≤ i
  le : i ≤ n
  kk : (k : Int) + i = n
  tm : Tm σ' bid 1 mid mg M
  ml : M.length ≤ 32
  ex : ∃ e, e ∈ M ∧ e.2 = n - (i - 1)
  all : ∀ e, e ∈ M → n - (i - 1) ≤ e.2

theorem due_nil {M : TM} (h : ∀ e, e ∈ M → e.2 ≠ 1) : mdue M = [] := by
  unfold mdue; rw [List.map_eq_nil_iff, List.filter_eq_nil_iff]; intro e he; simpa using h e he
theorem tick_mem {M : TM} {e : List UInt8 × Int} (h : e ∈ M) (h1 : e.2 ≠ 1) : (e.1, e.2 - 1) ∈ mtick M := List.mem_map.2 ⟨e, List.mem_filter.2 ⟨h, by simpa using h1⟩, rfl⟩
theorem tick_all {M : TM} {x : List UInt8 × Int} (h : x ∈ mtick M) : ∃ e, e ∈ M ∧ e.2 ≠ 1 ∧ x.2 = e.2 - 1 := by
  obtain ⟨e, he, rfl⟩ := List.mem_map.1 h
  have := List.mem_filter.1 he
  exact ⟨e, this.1, by simpa using this.2, rfl⟩
theorem tick_len {M : TM} (h : M.length ≤ 32) : (mtick M).length ≤ 32 := by
  unfold mtick; rw [List.length_map]; exact Nat.le_trans (List.length_filter_le _ _) h

theorem tFirstB {n0 : Nat} {σ : VHeap} {env : Env} {bid mid mg : Nat} {M : TM} {Post : KP} (k : ∀ σ' : VHeap, Post (.bool true) σ') (e4 : env 4 = .ptr bid 1 0) (tm : Tm σ bid 1 mid mg M) (ml : M.length ≤ 32) :
    vrun Try.prog n0 vb6_2 env σ (vend vf6 Post) := by
  unfold vb6_2
  refine Wk ?_
  apply st_callP (vs := [.ptr bid 1 0])
  exact rfl
  exact rfl
  refine tNext tm fun σ2 n is k2 hn => ?_
  have tm2 := tm.keep k2
  by_cases hM : M = []
  · obtain ⟨rfl, rfl⟩ := hn.1 hM
    subst hM
    refine Wk ?_
    apply st_callP (vs := [.ptr bid 1 0])
    exact rfl
    exact rfl
    refine tTick tm2 (by simp) fun σ3 ss k3 t3 hss => ?_
    have hss2 : ss = [] := hss.eq_nil
    subst hss2
    rw [sort_nil]
    refine Wk ?_
    exact se_retP (v := .bool true) rfl rfl rfl (k _)
  · obtain ⟨rfl, hex, hall⟩ := hn.2 hM
    have hn1 : 1 ≤ n ∧ n ≤ 9223372036854775807 := by
      obtain ⟨e, he, rfl⟩ := hex
      exact tm.left e he
    refine Wk ?_
    apply sc_loop
    refine ⟨fun k env σ' => ∃ i M, FirstI bid mid mg n k env σ' i M, ⟨(n - 1).toNat, 1, M, e4, rfl, rfl, by omega, by omega, by omega, tm2, ml, ?_, ?_⟩, ?_⟩
    · obtain ⟨e, he, h⟩ := hex; exact ⟨e, he, by omega⟩
    · intro e he; have := hall e he; omega
    clear tm2 tm ml hex hall hn hM e4 k2
    rintro k0 env σ3 ⟨i, M, e4, e6, e8, ge, le, kk, tm, ml, hex, hall⟩
    by_cases hlt : i < n
    · by_cases h100 : i < 100
      · refine Wk ?_
        apply st_callP (vs := [.ptr bid 1 0])
        exact rfl
        exact rfl
        refine tTick tm (by omega) fun σ4 ss k4 t4 hss => ?_
        have hd : mdue M = [] := due_nil fun e he h => by have := hall e he; omega
        rw [hd] at hss
        have hss2 : ss = [] := hss.eq_nil
        subst hss2
        rw [sort_nil]
        refine Wk ?_
        refine ⟨k0 - 1, by omega, i + 1, _, e4, e6, rfl, by omega, by omega, by omega, t4, tick_len ml, ?_, ?_⟩
        · obtain ⟨e, he, h⟩ := hex
          exact ⟨_, tick_mem he (by omega), by show e.2 - 1 = _; omega⟩
        · intro x hx
          obtain ⟨e, he, _, h⟩ := tick_all hx
          have := hall e he; omega
      · refine Wk ?_
        unfold vb6_1
        refine Wk ?_
        exact se_retP (v := .bool true) rfl rfl rfl (k _)
    · have hi : i = n := by omega
      subst hi
      refine Wk ?_
      unfold vb6_1
      by_cases h100 : i > 100
      · refine Wk ?_
        exact se_retP (v := .bool true) rfl rfl rfl (k _)
      · refine Wk ?_
        apply st_callP (vs := [.ptr bid 1 0])
        exact rfl
        exact rfl
        refine tTick tm (by omega) fun σ4 ss k4 t4 hss => ?_
        have hpos : 0 < (ss.mergeSort fun x y => decide (x ≤ y)).length := by
          rw [List.length_mergeSort, hss.length_eq]
          obtain ⟨e, he, h⟩ := hex
          unfold mdue
          rw [List.length_map]
          exact List.length_pos_of_mem (List.mem_filter.2 ⟨he, by simp; omega⟩)
        have hlen : (strRow (ss.mergeSort fun x y => decide (x ≤ y))).length = (ss.mergeSort fun x y => decide (x ≤ y)).length := by simp [strRow]
        refine Wk ?_
        exact se_retP (v := .bool true) rfl rfl rfl (k _)

theorem tFirst {σ : VHeap} {acts : List (List PV)} {Post : KP} (ha : ∀ e, e ∈ acts → IsAct e) (hl : acts.length ≤ 9223372036854775807) (k : ∀ σ' : VHeap, Post (.bool true) σ') : T Try.prog 6 [.sl acts] σ Post := by
  refine T6 (sf (by show 1 ≤ _; decide) ?_)
  show vrun _ _ vb6 _ (σ ++ vdead 0) _
  unfold vb6
  refine Wk ?_
  apply st_callP (vs := []) rfl rfl
  refine tSmall fun σ1 k1 => ?_
  refine Wk ?_
  apply st_callP (vs := []) rfl rfl
  refine tNew fun σ2 bid mid mg k2 hbid hmid t2 => ?_
  have hbx := t2.box
  refine Wk ?_
  apply sc_loop
  refine ⟨fun k env σ' => ∃ i M, PlayI acts bid mid mg k env σ' i M, ⟨acts.length, 0, [], rfl, rfl, rfl, rfl, t2, by simp⟩, ?_⟩
  clear k1 k2 t2 hbx
  rintro k0 env σ3 ⟨i, M, e0, e4, e5, kk, tm, ml⟩
  by_cases hlt : (i : Int) < acts.length
  · by_cases h60 : (i : Int) < 60
    · have hil : i < acts.length := by omega
      have hget : acts[i]? = some acts[i] := List.getElem?_eq_getElem hil
      obtain ⟨d, s, n, he, hn⟩ := ha _ (List.getElem_mem hil)
      rw [he] at hget
      refine Wk ?_
      apply st_indexS
      (first | exact rfl | assumption)
      (first | exact rfl | assumption)
      exact hget
      exact rfl
      refine Wk ?_
      apply st_callP (vs := [.ptr bid 1 0, .agg [.int .i64 d, .str s, .int .i64 n]])
      exact rfl
      exact rfl
      refine tPlay tm ml hn fun σ4 k4 t4 => ?_
      refine Wk ?_
      exact ⟨k0 - 1, by omega, i + 1, _, e0, e4, rfl, by omega, t4, mplay_len ml⟩
    · refine Wk ?_
      exact tFirstB k e4 tm ml
  · refine Wk ?_
    exact tFirstB k e4 tm ml
end Go.Proofs.Ytdkjcadffhnjgaa
