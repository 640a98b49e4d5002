/- Timers: the small case. -/
import Derived.Test.YtdkjcadffhnjgaaTN
namespace Go.Proofs.Ytdkjcadffhnjgaa
open Go Go.V
set_option maxRecDepth 10000

theorem keep_via {σ a b : VHeap} {mid : Nat} (h : Keep [] σ a) (hm : σ.length ≤ mid) (k : Keep [mid] a b) : Keep [] σ b :=
  ((h.mono (l' := [mid]) (by simp)).trans k).mono fun i hi => by simp at hi; subst hi; exact .inr hm
theorem perm_one {α : Type} {l : List α} {a : α} (h : l.Perm [a]) : l = [a] := List.perm_singleton.1 h
theorem sort_one (a : List UInt8) : ([a].mergeSort fun x y => decide (x ≤ y)) = [a] := by
  apply perm_one; exact List.mergeSort_perm _ _

theorem tSmall {σ : VHeap} {Post : KP} (k : ∀ σ' : VHeap, Keep [] σ σ' → Post (.bool true) σ') : T Try.prog 7 [] σ Post := by
  refine T7 (sf (by show 0 ≤ _; decide) ?_)
  show vrun _ _ vb7 _ (σ ++ vdead 0) _
  unfold vb7
  refine Wk ?_
  apply st_callP rfl rfl
  refine tNew fun σ1 bid mid mg k1 hb hm t1 => ?_
  rw [List.length_append, vdead_len] at hb hm
  have hbx := t1.box
  refine Wk ?_
  apply st_callP (vs := [.ptr bid 1 0, .str [97], .int .i64 2]) rfl rfl
  refine tStart t1 (by omega) fun σ2 k2 t2 => ?_
  refine Wk ?_
  apply st_callP (vs := [.ptr bid 1 0, .str [98], .int .i64 1]) rfl rfl
  refine tStart t2 (by omega) fun σ3 k3 t3 => ?_
  have hM : (if startR [98] 1 (if startR [97] 2 [] = 0 then mput [97] 2 [] else []) = 0 then mput [98] 1 (if startR [97] 2 [] = 0 then mput [97] 2 [] else []) else (if startR [97] 2 [] = 0 then mput [97] 2 [] else [])) = [([98], 1), ([97], 2)] := by decide
  rw [hM] at t3
  have r1 : startR [97] 2 [] = 0 := by decide
  have r2 : startR [98] 1 (if startR [97] 2 [] = 0 then mput [97] 2 [] else []) = 0 := by decide
  rw [r2]
  rw [r1]
  refine Wk ?_
  apply st_callP (vs := [.ptr bid 1 0]) rfl rfl
  refine tNext t3 fun σ4 n is k4 hn => ?_
  have hn1 := hn.2 (by simp)
  obtain ⟨his, ⟨e, he, hen⟩, hmin⟩ := hn1
  have h1 := hmin ([98], 1) (by simp)
  have hn2 : n = 1 := by
    simp at he
    rcases he with rfl | rfl
    · exact hen.symm
    · simp only at hen h1; omega
  subst hn2 his
  have t4 := t3.keep k4
  refine Wk ?_
  apply st_callP (vs := [.ptr bid 1 0]) rfl rfl
  refine tTick t4 (by simp) fun σ5 ss k5 t5 hss => ?_
  have hss2 : ss = [[98]] := perm_one hss
  subst hss2
  rw [sort_one]
  have hM5 : mtick [([98], 1), ([97], 2)] = [([97], 1)] := by decide
  rw [hM5] at t5
  refine Wk ?_
  apply st_callP (vs := [.ptr bid 1 0, .str [97]]) rfl rfl
  refine tLeft t5 fun σ6 k6 => ?_
  have hg : mget [97] [([97], 1)] = some 1 := by decide
  rw [hg]
  have t6 := t5.keep k6
  refine Wk ?_
  apply st_callP (vs := [.ptr bid 1 0]) rfl rfl
  refine tTick t6 (by simp) fun σ7 ss k7 t7 hss => ?_
  have hss2 : ss = [[97]] := perm_one hss
  subst hss2
  rw [sort_one]
  refine Wk ?_
  apply st_indexS (i := 0)
  exact rfl
  exact rfl
  exact rfl
  exact rfl
  refine Wk ?_
  apply st_indexS (i := 0)
  exact rfl
  exact rfl
  exact rfl
  exact rfl
  refine Wk ?_
  apply st_callP (vs := [.ptr bid 1 0, .str [97], .int .i64 0]) rfl rfl
  refine tStart t7 (by omega) fun σ8 k8 t8 => ?_
  have r8 : startR [97] 0 (mtick [([97], 1)]) = 1 := by decide
  rw [r8]
  refine Wk ?_
  refine se_retP (v := .bool true) rfl rfl rfl (k _ ?_)
  have hml : σ.length ≤ mid := by omega
  have q1 : Keep [] σ σ1 := k1.pre
  exact keep_via (keep_via ((keep_via ((keep_via (keep_via q1 hml k2) hml k3).trans k4) hml k5).trans k6) hml k7) hml k8
end Go.Proofs.Ytdkjcadffhnjgaa
