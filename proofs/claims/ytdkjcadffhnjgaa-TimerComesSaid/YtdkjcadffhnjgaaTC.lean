/- TimerComes. -/
import Derived.Test.YtdkjcadffhnjgaaTG
namespace Go.Proofs.Ytdkjcadffhnjgaa
open Go Go.V
set_option maxRecDepth 10000

theorem Tm.nodup {σ : VHeap} {bid bg mid mg : Nat} {M : TM} (h : Tm σ bid bg mid mg M) : (M.map (·.1)).Nodup := by
  obtain ⟨ts, clock, _, hi, hp⟩ := h.map
  have : ((nl ts).map (·.1)).Nodup := by rw [nl, List.map_map]; exact hi.names
  exact (hp.map _).nodup_iff.1 this
theorem mget_mem {name : List UInt8} {M : TM} {l : Int} (h : mget name M = some l) : (name, l) ∈ M := by
  unfold mget at h
  rw [Option.map_eq_some_iff] at h
  obtain ⟨⟨a, b⟩, h1, h2⟩ := h
  have h3 := List.find?_some h1
  simp at h3 h2
  subst h3 h2
  exact List.mem_of_find?_eq_some h1
theorem mget_none {name : List UInt8} {M : TM} : mget name M = none ↔ ∀ e, e ∈ M → e.1 ≠ name := by
  unfold mget
  rw [Option.map_eq_none_iff, List.find?_eq_none]
  simp
theorem mget_tick {name : List UInt8} {M : TM} (hd : (M.map (·.1)).Nodup) (hd2 : ((mtick M).map (·.1)).Nodup) : mget name (mtick M) = (mget name M).bind fun l => if l = 1 then none else some (l - 1) := by
  cases h : mget name M with
  | none =>
    rw [mget_none] at h
    rw [Option.bind_none, mget_none]
    intro x hx
    obtain ⟨e, he, rfl⟩ := List.mem_map.1 hx
    exact h e (List.mem_filter.1 he).1
  | some l =>
    have hm := mget_mem h
    rw [Option.bind_some]
    by_cases hl : l = 1
    · rw [if_pos hl, mget_none]
      intro x hx
      obtain ⟨e, he, rfl⟩ := List.mem_map.1 hx
      obtain ⟨he1, he2⟩ := List.mem_filter.1 he
      intro hn
      have := uniq hd he1 hm hn
      subst this
      simp [hl] at he2
    · rw [if_neg hl]
      exact mget_of hd2 (tick_mem hm hl)
theorem due_mem {name : List UInt8} {M : TM} (hd : (M.map (·.1)).Nodup) : name ∈ mdue M ↔ mget name M = some 1 := by
  unfold mdue
  constructor
  · intro h
    obtain ⟨⟨a, b⟩, he, h2⟩ := List.mem_map.1 h
    obtain ⟨he1, he2⟩ := List.mem_filter.1 he
    simp at he2 h2
    subst he2 h2
    exact mget_of hd he1
  · intro h
    exact List.mem_map.2 ⟨_, List.mem_filter.2 ⟨mget_mem h, by simp⟩, rfl⟩
theorem mget_del {name s : List UInt8} {M : TM} (h : s ≠ name) : mget name (mdel s M) = mget name M := by
  unfold mget mdel
  congr 1
  rw [List.find?_filter]
  congr 1
  funext e
  by_cases he : e.1 = name
  · have : e.1 ≠ s := fun h2 => h (h2.symm.trans he)
    simp [he]; rw [← he]; exact this
  · simp [he]
theorem mget_play {name s : List UInt8} {d n : Int} {M : TM} (h3 : d ≠ 3) (h5 : d ≠ 5) (h : s = name → ¬ d < 2) : mget name (mplay d s n M) = mget name M := by
  unfold mplay
  by_cases h0 : d = 0
  · rw [if_pos h0]
    have hs : s ≠ name := fun e => h e (by omega)
    split
    · show mget name ((s, n) :: mdel s M) = _
      rw [← mget_del (M := M) hs]
      unfold mget
      rw [List.find?_cons_of_neg (by simpa using hs)]
    · rfl
  · rw [if_neg h0]
    by_cases h1 : d = 1
    · rw [if_pos h1]; exact mget_del fun e => h e (by omega)
    · rw [if_neg h1, if_neg h3, if_neg h5]
theorem mplay_le {d n : Int} {s : List UInt8} {M : TM} : (mplay d s n M).length ≤ M.length + 1 := by
  unfold mplay
  split
  · split
    · unfold mput; rw [List.length_cons]; have := List.length_filter_le (fun e : List UInt8 × Int => e.1 != s) M; omega
    · omega
  · split
    · exact Nat.le_trans (List.length_filter_le _ _) (by omega)
    · split
      · unfold mtick; rw [List.length_map]; exact Nat.le_trans (List.length_filter_le _ _) (by omega)
      · split
        · simp
        · omega

/-- How many ticks are left, and what the timers know of it. -/
def Knows (name : List UInt8) (left : Int) (M : TM) : Prop := 0 ≤ left ∧ left ≤ 9223372036854775807 ∧ mget name M = if left = 0 then none else some left

theorem tC2 {n0 : Nat} {σ : VHeap} {env : Env} {bid mid mg : Nat} {M : TM} {name : List UInt8} {left : Int} {Q : QP} (e1 : env 1 = .str name) (e10 : env 10 = .ptr bid 1 0) (e12 : env 12 = .int .i64 left) (tm : Tm σ bid 1 mid mg M) (kn : Knows name left M)
    (k : ∀ (env' : Env) (σ' : VHeap), env' 0 = env 0 → env' 1 = env 1 → env' 3 = env 3 → env' 10 = env 10 → env' 12 = env 12 → env' 13 = env 13 → Keep [] σ σ' → Q .normal env' σ') : vrun Try.prog n0 vb5_4 env σ Q := by
  obtain ⟨k0, k1, k2⟩ := kn
  unfold vb5_4
  refine Wk ?_
  apply st_callP (vs := [.ptr bid 1 0, .str name])
  exact rfl
  exact rfl
  refine tLeft tm fun σ2 kp => ?_
  rw [k2]
  by_cases hl : left = 0
  · subst hl
    rw [if_pos rfl]
    simp only [Option.getD_none, Option.isSome_none]
    refine Wk ?_
    exact k _ _ rfl rfl rfl rfl rfl rfl kp
  · have hpos : left > 0 := by omega
    rw [if_neg hl]
    simp only [Option.getD_some, Option.isSome_some]
    refine Wk ?_
    exact k _ _ rfl rfl rfl rfl rfl rfl kp

theorem tC1 {n0 : Nat} {σ : VHeap} {env : Env} {left : Int} {come : Bool} {Q : QP} (e12 : env 12 = .int .i64 left) (e15 : env 15 = .bool come) (h0 : 0 ≤ left) (h1 : left ≤ 9223372036854775807) (hc : come = decide (left = 1))
    (k : ∀ env' : Env, env' 0 = env 0 → env' 1 = env 1 → env' 3 = env 3 → env' 10 = env 10 → env' 12 = .int .i64 (if left = 0 then 0 else left - 1) → env' 13 = env 13 → Q .normal env' σ) : vrun Try.prog n0 vb5_3 env σ Q := by
  unfold vb5_3
  by_cases hl : left = 0
  · subst hl
    have hc2 : come = false := by rw [hc]; decide
    subst hc2
    refine Wk ?_
    exact k _ rfl rfl rfl rfl e12 rfl
  · have hpos : left > 0 := by omega
    rw [if_neg hl] at k
    by_cases hl1 : left = 1
    · subst hl1
      have hc2 : come = true := by rw [hc]; decide
      subst hc2
      refine Wk ?_
      exact k _ rfl rfl rfl rfl rfl rfl
    · have hc2 : come = false := by rw [hc]; simp [hl1]
      subst hc2
      have hne : ¬ left - 1 = 0 := by omega
      refine Wk ?_
      exact k _ rfl rfl rfl rfl rfl rfl

structure ScanI (env0 : Env) (l : List (List UInt8)) (name : List UInt8) (σ2 : VHeap) (k : Nat) (env : Env) (σ' : VHeap) (j : Nat) : Prop where
  q0 : env 0 = env0 0
  q1 : env 1 = .str name
  q3 : env 3 = env0 3
  q10 : env 10 = env0 10
  q12 : env 12 = env0 12
  q13 : env 13 = env0 13
  e16 : env 16 = .sl (strRow l)
  e17 : env 17 = .int .i64 j
  e15 : env 15 = .bool ((l.take j).contains name)
  kk : k + j = l.length
  hs : σ' = σ2

theorem tC5 {n0 : Nat} {σ : VHeap} {env : Env} {bid mid mg g : Nat} {M : TM} {name s : List UInt8} {left d n : Int} {Q : QP} (e1 : env 1 = .str name) (e10 : env 10 = .ptr bid 1 0) (e12 : env 12 = .int .i64 left) (e14 : env 14 = .ptr (n0 + 0) g 0)
    (hbx : vGet σ (n0 + 0) g = some (.box [.int .i64 d, .str s, .int .i64 n] false)) (tm : Tm σ bid 1 mid mg M) (ml : M.length ≤ 32) (kn : Knows name left M) (hd5 : d ≠ 5) (hs : s = name → ¬ d < 2) (hn : n ≤ 9223372036854775807)
    (k : ∀ (env' : Env) (σ' : VHeap) (M' : TM) (left' : Int), env' 0 = env 0 → env' 1 = env 1 → env' 3 = env 3 → env' 10 = env 10 → env' 13 = env 13 → env' 12 = .int .i64 left' → Keep [mid] σ σ' → Tm σ' bid 1 mid mg M' → M'.length ≤ 32 → Knows name left' M' → Q .normal env' σ') : vrun Try.prog n0 vb5_5 env σ Q := by
  unfold vb5_5
  by_cases h3 : d = 3
  · subst h3
    refine Wk ?_
    apply st_callP (vs := [.ptr bid 1 0])
    exact rfl
    exact rfl
    refine tTick tm (by omega) fun σ2 ss k2 t2 hss => ?_
    have hmem : ∀ x, x ∈ (ss.mergeSort fun x y => decide (x ≤ y)) ↔ x ∈ mdue M := fun x => by rw [(List.mergeSort_perm ss _).mem_iff, hss.mem_iff]
    have hll : (ss.mergeSort fun x y => decide (x ≤ y)).length ≤ 32 := by
      rw [List.length_mergeSort, hss.length_eq]; unfold mdue; rw [List.length_map]; exact Nat.le_trans (List.length_filter_le _ _) ml
    generalize (ss.mergeSort fun x y => decide (x ≤ y)) = l at hmem hll
    have hsl : (strRow l).length = l.length := by simp [strRow]
    refine Wk ?_
    apply sc_loop
    refine ⟨fun k env' σ' => ∃ j, ScanI env l name σ2 k env' σ' j, ⟨l.length, 0, rfl, e1, rfl, rfl, rfl, rfl, rfl, rfl, rfl, rfl, rfl⟩, ?_⟩
    rintro k0 env1 σ3 ⟨j, q0, q1, q3, q10, q12, q13, e16, e17, e15, kk, rfl⟩
    by_cases hlt : (j : Int) < (strRow l).length
    · have hjl : j < l.length := by omega
      have hget : l[j]? = some l[j] := List.getElem?_eq_getElem hjl
      generalize l[j] = x at hget
      have hrow : (strRow l)[j]? = some [.str x] := by simp [strRow, hget]
      have htake : (l.take (j + 1)).contains name = ((l.take j).contains name || x == name) := by
        rw [List.take_add_one, hget, Bool.eq_iff_iff, List.contains_iff_mem, List.mem_append, Bool.or_eq_true, List.contains_iff_mem, Option.toList_some, List.mem_singleton, beq_iff_eq]
        exact or_congr Iff.rfl eq_comm
      cases hc : (l.take j).contains name with
      | true =>
        rw [hc] at e15 htake
        refine Wk ?_
        unfold vb5_2
        refine Wk ?_
        refine ⟨k0 - 1, by omega, j + 1, q0, q1, q3, q10, q12, q13, e16, rfl, ?_, by omega, rfl⟩
        rw [htake]; rfl
      | false =>
        rw [hc] at e15 htake
        refine Wk ?_
        unfold vb5_2
        refine Wk ?_
        apply st_indexS
        (first | exact rfl | assumption)
        (first | exact rfl | assumption)
        exact hrow
        exact rfl
        refine Wk ?_
        refine ⟨k0 - 1, by omega, j + 1, q0, q1, q3, q10, q12, q13, e16, rfl, ?_, by omega, rfl⟩
        rw [htake]; rfl
    · have hj : j = l.length := by omega
      rw [hj, List.take_length] at e15
      obtain ⟨n0', n1', n2'⟩ := kn
      have hcome : l.contains name = decide (left = 1) := by
        rw [Bool.eq_iff_iff, List.contains_iff_mem, hmem, due_mem tm.nodup, n2', decide_eq_true_eq]
        by_cases hl : left = 0
        · rw [if_pos hl]; simp; omega
        · rw [if_neg hl]; simp
      have hkn : Knows name (if left = 0 then 0 else left - 1) (mtick M) := by
        refine ⟨by split <;> omega, by split <;> omega, ?_⟩
        rw [mget_tick tm.nodup t2.nodup, n2']
        by_cases hl : left = 0
        · rw [if_pos hl, if_pos hl]; rfl
        · rw [if_neg hl, if_neg hl, Option.bind_some]
          by_cases hl1 : left = 1
          · rw [if_pos hl1, if_pos (by omega)]
          · rw [if_neg hl1, if_neg (by omega)]
      rw [e12] at q12
      refine Wk ?_
      refine tC1 (left := left) (come := l.contains name) q12 e15 n0' n1' hcome fun env2 a0 a1 a3 a10 a12 a13 => ?_
      refine Wk ?_
      refine tC2 (name := name) (left := if left = 0 then 0 else left - 1) (a1.trans q1) (a10.trans (q10.trans e10)) a12 t2 hkn fun env3 σ4 b0 b1 b3 b10 b12 b13 kp => ?_
      exact k env3 σ4 (mtick M) _ (b0.trans (a0.trans q0)) (b1.trans ((a1.trans q1).trans e1.symm)) (b3.trans (a3.trans q3)) (b10.trans (a10.trans q10)) (b13.trans (a13.trans q13)) (b12.trans a12) (k2.trans (kp.mono (by simp))) (t2.keep kp) (tick_len ml) hkn
  · have hkn : Knows name left (mplay d s n M) := by
      obtain ⟨n0', n1', n2'⟩ := kn
      exact ⟨n0', n1', by rw [mget_play h3 hd5 hs]; exact n2'⟩
    refine Wk ?_
    apply st_callP (vs := [.ptr bid 1 0, .agg [.int .i64 d, .str s, .int .i64 n]])
    exact rfl
    exact rfl
    refine tPlay tm ml hn fun σ2 k2 t2 => ?_
    refine Wk ?_
    refine tC2 (name := name) (left := left) e1 e10 e12 t2 hkn fun env3 σ4 b0 b1 b3 b10 b12 b13 kp => ?_
    exact k env3 σ4 _ _ b0 b1 b3 b10 b13 (b12.trans e12) (k2.trans (kp.mono (by simp))) (t2.keep kp) (mplay_len ml) hkn
end Go.Proofs.Ytdkjcadffhnjgaa
