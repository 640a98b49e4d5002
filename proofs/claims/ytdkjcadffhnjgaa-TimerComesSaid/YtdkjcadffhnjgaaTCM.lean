/- TimerComes. -/
import Derived.Test.YtdkjcadffhnjgaaTCL
namespace Go.Proofs.Ytdkjcadffhnjgaa
open Go Go.V
set_option maxRecDepth 10000

theorem tC10 {n0 : Nat} {σ : VHeap} {env : Env} {bid mid mg : Nat} {M : TM} {name : List UInt8} {ticks : Int} {acts more : List (List PV)} {Post : KP} (k : ∀ σ' : VHeap, Post (.bool true) σ') (hmore : ∀ e, e ∈ more → IsAct e) (hmlen : more.length ≤ 9223372036854775807)
    (e0 : env 0 = .sl acts) (e1 : env 1 = .str name) (e2 : env 2 = .int .i64 ticks) (e3 : env 3 = .sl more) (e10 : env 10 = .ptr bid 1 0) (ht : ticks ≤ 9223372036854775807) (tm : Tm σ bid 1 mid mg M) (ml : M.length ≤ 32) (mla : M.length ≤ acts.length)
    (al : ∃ x, σ[n0 + 0]? = some x) (hb : n0 + 0 ≠ bid) (hm : n0 + 0 ≠ mid) : vrun Try.prog n0 vb5_10 env σ (vend vf5 Post) := by
  unfold vb5_10
  refine Wk ?_
  apply st_callP (vs := [.ptr bid 1 0, .str name, .int .i64 ticks])
  exact rfl
  exact rfl
  refine tStart tm ht fun σ2 k2 t2 => ?_
  by_cases h1 : ticks < 1
  · have hr : startR name ticks M = 1 := by simp [startR, h1]
    rw [hr]
    refine Wk ?_
    exact se_retP (v := .bool true) rfl rfl rfl (k _)
  · by_cases hf : mhas name M = false ∧ 32 ≤ M.length
    · have hr : startR name ticks M = 6 := by unfold startR; rw [if_neg h1, if_pos hf]
      have hacts : (acts.length : Int) ≥ 32 := by have := hf.2; omega
      rw [hr]
      refine Wk ?_
      exact se_retP (v := .bool true) rfl rfl rfl (k _)
    · have hr : startR name ticks M = 0 := by unfold startR; rw [if_neg h1, if_neg hf]
      rw [hr] at t2 ⊢
      rw [if_pos rfl] at t2
      have hkn : Knows name ticks (mput name ticks M) := by
        refine ⟨by omega, ht, ?_⟩
        rw [if_neg (by omega)]
        unfold mget mput
        rw [List.find?_cons_of_pos (by simp)]; rfl
      obtain ⟨x, al⟩ := al
      refine Wk ?_
      exact tC9 k hmore hmlen e1 e2 e3 e10 t2 (mput_len hr ml) hkn ⟨x, k2.raw al (by simpa using hm)⟩ hb hm

structure L1I (n0 : Nat) (acts more : List (List PV)) (bid mid mg : Nat) (name : List UInt8) (ticks : Int) (k : Nat) (env : Env) (σ' : VHeap) (i : Nat) (M : TM) : Prop where
  e0 : env 0 = .sl acts
  e1 : env 1 = .str name
  e2 : env 2 = .int .i64 ticks
  e3 : env 3 = .sl more
  e10 : env 10 = .ptr bid 1 0
  e11 : env 11 = .int .i64 i
  kk : k + i = acts.length
  tm : Tm σ' bid 1 mid mg M
  ml : M.length ≤ 32
  mi : M.length ≤ i
  al : ∃ x, σ'[n0 + 0]? = some x

theorem tComes {σ : VHeap} {acts more : List (List PV)} {name : List UInt8} {ticks : Int} {Post : KP} (ha : ∀ e, e ∈ acts → IsAct e) (hl : acts.length ≤ 9223372036854775807) (hmore : ∀ e, e ∈ more → IsAct e) (hmlen : more.length ≤ 9223372036854775807)
    (ht : ticks ≤ 9223372036854775807) (k : ∀ σ' : VHeap, Post (.bool true) σ') : T Try.prog 5 [.sl acts, .str name, .int .i64 ticks, .sl more] σ Post := by
  refine T5 (sf (by show 4 ≤ _; decide) ?_)
  show vrun _ _ vb5 _ (σ ++ vdead 1) _
  unfold vb5
  refine Wk ?_
  apply st_callP (vs := []) rfl rfl
  refine tSmall fun σ1 k1 => ?_
  refine Wk ?_
  apply st_callP (vs := []) rfl rfl
  refine tNew fun σ2 bid mid mg k2 hbid hmid t2 => ?_
  have hbx := t2.box
  have hlen1 := k1.1
  rw [List.length_append, vdead_len] at hlen1
  have hb : σ.length + 0 ≠ bid := by omega
  have hm : σ.length + 0 ≠ mid := by omega
  have al0 : σ2[σ.length + 0]? = some (0, .dead) := (k1.trans k2).raw (hraw_dead (by decide)) (by simp)
  refine Wk ?_
  unfold vb5_11
  refine Wk ?_
  apply sc_loop
  refine ⟨fun k env σ' => ∃ i M, L1I σ.length acts more bid mid mg name ticks k env σ' i M, ⟨acts.length, 0, [], rfl, rfl, rfl, rfl, rfl, rfl, rfl, t2, by simp, by simp, ⟨_, al0⟩⟩, ?_⟩
  clear k1 k2 t2 hbx al0 hlen1
  rintro k0 env σ3 ⟨i, M, e0, e1, e2, e3, e10, e11, kk, tm, ml, mi, ⟨x, al⟩⟩
  by_cases hlt : (i : Int) < acts.length
  · by_cases h60 : (i : Int) < 60
    · have hil : i < acts.length := by omega
      have hget : acts[i]? = some acts[i] := List.getElem?_eq_getElem hil
      obtain ⟨d, s, n, he, hn⟩ := ha _ (List.getElem_mem hil)
      rw [he] at hget
      refine Wk ?_
      unfold vb5_1
      refine Wk ?_
      apply st_indexS
      (first | exact rfl | assumption)
      (first | exact rfl | assumption)
      exact hget
      exact rfl
      refine Wk ?_
      apply st_callP (vs := [.ptr bid 1 0, .agg [.int .i64 d, .str s, .int .i64 n]])
      exact rfl
      exact rfl
      refine tPlay tm ml hn fun σ4 k4 t4 => ?_
      have hle := mplay_le (d := d) (n := n) (s := s) (M := M)
      refine Wk ?_
      exact ⟨k0 - 1, by omega, i + 1, _, e0, e1, e2, e3, e10, rfl, by omega, t4, mplay_len ml, by omega, ⟨x, k4.raw al (by simpa using hm)⟩⟩
    · refine Wk ?_
      exact tC10 k hmore hmlen e0 e1 e2 e3 e10 ht tm ml (by omega) ⟨x, al⟩ hb hm
  · refine Wk ?_
    exact tC10 k hmore hmlen e0 e1 e2 e3 e10 ht tm ml (by omega) ⟨x, al⟩ hb hm
end Go.Proofs.Ytdkjcadffhnjgaa
