/- TimerComes: the loops. -/
import Derived.Test.YtdkjcadffhnjgaaTC
namespace Go.Proofs.Ytdkjcadffhnjgaa
open Go Go.V
set_option maxRecDepth 10000

theorem Tm.set {σ : VHeap} {bid bg mid mg i : Nat} {M : TM} {x : Nat × VObj} (h : Tm σ bid bg mid mg M) (h1 : i ≠ bid) (h2 : i ≠ mid) : Tm (σ.set i x) bid bg mid mg M :=
  ⟨h.ne, hget_ne h1 h.box, let ⟨ts, c, k1, k2⟩ := h.map; ⟨ts, c, hget_ne h2 k1, k2⟩⟩

structure L2I (n0 : Nat) (more : List (List PV)) (bid mid mg : Nat) (name : List UInt8) (k : Nat) (env : Env) (σ' : VHeap) (i : Nat) (M : TM) (left : Int) : Prop where
  e1 : env 1 = .str name
  e3 : env 3 = .sl more
  e10 : env 10 = .ptr bid 1 0
  e12 : env 12 = .int .i64 left
  e13 : env 13 = .int .i64 i
  kk : k + i = more.length
  tm : Tm σ' bid 1 mid mg M
  ml : M.length ≤ 32
  kn : Knows name left M
  al : ∃ x, σ'[n0 + 0]? = some x

theorem tC9 {n0 : Nat} {σ : VHeap} {env : Env} {bid mid mg : Nat} {M : TM} {name : List UInt8} {ticks : Int} {more : List (List PV)} {Post : KP} (k : ∀ σ' : VHeap, Post (.bool true) σ') (hmore : ∀ e, e ∈ more → IsAct e) (hmlen : more.length ≤ 9223372036854775807)
    (e1 : env 1 = .str name) (e2 : env 2 = .int .i64 ticks) (e3 : env 3 = .sl more) (e10 : env 10 = .ptr bid 1 0) (tm : Tm σ bid 1 mid mg M) (ml : M.length ≤ 32) (kn : Knows name ticks M) (al : ∃ x, σ[n0 + 0]? = some x) (hb : n0 + 0 ≠ bid) (hm : n0 + 0 ≠ mid) :
    vrun Try.prog n0 vb5_9 env σ (vend vf5 Post) := by
  unfold vb5_9
  refine Wk ?_
  apply sc_loop
  refine ⟨fun k env' σ' => ∃ i M left, L2I n0 more bid mid mg name k env' σ' i M left, ⟨more.length, 0, M, ticks, e1, e3, e10, rfl, rfl, rfl, tm, ml, kn, al⟩, ?_⟩
  clear tm ml kn al e1 e2 e3 e10
  rintro k0 env σ3 ⟨i, M, left, e1, e3, e10, e12, e13, kk, tm, ml, kn, ⟨⟨gx, ox⟩, al⟩⟩
  have hal := (List.getElem?_eq_some_iff.1 al).1
  by_cases hlt : (i : Int) < more.length
  · by_cases h100 : (i : Int) < 100
    · have hil : i < more.length := by omega
      have hget : more[i]? = some more[i] := List.getElem?_eq_getElem hil
      obtain ⟨d, s, n, he, hn⟩ := hmore _ (List.getElem_mem hil)
      rw [he] at hget
      refine Wk ?_
      unfold vb5_7
      refine Wk ?_
      apply st_indexS
      (first | exact rfl | assumption)
      (first | exact rfl | assumption)
      exact hget
      exact rfl
      by_cases hs : s = name
      · have hsb : sbin .eql s name = some (.bool true) := by simp [sbin, hs]
        by_cases hd2 : d < 2
        · refine Wk ?_
          unfold vb5_6
          refine Wk ?_
          exact ⟨k0 - 1, by omega, i + 1, M, left, e1, e3, e10, e12, rfl, by omega, (tm.set hb hm).set hb hm, ml, kn, ⟨_, by (first | assumption | ((repeat (with_reducible refine hraw_ne (by omega) ?_)); first | assumption | exact hraw_dead (by decide) | (refine hraw_eq (by first | omega | (simp only [List.length_set, List.length_append, vdead_len]; omega)))))⟩⟩
        by_cases hd5 : d = 5
        · refine Wk ?_
          unfold vb5_6
          refine Wk ?_
          exact ⟨k0 - 1, by omega, i + 1, M, left, e1, e3, e10, e12, rfl, by omega, (tm.set hb hm).set hb hm, ml, kn, ⟨_, by (first | assumption | ((repeat (with_reducible refine hraw_ne (by omega) ?_)); first | assumption | exact hraw_dead (by decide) | (refine hraw_eq (by first | omega | (simp only [List.length_set, List.length_append, vdead_len]; omega)))))⟩⟩
        · refine Wk ?_
          refine tC5 (g := gx + 1) (d := d) (s := s) (n := n) e1 e10 e12 rfl (by (first | assumption | ((repeat (with_reducible refine hget_ne (by omega) ?_)); first | assumption | (refine hget_eq (by first | omega | (simp only [List.length_set, List.length_append, vdead_len]; omega)))))) ((tm.set hb hm).set hb hm) ml kn hd5 (fun _ => hd2) hn fun env' σ4 M' left' b0 b1 b3 b10 b13 b12 kp t4 ml' kn' => ?_
          refine Wk ?_
          unfold vb5_6
          have b13' := b13.trans e13
          refine Wk ?_
          exact ⟨k0 - 1, by omega, i + 1, M', left', b1.trans e1, b3.trans e3, b10.trans e10, b12, rfl, by omega, t4, ml', kn', ⟨_, kp.raw (x := (gx + 1, .box [.int .i64 d, .str s, .int .i64 n] false)) (by (first | assumption | ((repeat (with_reducible refine hraw_ne (by omega) ?_)); first | assumption | exact hraw_dead (by decide) | (refine hraw_eq (by first | omega | (simp only [List.length_set, List.length_append, vdead_len]; omega)))))) (by simpa using hm)⟩⟩
      · have hsb : sbin .eql s name = some (.bool false) := by simp [sbin, hs]
        by_cases hd5 : d = 5
        · refine Wk ?_
          unfold vb5_6
          refine Wk ?_
          exact ⟨k0 - 1, by omega, i + 1, M, left, e1, e3, e10, e12, rfl, by omega, (tm.set hb hm).set hb hm, ml, kn, ⟨_, by (first | assumption | ((repeat (with_reducible refine hraw_ne (by omega) ?_)); first | assumption | exact hraw_dead (by decide) | (refine hraw_eq (by first | omega | (simp only [List.length_set, List.length_append, vdead_len]; omega)))))⟩⟩
        · refine Wk ?_
          refine tC5 (g := gx + 1) (d := d) (s := s) (n := n) e1 e10 e12 rfl (by (first | assumption | ((repeat (with_reducible refine hget_ne (by omega) ?_)); first | assumption | (refine hget_eq (by first | omega | (simp only [List.length_set, List.length_append, vdead_len]; omega)))))) ((tm.set hb hm).set hb hm) ml kn hd5 (fun e => (hs e).elim) hn fun env' σ4 M' left' b0 b1 b3 b10 b13 b12 kp t4 ml' kn' => ?_
          refine Wk ?_
          unfold vb5_6
          have b13' := b13.trans e13
          refine Wk ?_
          exact ⟨k0 - 1, by omega, i + 1, M', left', b1.trans e1, b3.trans e3, b10.trans e10, b12, rfl, by omega, t4, ml', kn', ⟨_, kp.raw (x := (gx + 1, .box [.int .i64 d, .str s, .int .i64 n] false)) (by (first | assumption | ((repeat (with_reducible refine hraw_ne (by omega) ?_)); first | assumption | exact hraw_dead (by decide) | (refine hraw_eq (by first | omega | (simp only [List.length_set, List.length_append, vdead_len]; omega)))))) (by simpa using hm)⟩⟩
    · refine Wk ?_
      unfold vb5_8
      refine Wk ?_
      exact se_retP (v := .bool true) rfl rfl rfl (k _)
  · refine Wk ?_
    unfold vb5_8
    refine Wk ?_
    exact se_retP (v := .bool true) rfl rfl rfl (k _)
end Go.Proofs.Ytdkjcadffhnjgaa
