/- Sessions: heard. -/
import Derived.Test.YtocnjlfnapefjaaGreatDoorT9
namespace Go.Proofs.YtocnjlfnapefjaaGreatDoor
open Go Go.V
set_option maxRecDepth 10000
set_option linter.unusedVariables false
attribute [local irreducible] vBuild vCallV
@[reducible] def Ses.sUp (S : Ses) (v : Bool) : Ses := { S with up := v }
def heardF (m : Ms) (S : Ses) : Ses :=
  if m.kind = 3 then fallF nt0 S
  else if S.st = 2 ∧ m.kind = 1 then openedF m.op S
  else if S.st = 3 ∧ m.kind = 4 then ((S.sSt 4).sUp true).sM (tput holdN S.hold S.m)
  else if S.st = 4 ∧ (m.kind = 4 ∨ m.kind = 2 ∨ m.kind = 5) then S.sM (tput holdN S.hold S.m)
  else fallF ⟨5, S.st - 1, []⟩ S
set_option maxHeartbeats 8000000 in
theorem tHeard {σ : VHeap} {O : List Nat} {b : Nat} {S : Ses} {m : Ms} {Post : KP} (h : At σ O b S) (hm : okMs m) (hs : 0 ≤ S.st ∧ S.st ≤ 4) (hl : S.send.length ≤ 999) (lf : S.p.fams.length * 16 ≤ 140737488355328) (lg : S.st = 2 → S.fams = []) (lo : m.op.fams.length ≤ 140737488355328) (hh : 0 ≤ S.p.hold ∧ S.p.hold ≤ 1000000) (hh2 : S.hold ≤ 9223372036854775807) (ho1 : -9223372036854775808 ≤ m.op.hold ∧ m.op.hold ≤ 9223372036854775807)
    (k : ∀ σ' O', Stp σ O σ' O' → At σ' O' b (heardF m S) → Post (.tup []) σ') : T Tryz.prog 30 [.ptr b 1 0, .agg (msC m)] σ Post := by
  obtain ⟨tm, mid, fv, sv, h⟩ := h
  have hc := h.okc
  have box := h.box
  have bl := vGet_lt box
  have ml := msC_len hm
  have msc := msC_sc (x := m)
  have ma := msC_all hm
  have mg1 := msC_gkind hm
  have mg2 := msC_gop hm
  have g1 : cut (scC (S.c tm fv sv)) 21 none = some (.int .i64 S.st) := scC_gst hc
  have a1 := h.big [(1, VObj.box (msC m) false)]
  refine T30 ?_
  by_cases k3 : m.kind = 3
  · have e : heardF m S = fallF nt0 S := if_pos k3
    refine W ?_
    refine ct (vs := [.ptr b 1 0, .agg (ntC nt0)]) ?_ (hi := .pl inferInstance (.agg (.flat rfl) (.nil _))) (hv := rfl)
    refine tFall ⟨_, _, _, _, a1⟩ (by omega) (by simp [nt0]) fun σ2 O2 st2 at2 => ?_
    refine W ?_
    refine ret_n (v := .tup []) (.inr rfl) rfl rfl inferInstance ?_
    exact k _ O2 ((Stp.big _ _ _).trans st2) (e ▸ at2)
  by_cases s2 : S.st = 2
  · by_cases k1 : m.kind = 1
    · skip
      refine W ?_
      refine ct ?_
      refine tOpened ⟨_, _, _, _, a1⟩ hm.op hl lf (lg s2) lo hh ho1 fun σ2 O2 st2 at2 => ?_
      refine W ?_
      refine ret_n (v := .tup []) (.inr rfl) rfl rfl inferInstance ?_
      have e : heardF m S = openedF m.op S := by unfold heardF; simp [*]
      exact k _ O2 ((Stp.big _ _ _).trans st2) (e ▸ at2)
    · have s3 : ¬ S.st = 3 := by omega
      have s4 : ¬ S.st = 4 := by omega
      refine W ?_
      refine ct (vs := [.ptr b 1 0, .agg (ntC ⟨5, S.st - 1, []⟩)]) ?_ (hi := .pl inferInstance (.agg (.flat rfl) (.nil _))) (hv := rfl)
      refine tFall ⟨_, _, _, _, a1⟩ (by omega) (by simp) fun σ2 O2 st2 at2 => ?_
      refine W ?_
      refine ret_n (v := .tup []) (.inr rfl) rfl rfl inferInstance ?_
      have e : heardF m S = fallF ⟨5, S.st - 1, []⟩ S := by unfold heardF; simp [*]
      exact k _ O2 ((Stp.big _ _ _).trans st2) (e ▸ at2)
  by_cases s3 : S.st = 3
  · by_cases k4 : m.kind = 4
    · have k1 : ¬ m.kind = 1 := by omega
      have w1 : splice (scC (S.c tm fv sv)) 21 [.int .i64 4] = scC ((S.sSt 4).c tm fv sv) := scC_sst hc (v := 4)
      have w2 : splice (scC ((S.sSt 4).c tm fv sv)) 46 [.bool true] = scC (((S.sSt 4).sUp true).c tm fv sv) := scC_sup (x := (S.sSt 4).c tm fv sv) ⟨h.pk, h.ok⟩ (v := true)
      have l0 := scC_len hc
      have l1 : (scC ((S.sSt 4).c tm fv sv)).length = 48 := scC_len ⟨h.pk, h.ok⟩
      have b1 := h.put (S.sSt 4) fv sv rfl h.pk h.ok h.fr h.sr h.sk h.fn
      have b2 := b1.put ((S.sSt 4).sUp true) fv sv rfl h.pk h.ok b1.fr b1.sr h.sk h.fn
      have b3 := b2.big [(1, VObj.box (msC m) false)]
      have gtm : cut (scC (((S.sSt 4).sUp true).c tm fv sv)) 23 none = some (.ptr tm 1 0) := scC_gtm b2.okc
      have ghd : cut (scC (((S.sSt 4).sUp true).c tm fv sv)) 41 none = some (.int .i64 S.hold) := scC_ghold b2.okc
      have hn3 : ((σ.set b (1, VObj.box (scC ((S.sSt 4).c tm fv sv)) false)).set b (1, VObj.box (scC (((S.sSt 4).sUp true).c tm fv sv)) false)).length = σ.length := by rw [List.length_set, List.length_set]
      refine W ?_
      refine sv_0 ?_
      refine ct ?_
      refine tStart (name := holdN) b3.t hh2 fun σ4 K4 t4 => ?_
      have b4 := b3.tmr K4 t4
      have st4 := b3.stp K4
      refine st_end ⟨trivial, sv_nil ?_⟩
      refine W ?_
      refine ret_n (v := .tup []) (.inr rfl) rfl rfl inferInstance ?_
      have e : heardF m S = ((S.sSt 4).sUp true).sM (tput holdN S.hold S.m) := by unfold heardF; simp [*]
      refine k _ O (((h.stpB _).trans (b1.stpB _)).trans ((Stp.big _ _ _).trans st4)) ?_
      rw [e]
      exact ⟨_, _, _, _, b4⟩
    · have s4 : ¬ S.st = 4 := by omega
      refine W ?_
      refine ct (vs := [.ptr b 1 0, .agg (ntC ⟨5, S.st - 1, []⟩)]) ?_ (hi := .pl inferInstance (.agg (.flat rfl) (.nil _))) (hv := rfl)
      refine tFall ⟨_, _, _, _, a1⟩ (by omega) (by simp) fun σ2 O2 st2 at2 => ?_
      refine W ?_
      refine ret_n (v := .tup []) (.inr rfl) rfl rfl inferInstance ?_
      have e : heardF m S = fallF ⟨5, S.st - 1, []⟩ S := by unfold heardF; simp [*]
      exact k _ O2 ((Stp.big _ _ _).trans st2) (e ▸ at2)
  by_cases s4 : S.st = 4
  · by_cases k4 : m.kind = 4
    · skip
      have gtm : cut (scC (S.c tm fv sv)) 23 none = some (.ptr tm 1 0) := scC_gtm hc
      have ghd : cut (scC (S.c tm fv sv)) 41 none = some (.int .i64 S.hold) := scC_ghold hc
      refine W ?_
      refine sv_0 ?_
      refine ct ?_
      refine tStart (name := holdN) a1.t hh2 fun σ4 K4 t4 => ?_
      have b4 := a1.tmr K4 t4
      have st4 := a1.stp K4
      refine st_end ⟨trivial, sv_nil ?_⟩
      refine W ?_
      refine ret_n (v := .tup []) (.inr rfl) rfl rfl inferInstance ?_
      have e : heardF m S = S.sM (tput holdN S.hold S.m) := by unfold heardF; simp [*]
      refine k _ O ((Stp.big _ _ _).trans st4) ?_
      rw [e]
      exact ⟨_, _, _, _, b4⟩
    by_cases k2 : m.kind = 2
    · skip
      have gtm : cut (scC (S.c tm fv sv)) 23 none = some (.ptr tm 1 0) := scC_gtm hc
      have ghd : cut (scC (S.c tm fv sv)) 41 none = some (.int .i64 S.hold) := scC_ghold hc
      refine W ?_
      refine sv_0 ?_
      refine ct ?_
      refine tStart (name := holdN) a1.t hh2 fun σ4 K4 t4 => ?_
      have b4 := a1.tmr K4 t4
      have st4 := a1.stp K4
      refine st_end ⟨trivial, sv_nil ?_⟩
      refine W ?_
      refine ret_n (v := .tup []) (.inr rfl) rfl rfl inferInstance ?_
      have e : heardF m S = S.sM (tput holdN S.hold S.m) := by unfold heardF; simp [*]
      refine k _ O ((Stp.big _ _ _).trans st4) ?_
      rw [e]
      exact ⟨_, _, _, _, b4⟩
    by_cases k5 : m.kind = 5
    · skip
      have gtm : cut (scC (S.c tm fv sv)) 23 none = some (.ptr tm 1 0) := scC_gtm hc
      have ghd : cut (scC (S.c tm fv sv)) 41 none = some (.int .i64 S.hold) := scC_ghold hc
      refine W ?_
      refine sv_0 ?_
      refine ct ?_
      refine tStart (name := holdN) a1.t hh2 fun σ4 K4 t4 => ?_
      have b4 := a1.tmr K4 t4
      have st4 := a1.stp K4
      refine st_end ⟨trivial, sv_nil ?_⟩
      refine W ?_
      refine ret_n (v := .tup []) (.inr rfl) rfl rfl inferInstance ?_
      have e : heardF m S = S.sM (tput holdN S.hold S.m) := by unfold heardF; simp [*]
      refine k _ O ((Stp.big _ _ _).trans st4) ?_
      rw [e]
      exact ⟨_, _, _, _, b4⟩
    · skip
      refine W ?_
      refine ct (vs := [.ptr b 1 0, .agg (ntC ⟨5, S.st - 1, []⟩)]) ?_ (hi := .pl inferInstance (.agg (.flat rfl) (.nil _))) (hv := rfl)
      refine tFall ⟨_, _, _, _, a1⟩ (by omega) (by simp) fun σ2 O2 st2 at2 => ?_
      refine W ?_
      refine ret_n (v := .tup []) (.inr rfl) rfl rfl inferInstance ?_
      have e : heardF m S = fallF ⟨5, S.st - 1, []⟩ S := by unfold heardF; simp [*]
      exact k _ O2 ((Stp.big _ _ _).trans st2) (e ▸ at2)
  · skip
    refine W ?_
    refine ct (vs := [.ptr b 1 0, .agg (ntC ⟨5, S.st - 1, []⟩)]) ?_ (hi := .pl inferInstance (.agg (.flat rfl) (.nil _))) (hv := rfl)
    refine tFall ⟨_, _, _, _, a1⟩ (by omega) (by simp) fun σ2 O2 st2 at2 => ?_
    refine W ?_
    refine ret_n (v := .tup []) (.inr rfl) rfl rfl inferInstance ?_
    have e : heardF m S = fallF ⟨5, S.st - 1, []⟩ S := by unfold heardF; simp [*]
    exact k _ O2 ((Stp.big _ _ _).trans st2) (e ▸ at2)
end Go.Proofs.YtocnjlfnapefjaaGreatDoor
