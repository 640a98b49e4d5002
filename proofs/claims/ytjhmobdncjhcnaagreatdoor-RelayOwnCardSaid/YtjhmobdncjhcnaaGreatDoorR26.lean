/- The law RelayOwn as a triple. -/
import Derived.Test.YtjhmobdncjhcnaaGreatDoorR14
import Derived.Test.YtjhmobdncjhcnaaGreatDoorHM
namespace Go.Proofs.YtjhmobdncjhcnaaGreatDoor
open Go Go.V
set_option maxRecDepth 10000
set_option linter.unusedVariables false
attribute [local irreducible] vBuild vCallV
theorem own_fill {r : Rt} {i : Ad} (h : okRt r) (hi : okD i) : splice [PV.int .i64 0, .int .i64 0, .int .i64 0, D.o, D.o, D.o, D.o, D.o, D.o, D.o, D.o, .int .i64 0, .int .i64 0, D.o, D.o, D.o, D.o, D.o, D.o, D.o, D.o, D.o, D.o, D.o, D.o, D.o, D.o, D.o, D.o, .int .i64 0, D.o, D.o, D.o, D.o, D.o, D.o, D.o, D.o, D.o, D.o, D.o, D.o, D.o, D.o, D.o, D.o, .int .i64 0, D.o, D.o, D.o, D.o, D.o, D.o, D.o, D.o, D.o, D.o, D.o, D.o, D.o, D.o, D.o, D.o, .str [], D.o, D.o, D.o, D.o, D.o, D.o, D.o, D.o, .int .i64 0, D.o, D.o, D.o, D.o, D.o, D.o, D.o, D.o, D.o, D.o, D.o, D.o, D.o, D.o, D.o, D.o, .int .i64 0, .int .i64 0, .int .i64 0, D.o, D.o, D.o, D.o, D.o, D.o, D.o, D.o, D.o, D.o, D.o, D.o, D.o, D.o, D.o, D.o, .int .i64 0, .nils, .int .i64 0, .int .i64 0, .int .i64 0, D.o, D.o, D.o, D.o, D.o, D.o, D.o, D.o, D.o, D.o, D.o, D.o, D.o, D.o, D.o, D.o, .nils, .nils, .nils, .int .i64 0, .int .i64 0, D.o, D.o, D.o, D.o, D.o, D.o, D.o, D.o, D.o, D.o, D.o, D.o, D.o, D.o, D.o, D.o] 0 (rtC r) = rtC r ++ [PV.int .i64 0, .int .i64 0, D.o, D.o, D.o, D.o, D.o, D.o, D.o, D.o, D.o, D.o, D.o, D.o, D.o, D.o, D.o, D.o] ∧ splice (rtC r ++ [PV.int .i64 0, .int .i64 0, D.o, D.o, D.o, D.o, D.o, D.o, D.o, D.o, D.o, D.o, D.o, D.o, D.o, D.o, D.o, D.o]) 133 (adc i) = chC ⟨r, 0, i⟩ := by
  constructor
  · show splice ([PV.int .i64 0, .int .i64 0, .int .i64 0, D.o, D.o, D.o, D.o, D.o, D.o, D.o, D.o, .int .i64 0, .int .i64 0, D.o, D.o, D.o, D.o, D.o, D.o, D.o, D.o, D.o, D.o, D.o, D.o, D.o, D.o, D.o, D.o, .int .i64 0, D.o, D.o, D.o, D.o, D.o, D.o, D.o, D.o, D.o, D.o, D.o, D.o, D.o, D.o, D.o, D.o, .int .i64 0, D.o, D.o, D.o, D.o, D.o, D.o, D.o, D.o, D.o, D.o, D.o, D.o, D.o, D.o, D.o, D.o, .str [], D.o, D.o, D.o, D.o, D.o, D.o, D.o, D.o, .int .i64 0, D.o, D.o, D.o, D.o, D.o, D.o, D.o, D.o, D.o, D.o, D.o, D.o, D.o, D.o, D.o, D.o, .int .i64 0, .int .i64 0, .int .i64 0, D.o, D.o, D.o, D.o, D.o, D.o, D.o, D.o, D.o, D.o, D.o, D.o, D.o, D.o, D.o, D.o, .int .i64 0, .nils, .int .i64 0, .int .i64 0, .int .i64 0, D.o, D.o, D.o, D.o, D.o, D.o, D.o, D.o, D.o, D.o, D.o, D.o, D.o, D.o, D.o, D.o, .nils, .nils, .nils] ++ [PV.int .i64 0, .int .i64 0, D.o, D.o, D.o, D.o, D.o, D.o, D.o, D.o, D.o, D.o, D.o, D.o, D.o, D.o, D.o, D.o]) 0 (rtC r) = _
    exact spl_hd (by rw [rtC_len h]; rfl)
  · refine spl_sk (o := 1) (rtC_len h) rfl ?_
    show splice ([PV.int .i64 0] ++ [.int .i64 0, D.o, D.o, D.o, D.o, D.o, D.o, D.o, D.o, D.o, D.o, D.o, D.o, D.o, D.o, D.o, D.o]) 1 (adc i) = _
    exact spl_sk (n := 1) (o := 0) rfl rfl (spl_hd0 (by rw [adc_len hi]; rfl))
theorem tells_own {r : Rt} {k i o : Ad} {fl : Bool} {fr to peer : Int} (hr : rtR r = true) (hp : ¬ peer = 0) (ho : isA r.att.orig o = false) : tellsF k fl ⟨r, 0, i⟩ fr to peer o = (ownR r, true) := by
  unfold tellsF
  rw [if_neg (by rw [hr, ho]; simp [hp]), if_pos rfl]
theorem right_cmp {r : Rt} (o : okRib r) (ex8 : ∀ e, e ∈ r.att.ex → e.length = 8) (hr : rtR r = true) : okCmp r.att := by
  have p := atR_parts (rtR_at hr)
  have l1 := p.cl
  have l2 := p.path
  have l3 := p.ex
  have l4 := p.tn
  exact ⟨o.ok.att, o.cl, o.tn, ex8, by omega, by omega, by omega, by omega, fun x hx => by have := p.nums x hx; omega⟩
set_option maxHeartbeats 16000000 in
theorem tRelayOwn {r : Rt} {a : Ask} (o : okRib r) (ex8 : ∀ e, e ∈ r.att.ex → e.length = 8) (h : okAsk a) (sm : U Tryz.prog 11 [] (.bool true)) : U Tryz.prog 5 [.agg (rtC r), .agg (askC a)] (.bool true) := by
  intro σ Post hk
  have sc := rtC_sc (x := r)
  have ln := rtC_len o.ok
  have c0 := rtC_all o.ok
  have ks := askC_sc (x := a)
  have kl := askC_len h
  have kc := askC_all h
  have k1 := askC_gcluster h
  have k2 := askC_grefl h
  have k3 := askC_gfr h
  have k4 := askC_gto h
  have k5 := askC_gpeer h
  have k6 := askC_gother h
  have k6s : cut (askC a) 171 none = some (.int .i64 a.other.s) := cut_sk (o := 154) (adc_len h.cluster) rfl (cut_sk (n := 1) (o := 153) rfl rfl (cut_sk (o := 3) (chC_len h.ch) rfl (cut_sk (n := 1) (o := 2) rfl rfl (cut_sk (n := 1) (o := 1) rfl rfl (cut_sk (n := 1) (o := 0) rfl rfl rfl)))))
  have k7 : cut (askC a) 151 (some 17) = some (.agg (adc a.ch.id)) := cut_sk (o := 134) (adc_len h.cluster) rfl (cut_sk (n := 1) (o := 133) rfl rfl ((cut_pre (by rw [chC_len h.ch]; decide)).trans (chC_gid h.ch)))
  have go : cut (rtC r) 112 (some 17) = some (.agg (adc r.att.orig)) := rt_ga (o := 4) o.ok (atC_gorig o.ok.att)
  have gp : cut (rtC r) 111 none = some (.int .i64 r.att.pref) := rt_ga (o := 3) o.ok rfl
  have sp : splice (rtC r) 111 [.int .i64 100] = rtC { r with att := { r.att with pref := 100 } } := rt_sa (o := 3) o.ok (atC_spref o.ok.att (v := 100))
  have asc := adc_sc (a := r.att.orig)
  have al := adc_len o.ok.att.orig
  have bs := adc_sc (a := a.other)
  have bl := adc_len h.other
  have q0 := eqC_ad o.ok.att.orig h.other
  have q1 := eqC_ad o.ok.att.orig ad0_ok
  refine T5 fun hB hA => ?_
  refine W ?_
  refine cu (sm) ?_
  refine W ?_
  refine cu (uName15 o) ?_
  cases hr : rtR r with
  | true =>
    have cm := right_cmp o ex8 hr
    by_cases hpe : a.peer = 0
    · refine W ?_
      exact hk
    · cases h1 : (r.att.orig == a.other : Bool) with
      | true =>
        rw [h1] at q0
        by_cases hs : 0 < a.other.s
        · refine W ?_
          exact hk
        · cases h2 : (r.att.orig == ad0 : Bool) with
          | true =>
            rw [h2] at q1
            have hia : isA r.att.orig a.other = false := by unfold isA; rw [h1, h2]; rfl
            have uT := uTells (k := a.cluster) (o := a.other) (c := ⟨r, 0, a.ch.id⟩) (fl := a.refl) (fr := a.fr) (to := a.to) (peer := a.peer) h.cluster h.other o ex8 h.ch.id
            rw [tells_own hr hpe hia] at uT
            obtain ⟨z1, z2⟩ := own_fill o.ok h.ch.id
            have zl : (rtC r ++ [PV.int .i64 0, .int .i64 0, D.o, D.o, D.o, D.o, D.o, D.o, D.o, D.o, D.o, D.o, D.o, D.o, D.o, D.o, D.o, D.o]).length = 150 := by rw [List.length_append, ln]; rfl
            have il := adc_len h.ch.id
            have isc := adc_sc (a := a.ch.id)
            by_cases pf : r.att.pref = -1
            · have eo : ownR r = { r with att := { r.att with pref := 100 } } := by unfold ownR; rw [if_pos pf]
              rw [eo] at uT
              clear eo
              have r2o : okRt { r with att := { r.att with pref := 100 } } := ⟨o.ok.m, o.ok.u, o.ok.next, ⟨o.ok.att.orig⟩⟩
              have cm2 : okCmp { r.att with pref := 100 } := ⟨⟨o.ok.att.orig⟩, cm.cl, cm.tn, cm.ex8, cm.l1, cm.l2, cm.l3, cm.l4, cm.nums⟩
              have uS := uSameRt r2o r2o cm2 cm2
              rw [sameRt_self] at uS
              have rl2 := rtC_len r2o
              have ra2 := rtC_all r2o
              have rs2 := rtC_sc (x := { r with att := { r.att with pref := 100 } })
              have zz := rtC_any r2o (cs := [PV.int .i64 0, .int .i64 0, .int .i64 0, D.o, D.o, D.o, D.o, D.o, D.o, D.o, D.o, .int .i64 0, .int .i64 0, D.o, D.o, D.o, D.o, D.o, D.o, D.o, D.o, D.o, D.o, D.o, D.o, D.o, D.o, D.o, D.o, .int .i64 0, D.o, D.o, D.o, D.o, D.o, D.o, D.o, D.o, D.o, D.o, D.o, D.o, D.o, D.o, D.o, D.o, .int .i64 0, D.o, D.o, D.o, D.o, D.o, D.o, D.o, D.o, D.o, D.o, D.o, D.o, D.o, D.o, D.o, D.o, .str [], D.o, D.o, D.o, D.o, D.o, D.o, D.o, D.o, .int .i64 0, D.o, D.o, D.o, D.o, D.o, D.o, D.o, D.o, D.o, D.o, D.o, D.o, D.o, D.o, D.o, D.o, .int .i64 0, .int .i64 0, .int .i64 0, D.o, D.o, D.o, D.o, D.o, D.o, D.o, D.o, D.o, D.o, D.o, D.o, D.o, D.o, D.o, D.o, .int .i64 0, .nils, .int .i64 0, .int .i64 0, .int .i64 0, D.o, D.o, D.o, D.o, D.o, D.o, D.o, D.o, D.o, D.o, D.o, D.o, D.o, D.o, D.o, D.o, .nils, .nils, .nils]) rfl
              refine W ?_
              refine cu (uT) ?_
              refine W ?_
              refine cu (uS) ?_
              refine W ?_
              exact hk
            · have eo : ownR r = r := by unfold ownR; rw [if_neg pf]
              rw [eo] at uT
              clear eo
              have uS := uSameRt o.ok o.ok cm cm
              rw [sameRt_self] at uS
              have zz := rtC_any o.ok (cs := [PV.int .i64 0, .int .i64 0, .int .i64 0, D.o, D.o, D.o, D.o, D.o, D.o, D.o, D.o, .int .i64 0, .int .i64 0, D.o, D.o, D.o, D.o, D.o, D.o, D.o, D.o, D.o, D.o, D.o, D.o, D.o, D.o, D.o, D.o, .int .i64 0, D.o, D.o, D.o, D.o, D.o, D.o, D.o, D.o, D.o, D.o, D.o, D.o, D.o, D.o, D.o, D.o, .int .i64 0, D.o, D.o, D.o, D.o, D.o, D.o, D.o, D.o, D.o, D.o, D.o, D.o, D.o, D.o, D.o, D.o, .str [], D.o, D.o, D.o, D.o, D.o, D.o, D.o, D.o, .int .i64 0, D.o, D.o, D.o, D.o, D.o, D.o, D.o, D.o, D.o, D.o, D.o, D.o, D.o, D.o, D.o, D.o, .int .i64 0, .int .i64 0, .int .i64 0, D.o, D.o, D.o, D.o, D.o, D.o, D.o, D.o, D.o, D.o, D.o, D.o, D.o, D.o, D.o, D.o, .int .i64 0, .nils, .int .i64 0, .int .i64 0, .int .i64 0, D.o, D.o, D.o, D.o, D.o, D.o, D.o, D.o, D.o, D.o, D.o, D.o, D.o, D.o, D.o, D.o, .nils, .nils, .nils]) rfl
              refine W ?_
              refine cu (uT) ?_
              refine W ?_
              refine cu (uS) ?_
              refine W ?_
              exact hk
          | false =>
            rw [h2] at q1
            refine W ?_
            exact hk
      | false =>
        rw [h1] at q0
        have hia : isA r.att.orig a.other = false := by unfold isA; rw [h1]; rfl
        have uT := uTells (k := a.cluster) (o := a.other) (c := ⟨r, 0, a.ch.id⟩) (fl := a.refl) (fr := a.fr) (to := a.to) (peer := a.peer) h.cluster h.other o ex8 h.ch.id
        rw [tells_own hr hpe hia] at uT
        obtain ⟨z1, z2⟩ := own_fill o.ok h.ch.id
        have zl : (rtC r ++ [PV.int .i64 0, .int .i64 0, D.o, D.o, D.o, D.o, D.o, D.o, D.o, D.o, D.o, D.o, D.o, D.o, D.o, D.o, D.o, D.o]).length = 150 := by rw [List.length_append, ln]; rfl
        have il := adc_len h.ch.id
        have isc := adc_sc (a := a.ch.id)
        by_cases pf : r.att.pref = -1
        · have eo : ownR r = { r with att := { r.att with pref := 100 } } := by unfold ownR; rw [if_pos pf]
          rw [eo] at uT
          clear eo
          have r2o : okRt { r with att := { r.att with pref := 100 } } := ⟨o.ok.m, o.ok.u, o.ok.next, ⟨o.ok.att.orig⟩⟩
          have cm2 : okCmp { r.att with pref := 100 } := ⟨⟨o.ok.att.orig⟩, cm.cl, cm.tn, cm.ex8, cm.l1, cm.l2, cm.l3, cm.l4, cm.nums⟩
          have uS := uSameRt r2o r2o cm2 cm2
          rw [sameRt_self] at uS
          have rl2 := rtC_len r2o
          have ra2 := rtC_all r2o
          have rs2 := rtC_sc (x := { r with att := { r.att with pref := 100 } })
          have zz := rtC_any r2o (cs := [PV.int .i64 0, .int .i64 0, .int .i64 0, D.o, D.o, D.o, D.o, D.o, D.o, D.o, D.o, .int .i64 0, .int .i64 0, D.o, D.o, D.o, D.o, D.o, D.o, D.o, D.o, D.o, D.o, D.o, D.o, D.o, D.o, D.o, D.o, .int .i64 0, D.o, D.o, D.o, D.o, D.o, D.o, D.o, D.o, D.o, D.o, D.o, D.o, D.o, D.o, D.o, D.o, .int .i64 0, D.o, D.o, D.o, D.o, D.o, D.o, D.o, D.o, D.o, D.o, D.o, D.o, D.o, D.o, D.o, D.o, .str [], D.o, D.o, D.o, D.o, D.o, D.o, D.o, D.o, .int .i64 0, D.o, D.o, D.o, D.o, D.o, D.o, D.o, D.o, D.o, D.o, D.o, D.o, D.o, D.o, D.o, D.o, .int .i64 0, .int .i64 0, .int .i64 0, D.o, D.o, D.o, D.o, D.o, D.o, D.o, D.o, D.o, D.o, D.o, D.o, D.o, D.o, D.o, D.o, .int .i64 0, .nils, .int .i64 0, .int .i64 0, .int .i64 0, D.o, D.o, D.o, D.o, D.o, D.o, D.o, D.o, D.o, D.o, D.o, D.o, D.o, D.o, D.o, D.o, .nils, .nils, .nils]) rfl
          refine W ?_
          refine cu (uT) ?_
          refine W ?_
          refine cu (uS) ?_
          refine W ?_
          exact hk
        · have eo : ownR r = r := by unfold ownR; rw [if_neg pf]
          rw [eo] at uT
          clear eo
          have uS := uSameRt o.ok o.ok cm cm
          rw [sameRt_self] at uS
          have zz := rtC_any o.ok (cs := [PV.int .i64 0, .int .i64 0, .int .i64 0, D.o, D.o, D.o, D.o, D.o, D.o, D.o, D.o, .int .i64 0, .int .i64 0, D.o, D.o, D.o, D.o, D.o, D.o, D.o, D.o, D.o, D.o, D.o, D.o, D.o, D.o, D.o, D.o, .int .i64 0, D.o, D.o, D.o, D.o, D.o, D.o, D.o, D.o, D.o, D.o, D.o, D.o, D.o, D.o, D.o, D.o, .int .i64 0, D.o, D.o, D.o, D.o, D.o, D.o, D.o, D.o, D.o, D.o, D.o, D.o, D.o, D.o, D.o, D.o, .str [], D.o, D.o, D.o, D.o, D.o, D.o, D.o, D.o, .int .i64 0, D.o, D.o, D.o, D.o, D.o, D.o, D.o, D.o, D.o, D.o, D.o, D.o, D.o, D.o, D.o, D.o, .int .i64 0, .int .i64 0, .int .i64 0, D.o, D.o, D.o, D.o, D.o, D.o, D.o, D.o, D.o, D.o, D.o, D.o, D.o, D.o, D.o, D.o, .int .i64 0, .nils, .int .i64 0, .int .i64 0, .int .i64 0, D.o, D.o, D.o, D.o, D.o, D.o, D.o, D.o, D.o, D.o, D.o, D.o, D.o, D.o, D.o, D.o, .nils, .nils, .nils]) rfl
          refine W ?_
          refine cu (uT) ?_
          refine W ?_
          refine cu (uS) ?_
          refine W ?_
          exact hk
  | false =>
    refine W ?_
    exact hk
end Go.Proofs.YtjhmobdncjhcnaaGreatDoor
