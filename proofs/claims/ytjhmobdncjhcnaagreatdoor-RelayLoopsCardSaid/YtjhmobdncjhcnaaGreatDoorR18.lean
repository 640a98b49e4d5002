/- The law RelayLoops as a triple. -/
import Derived.Test.YtjhmobdncjhcnaaGreatDoorR14
import Derived.Test.YtjhmobdncjhcnaaGreatDoorR17
import Derived.Test.YtjhmobdncjhcnaaGreatDoorVJ
import Derived.Test.YtjhmobdncjhcnaaGreatDoorGC
namespace Go.Proofs.YtjhmobdncjhcnaaGreatDoor
open Go Go.V
set_option maxRecDepth 10000
set_option linter.unusedVariables false
attribute [local irreducible] vBuild vCallV
/-! The reference's comparison of no route with none. -/
theorem uRef87 : U Tryz.prog 87 [.sl [], .sl []] (.bool true) := by
  intro σ Post hk
  refine T87 fun hB hA => ?_
  refine W ?_
  refine lp (fun j e s => e 5 = .int .i64 0 ∧ s = σ ++ []) 0 ⟨rfl, rfl⟩ ?_
  rintro j u _ ⟨e5, rfl⟩
  refine W ?_
  exact hk
theorem uRef86 : U Tryz.prog 86 [.sl [], .sl []] (.bool true) := by
  intro σ Post hk
  refine T86 fun hB hA => ?_
  refine W ?_
  refine lp (fun j e s => e 5 = .int .i64 0 ∧ s = σ ++ []) 0 ⟨rfl, rfl⟩ ?_
  rintro j u _ ⟨e5, rfl⟩
  refine W ?_
  exact hk
theorem uRef38 : U Tryz.prog 38 [.agg (atC at0), .agg (atC at0)] (.bool true) := by
  intro σ Post hk
  have oa : okAt at0 := ⟨ad0_ok⟩
  have sc := atC_sc (x := at0)
  have ln := atC_len oa
  have c0 := atC_all oa
  have g1 : cut (atC at0) 0 none = some (.int .i64 0) := rfl
  have g2 : cut (atC at0) 1 none = some (.sl []) := rfl
  have g3 : cut (atC at0) 2 none = some (.int .i64 0) := rfl
  have g4 : cut (atC at0) 3 none = some (.int .i64 0) := rfl
  have g5 : cut (atC at0) 4 (some 17) = some (.agg (adc ad0)) := atC_gorig oa
  have g6 : cut (atC at0) 21 none = some (.sl []) := rfl
  have g7 : cut (atC at0) 22 none = some (.sl []) := rfl
  have g8 : cut (atC at0) 23 none = some (.sl []) := rfl
  have q0 := eqC_ad ad0_ok ad0_ok
  rw [show (ad0 == ad0) = true by simp] at q0
  refine T38 fun hB hA => ?_
  refine W ?_
  refine lp (fun j e s => e 5 = .int .i64 0 ∧ s = σ ++ [(1, VObj.box (atC at0) false), (1, .box (atC at0) false)]) 0 ⟨rfl, rfl⟩ ?_
  rintro j u _ ⟨e5, rfl⟩
  refine W ?_
  refine lp (fun j e s => e 6 = .int .i64 0 ∧ s = σ ++ [(1, VObj.box (atC at0) false), (1, .box (atC at0) false)]) 0 ⟨rfl, rfl⟩ ?_
  rintro j u _ ⟨e6, rfl⟩
  refine W ?_
  refine cu uRef86 ?_
  refine W ?_
  refine cu uRef87 ?_
  refine W ?_
  exact hk
set_option maxHeartbeats 4000000 in
theorem uRef00 : U Tryz.prog 14 [.agg (rtC rt0), .agg (rtC rt0)] (.bool true) := by
  intro σ Post hk
  have sc := rtC_sc (x := rt0)
  have ln := rtC_len rt0_ok
  have c0 := rtC_all rt0_ok
  have g1 : cut (rtC rt0) 0 none = some (.int .i64 0) := rfl
  have g2 : cut (rtC rt0) 1 none = some (.int .i64 0) := rfl
  have g3 : cut (rtC rt0) 2 (some 62) = some (.agg (mrc mr0)) := rtC_gm rt0_ok
  have g4 : cut (rtC rt0) 64 (some 27) = some (.agg (urU (nm0, 0))) := rtC_gu rt0_ok
  have g5 : cut (rtC rt0) 91 (some 17) = some (.agg (adc ad0)) := rtC_gnext rt0_ok
  have g6 : cut (rtC rt0) 108 (some 24) = some (.agg (atC at0)) := rtC_gatt rt0_ok
  have q0 := eqC_ad ad0_ok ad0_ok
  rw [show (ad0 == ad0) = true by simp] at q0
  have q1 := eqC_mr mr0_ok mr0_ok
  rw [show (mr0 == mr0) = true by simp] at q1
  have q2 := eqC_U (a := (0 : Int)) (b := (0 : Int)) nm0_ok nm0_ok
  rw [show (sameU nm0.rd nm0.s nm0.b nm0.k nm0.rd nm0.s nm0.b nm0.k && ((0 : Int) == 0)) = true by rfl] at q2
  refine T14 fun hB hA => ?_
  refine W ?_
  refine cu uRef38 ?_
  refine W ?_
  exact hk
theorem rtR_pref {r : Rt} (h : rtR r = true) : rtR { r with att := { r.att with pref := 100 } } = true := by
  unfold rtR at *
  simp only [Bool.and_eq_true] at h ⊢
  refine ⟨h.1, ?_, h.2.2⟩
  have h2 := h.2.1
  unfold atR at *
  simp only [Bool.and_eq_true] at h2 ⊢
  obtain ⟨a1, a2, a3, a4, a5, a6, a7⟩ := h2
  exact ⟨a1, a2, a3, a4, rfl, rfl, a7⟩
theorem ownR_right {r : Rt} (h : rtR r = true) : rtR (ownR r) = true := by
  unfold ownR; split
  · exact rtR_pref h
  · exact h
theorem ownR_name (r : Rt) : nameF (ownR r) = nameF r := by unfold ownR; split <;> rfl
theorem passR_name (k : Ad) (c : Ch) : nameF (clR k (origR c)) = nameF c.route := by unfold clR origR; split <;> rfl
theorem router4_ne {a : Ad} (h : router4 a = true) : (a == ad0) = false := by
  unfold router4 at h
  rw [Bool.and_eq_true] at h
  have := of_decide_eq_true h.1
  rw [beq_eq_false_iff_ne]
  rintro rfl
  cases this
theorem isA_self {a : Ad} (h : (a == ad0) = false) : isA a a = true := by unfold isA; rw [h]; simp
theorem orig_s {r : Rt} (h : rtR r = true) : r.att.orig.s = 0 ∨ r.att.orig.s = 4 := by
  have := rtR_at h
  unfold atR at this
  simp only [Bool.and_eq_true] at this
  obtain ⟨_, _, _, _, _, _, h7, _⟩ := this
  rcases Bool.or_eq_true_iff.1 h7 with e | e
  · rw [beq_iff_eq] at e; rw [e]; exact .inl rfl
  · unfold router4 at e; rw [Bool.and_eq_true] at e; exact .inr (of_decide_eq_true e.1)
theorem tells_right {k : Ad} {fl : Bool} {c : Ch} {fr to peer : Int} {o : Ad} (h : (tellsF k fl c fr to peer o).2 = true) : rtR c.route = true ∧ peer ≠ c.peer ∧ rtR (tellsF k fl c fr to peer o).1 = true ∧ nameF (tellsF k fl c fr to peer o).1 = nameF c.route ∧
    ((c.peer = 0 ∧ (tellsF k fl c fr to peer o).1 = ownR c.route) ∨ (c.peer ≠ 0 ∧ (tellsF k fl c fr to peer o).1 = clR k (origR c) ∧ router4 k = true ∧ (c.route.att.orig.s = 0 → router4 c.id = true))) := by
  unfold tellsF at *
  split at h
  · cases h
  · rename_i h1
    rw [if_neg h1]
    simp only [not_or, Bool.not_eq_false] at h1
    split at h
    · rename_i h2
      rw [if_pos h2]
      exact ⟨h1.1, h1.2.1, ownR_right h1.1, ownR_name _, .inl ⟨h2, rfl⟩⟩
    · rename_i h2
      rw [if_neg h2]
      split at h
      · cases h
      · rename_i h3
        rw [if_neg h3]
        unfold passF at *
        split at h
        · rename_i h4
          rw [if_pos h4]
          refine ⟨h1.1, h1.2.1, h4.1, passR_name k c, .inr ⟨h2, rfl, h4.2, fun e => ?_⟩⟩
          cases hr : router4 c.id with
          | true => rfl
          | false => exact absurd (.inr (.inr ⟨e, hr⟩)) h3
        · cases h
theorem tells_no {k : Ad} {fl : Bool} {c : Ch} {fr to peer : Int} {o : Ad} (h : (tellsF k fl c fr to peer o).2 = false) : (tellsF k fl c fr to peer o).1 = rt0 := by
  unfold tellsF at *
  split at h
  · rename_i h1; rw [if_pos h1]
  · rename_i h1
    rw [if_neg h1]
    split at h
    · cases h
    · rename_i h2
      rw [if_neg h2]
      split at h
      · rename_i h3; rw [if_pos h3]
      · rename_i h3
        rw [if_neg h3]
        unfold passF at *
        split at h
        · cases h
        · rename_i h4; rw [if_neg h4]
theorem takes_cl {v : Int} {id k : Ad} {r : Rt} (hk : router4 k = true) : takesF v id k (clR k r) = false := by
  unfold takesF
  have : ((clR k r).att.cl.any fun a => isA a k) = true := by
    show ((k :: r.att.cl).any fun a => isA a k) = true
    rw [List.any_cons, isA_self (router4_ne hk)]; rfl
  rw [this]; simp
theorem takes_orig {v : Int} {k : Ad} {r : Rt} (h : (r.att.orig == ad0) = false) : takesF v r.att.orig k r = false := by
  unfold takesF
  rw [isA_self h]; simp
theorem okRib_clR {k : Ad} {c : Ch} (hk : okD k) (h : okRib c.route) (hi : okD c.id) : okRib (clR k (origR c)) := clR_ok hk (origR_ok h hi)
theorem okRib_own {r : Rt} (h : okRib r) : okRib (ownR r) := by
  unfold ownR; split
  · exact ⟨⟨h.ok.m, h.ok.u, h.ok.next, ⟨h.ok.att.orig⟩⟩, h.cl, h.tn, h.id, h.key⟩
  · exact h
set_option maxHeartbeats 16000000 in
theorem tRelayLoops {a : Ask} {v : Int} {id : Ad} (h : okAsk a) (hid : okD id) (hr : okArg a.ch.route) (sm : U Tryz.prog 11 [] (.bool true)) : U Tryz.prog 3 [.agg (askC a), .int .i64 v, .agg (adc id)] (.bool true) := by
  intro σ Post hp
  have sc := askC_sc (x := a)
  have ln := askC_len h
  have c0 := askC_all h
  have g1 := askC_gcluster h
  have g2 := askC_grefl h
  have g3 := askC_gch h
  have g4 := askC_gfr h
  have g5 := askC_gto h
  have g6 := askC_gpeer h
  have g7 := askC_gother h
  have is := adc_sc (a := id)
  have il := adc_len hid
  have ia := adc_all hid
  have hcl := chC_len h.ch
  have gr : cut (askC a) 18 (some 132) = some (.agg (rtC a.ch.route)) := cut_sk (o := 1) (adc_len h.cluster) rfl (cut_sk (n := 1) (o := 0) rfl rfl ((cut_pre (by rw [hcl]; decide)).trans (chC_groute h.ch)))
  have gp : cut (askC a) 150 none = some (.int .i64 a.ch.peer) := cut_sk (o := 133) (adc_len h.cluster) rfl (cut_sk (n := 1) (o := 132) rfl rfl ((cut_pre1 (by rw [hcl]; decide)).trans (chC_gpeer h.ch)))
  have gi : cut (askC a) 151 (some 17) = some (.agg (adc a.ch.id)) := cut_sk (o := 134) (adc_len h.cluster) rfl (cut_sk (n := 1) (o := 133) rfl rfl ((cut_pre (by rw [hcl]; decide)).trans (chC_gid h.ch)))
  have rl0 := rtC_len hr.ok
  have gcl : cut (askC a) 147 none = some (.sl (a.ch.route.att.cl.map adc)) := cut_sk (o := 130) (adc_len h.cluster) rfl (cut_sk (n := 1) (o := 129) rfl rfl ((cut_pre1 (by rw [hcl]; decide)).trans ((cut_pre1 (by rw [rl0]; decide)).trans (rt_ga (o := 21) hr.ok (atC_gcl hr.ok.att)))))
  have gos : cut (askC a) 130 none = some (.int .i64 a.ch.route.att.orig.s) := cut_sk (o := 113) (adc_len h.cluster) rfl (cut_sk (n := 1) (o := 112) rfl rfl ((cut_pre1 (by rw [hcl]; decide)).trans ((cut_pre1 (by rw [rl0]; decide)).trans (rt_ga (o := 4) hr.ok rfl))))
  refine T3 fun hB hA => ?_
  refine W ?_
  refine cu sm ?_
  refine W ?_
  refine cu (uFew15 hr.ok hr.tn hr.l1 hr.l2 hr.l3) ?_
  cases hf : few15 a.ch.route with
  | false =>
    refine W ?_
    exact hp
  | true =>
    have ob := okArg_few hr hf
    have t1 := tells_ok (fl := a.refl) (fr := a.fr) (to := a.to) (peer := a.peer) (o := a.other) h.cluster ob h.ch.id
    have ut := uTells (fl := a.refl) (fr := a.fr) (to := a.to) (peer := a.peer) h.cluster h.other ob hr.ex8 h.ch.id
    have hyes := tells_right (k := a.cluster) (fl := a.refl) (c := a.ch) (fr := a.fr) (to := a.to) (peer := a.peer) (o := a.other)
    have hno := tells_no (k := a.cluster) (fl := a.refl) (c := a.ch) (fr := a.fr) (to := a.to) (peer := a.peer) (o := a.other)
    generalize tellsF a.cluster a.refl a.ch a.fr a.to a.peer a.other = t at *
    obtain ⟨r, b⟩ := t
    dsimp only at *
    have z1 := rtC_any t1 (cs := [PV.int .i64 0, .int .i64 0, .int .i64 0, D.o, D.o, D.o, D.o, D.o, D.o, D.o, D.o, .int .i64 0, .int .i64 0, D.o, D.o, D.o, D.o, D.o, D.o, D.o, D.o, D.o, D.o, D.o, D.o, D.o, D.o, D.o, D.o, .int .i64 0, D.o, D.o, D.o, D.o, D.o, D.o, D.o, D.o, D.o, D.o, D.o, D.o, D.o, D.o, D.o, D.o, .int .i64 0, D.o, D.o, D.o, D.o, D.o, D.o, D.o, D.o, D.o, D.o, D.o, D.o, D.o, D.o, D.o, D.o, .str [], D.o, D.o, D.o, D.o, D.o, D.o, D.o, D.o, .int .i64 0, D.o, D.o, D.o, D.o, D.o, D.o, D.o, D.o, D.o, D.o, D.o, D.o, D.o, D.o, D.o, D.o, .int .i64 0, .int .i64 0, .int .i64 0, D.o, D.o, D.o, D.o, D.o, D.o, D.o, D.o, D.o, D.o, D.o, D.o, D.o, D.o, D.o, D.o, .int .i64 0, .nils, .int .i64 0, .int .i64 0, .int .i64 0, D.o, D.o, D.o, D.o, D.o, D.o, D.o, D.o, D.o, D.o, D.o, D.o, D.o, D.o, D.o, D.o, .nils, .nils, .nils]) rfl
    have l1 := rtC_len t1
    have s1' := rtC_sc (x := r)
    have a1 := rtC_all t1
    refine W ?_
    refine cu ut ?_
    cases b with
    | false =>
      have e0 := hno rfl
      subst e0
      refine W ?_
      refine cu uRef00 ?_ (by exact z_hn) (by exact z_ma) (.pl inferInstance (.agg rtZ_inl (.nil _))) rfl
      refine W ?_
      exact hp
    | true =>
      obtain ⟨q1, q2, q3, q4, q5⟩ := hyes rfl
      rcases q5 with ⟨p0, rfl⟩ | ⟨p0, rfl, q6, q7⟩
      · have o2 := okRib_own ob
        have hn1 : nameR (ownR a.ch.route) = nameF a.ch.route := by unfold nameR; rw [if_pos q3, q4]
        have hn2 : nameR a.ch.route = nameF a.ch.route := by unfold nameR; rw [if_pos q1]
        have u1 := uName15 o2
        rw [hn1, q3] at u1
        have u2 := uName15 ob
        rw [hn2, q1] at u2
        have ec : (ownR a.ch.route).att.cl = a.ch.route.att.cl := by unfold ownR; split <;> rfl
        have gc2 : cut (rtC (ownR a.ch.route)) 129 none = some (.sl (a.ch.route.att.cl.map adc)) := by rw [← ec]; exact rt_ga (o := 21) t1 (atC_gcl t1.att)
        have sne : sbin .neq (nameF a.ch.route) (nameF a.ch.route) = some (.bool false) := by rw [sb_neq]; simp
        refine W ?_
        refine cu u1 ?_
        refine W ?_
        refine cu u2 ?_
        refine W ?_
        exact hp
      · have o2 := okRib_clR h.cluster ob h.ch.id
        have hn1 : nameR (clR a.cluster (origR a.ch)) = nameF a.ch.route := by unfold nameR; rw [if_pos q3, q4]
        have hn2 : nameR a.ch.route = nameF a.ch.route := by unfold nameR; rw [if_pos q1]
        have u1 := uName15 o2
        rw [hn1, q3] at u1
        have u2 := uName15 ob
        rw [hn2, q1] at u2
        have sne : sbin .neq (nameF a.ch.route) (nameF a.ch.route) = some (.bool false) := by rw [sb_neq]; simp
        have go2 : cut (rtC (clR a.cluster (origR a.ch))) 112 (some 17) = some (.agg (adc (origR a.ch).att.orig)) := rt_ga (o := 4) t1 (atC_gorig t1.att)
        have oo : okD (origR a.ch).att.orig := t1.att.orig
        have al := adc_len oo
        have ne0 : ((origR a.ch).att.orig == ad0) = false := by
          unfold origR
          split
          · rename_i e; exact router4_ne (q7 e)
          · rename_i e
            rw [beq_eq_false_iff_ne]
            intro e2
            exact e (by rw [e2]; rfl)
        have k1 := takes_cl (v := v) (id := id) (r := origR a.ch) q6
        have k2 : takesF v (origR a.ch).att.orig ad0 (clR a.cluster (origR a.ch)) = false := takes_orig (r := clR a.cluster (origR a.ch)) ne0
        refine W ?_
        refine cu u1 ?_
        refine W ?_
        refine cu u2 ?_
        refine W ?_
        refine cu (uTakes (v := v) o2 hid h.cluster) ?_
        rw [k1]
        refine W ?_
        refine cu (uTakes (v := v) (cl := ad0) o2 oo ad0_ok) ?_
        rw [k2]
        have os := orig_s q1
        by_cases h0 : 0 < a.ch.route.att.orig.s
        · refine W ?_
          exact hp
        · have e0 : a.ch.route.att.orig.s = 0 := by omega
          have eo : (origR a.ch).att.orig = a.ch.id := by unfold origR; rw [if_pos e0]
          have q8 := eqC_ad oo h.ch.id
          rw [eo] at q8
          rw [show (a.ch.id == a.ch.id) = true by simp] at q8
          rw [eo] at go2
          refine W ?_
          exact hp
end Go.Proofs.YtjhmobdncjhcnaaGreatDoor
