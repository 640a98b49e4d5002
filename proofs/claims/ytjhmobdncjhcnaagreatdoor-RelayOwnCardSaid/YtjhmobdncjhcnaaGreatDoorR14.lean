/- Few; the law RelayPlain as a triple. -/
import Derived.Test.YtjhmobdncjhcnaaGreatDoorR13
import Derived.Test.YtjhmobdncjhcnaaGreatDoorR14a
namespace Go.Proofs.YtjhmobdncjhcnaaGreatDoor
open Go Go.V
set_option maxRecDepth 10000
set_option linter.unusedVariables false
structure Ask where
  cluster : Ad
  refl : Bool
  ch : Ch
  fr : Int
  to : Int
  peer : Int
  other : Ad
def askC (x : Ask) : List PV := adc x.cluster ++ ([.bool x.refl] ++ (chC x.ch ++ ([.int .i64 x.fr] ++ ([.int .i64 x.to] ++ ([.int .i64 x.peer] ++ (adc x.other))))))
instance (x : Ask) : PlL (askC x) := by unfold askC; infer_instance
instance (x : Ask) : ClL (askC x) := by unfold askC; infer_instance
structure okAsk (x : Ask) : Prop where
  cluster : okD x.cluster
  ch : okCh x.ch
  other : okD x.other
section
variable {x : Ask}
theorem askC_sc : (askC x).all scalar = true := by
  unfold askC
  simp only [List.all_append, adc_sc, chC_sc, List.all_cons, List.all_nil, scalar, Bool.and_self]
theorem askC_len (h : okAsk x) : (askC x).length = 188 := by
  unfold askC
  simp only [List.length_append, List.length_cons, List.length_nil, (adc_len h.cluster), (chC_len h.ch), (adc_len h.other)]
theorem askC_all (h : okAsk x) : cut (askC x) 0 (some 188) = some (.agg (askC x)) := cut_hd0 (askC_len h)
theorem askC_gcluster (h : okAsk x) : cut (askC x) 0 (some 17) = some (.agg (adc x.cluster)) := cut_hd (adc_len h.cluster)
theorem askC_grefl (h : okAsk x) : cut (askC x) 17 none = some (.bool x.refl) := cut_sk (o := 0) (adc_len h.cluster) rfl (rfl)
theorem askC_gch (h : okAsk x) : cut (askC x) 18 (some 150) = some (.agg (chC x.ch)) := cut_sk (o := 1) (adc_len h.cluster) rfl (cut_sk (o := 0) rfl rfl (cut_hd (chC_len h.ch)))
theorem askC_gfr (h : okAsk x) : cut (askC x) 168 none = some (.int .i64 x.fr) := cut_sk (o := 151) (adc_len h.cluster) rfl (cut_sk (o := 150) rfl rfl (cut_sk (o := 0) (chC_len h.ch) rfl (rfl)))
theorem askC_gto (h : okAsk x) : cut (askC x) 169 none = some (.int .i64 x.to) := cut_sk (o := 152) (adc_len h.cluster) rfl (cut_sk (o := 151) rfl rfl (cut_sk (o := 1) (chC_len h.ch) rfl (cut_sk (o := 0) rfl rfl (rfl))))
theorem askC_gpeer (h : okAsk x) : cut (askC x) 170 none = some (.int .i64 x.peer) := cut_sk (o := 153) (adc_len h.cluster) rfl (cut_sk (o := 152) rfl rfl (cut_sk (o := 2) (chC_len h.ch) rfl (cut_sk (o := 1) rfl rfl (cut_sk (o := 0) rfl rfl (rfl)))))
theorem askC_gother (h : okAsk x) : cut (askC x) 171 (some 17) = some (.agg (adc x.other)) := cut_sk (o := 154) (adc_len h.cluster) rfl (cut_sk (o := 153) rfl rfl (cut_sk (o := 3) (chC_len h.ch) rfl (cut_sk (o := 2) rfl rfl (cut_sk (o := 1) rfl rfl (cut_sk (o := 0) rfl rfl (cut_hd0 (adc_len h.other)))))))
end
attribute [local irreducible] vBuild vCallV
theorem tells_refl {k : Ad} {c : Ch} {fr to peer : Int} {o : Ad} (h : (tellsF k false c fr to peer o).2 = true) : c.peer = 0 := by
  unfold tellsF at h
  split at h
  · cases h
  · split at h
    · rename_i h0; exact h0
    · rw [if_pos (.inl rfl)] at h; cases h
theorem tells_back {k : Ad} {fl : Bool} {c : Ch} {fr to : Int} {o : Ad} : (tellsF k fl c fr to c.peer o).2 = false := by
  unfold tellsF
  rw [if_pos (.inr (.inl rfl))]
theorem tells_ok {k : Ad} {fl : Bool} {c : Ch} {fr to peer : Int} {o : Ad} (hk : okD k) (h : okRib c.route) (hi : okD c.id) : okRt (tellsF k fl c fr to peer o).1 := by
  unfold tellsF
  split
  · exact rt0_ok
  · split
    · unfold ownR; split
      · exact ⟨h.ok.m, h.ok.u, h.ok.next, ⟨h.ok.att.orig⟩⟩
      · exact h.ok
    · split
      · exact rt0_ok
      · exact passF_ok hk h hi
set_option maxHeartbeats 16000000 in
theorem tRelayPlain {a : Ask} (h : okAsk a) (hr : okArg a.ch.route) (sm : U Tryz.prog 11 [] (.bool true)) : U Tryz.prog 4 [.agg (askC a)] (.bool true) := by
  intro σ Post hp
  have sc := askC_sc (x := a)
  have ln := askC_len h
  have c0 := askC_all h
  have g1 := askC_gcluster h
  have g2 := askC_grefl h
  have g3 := askC_gch h
  have g4 := askC_gfr h
  have g5 := askC_gto h
  have g6 := askC_gpeer h
  have g7 := askC_gother h
  have gr : cut (askC a) 18 (some 132) = some (.agg (rtC a.ch.route)) := cut_sk (o := 1) (adc_len h.cluster) rfl (cut_sk (n := 1) (o := 0) rfl rfl ((cut_pre (by rw [chC_len h.ch]; decide)).trans (chC_groute h.ch)))
  have gp : cut (askC a) 150 none = some (.int .i64 a.ch.peer) := cut_sk (o := 133) (adc_len h.cluster) rfl (cut_sk (n := 1) (o := 132) rfl rfl ((cut_pre1 (by rw [chC_len h.ch]; decide)).trans (chC_gpeer h.ch)))
  refine T4 fun hB hA => ?_
  refine W ?_
  refine cu sm ?_
  refine W ?_
  refine cu (uFew15 hr.ok hr.tn hr.l1 hr.l2 hr.l3) ?_
  cases hf : few15 a.ch.route with
  | false =>
    refine W ?_
    exact hp
  | true =>
    have ob := okArg_few hr hf
    have t1 := tells_ok (fl := false) (fr := a.fr) (to := a.to) (peer := a.peer) (o := a.other) h.cluster ob h.ch.id
    have t2 := tells_ok (fl := a.refl) (fr := a.fr) (to := a.to) (peer := a.ch.peer) (o := a.other) h.cluster ob h.ch.id
    have z1 := rtC_any t1 (cs := [PV.int .i64 0, .int .i64 0, .int .i64 0, D.o, D.o, D.o, D.o, D.o, D.o, D.o, D.o, .int .i64 0, .int .i64 0, D.o, D.o, D.o, D.o, D.o, D.o, D.o, D.o, D.o, D.o, D.o, D.o, D.o, D.o, D.o, D.o, .int .i64 0, D.o, D.o, D.o, D.o, D.o, D.o, D.o, D.o, D.o, D.o, D.o, D.o, D.o, D.o, D.o, D.o, .int .i64 0, D.o, D.o, D.o, D.o, D.o, D.o, D.o, D.o, D.o, D.o, D.o, D.o, D.o, D.o, D.o, D.o, .str [], D.o, D.o, D.o, D.o, D.o, D.o, D.o, D.o, .int .i64 0, D.o, D.o, D.o, D.o, D.o, D.o, D.o, D.o, D.o, D.o, D.o, D.o, D.o, D.o, D.o, D.o, .int .i64 0, .int .i64 0, .int .i64 0, D.o, D.o, D.o, D.o, D.o, D.o, D.o, D.o, D.o, D.o, D.o, D.o, D.o, D.o, D.o, D.o, .int .i64 0, .nils, .int .i64 0, .int .i64 0, .int .i64 0, D.o, D.o, D.o, D.o, D.o, D.o, D.o, D.o, D.o, D.o, D.o, D.o, D.o, D.o, D.o, D.o, .nils, .nils, .nils]) rfl
    have z2 := rtC_any t2 (cs := [PV.int .i64 0, .int .i64 0, .int .i64 0, D.o, D.o, D.o, D.o, D.o, D.o, D.o, D.o, .int .i64 0, .int .i64 0, D.o, D.o, D.o, D.o, D.o, D.o, D.o, D.o, D.o, D.o, D.o, D.o, D.o, D.o, D.o, D.o, .int .i64 0, D.o, D.o, D.o, D.o, D.o, D.o, D.o, D.o, D.o, D.o, D.o, D.o, D.o, D.o, D.o, D.o, .int .i64 0, D.o, D.o, D.o, D.o, D.o, D.o, D.o, D.o, D.o, D.o, D.o, D.o, D.o, D.o, D.o, D.o, .str [], D.o, D.o, D.o, D.o, D.o, D.o, D.o, D.o, .int .i64 0, D.o, D.o, D.o, D.o, D.o, D.o, D.o, D.o, D.o, D.o, D.o, D.o, D.o, D.o, D.o, D.o, .int .i64 0, .int .i64 0, .int .i64 0, D.o, D.o, D.o, D.o, D.o, D.o, D.o, D.o, D.o, D.o, D.o, D.o, D.o, D.o, D.o, D.o, .int .i64 0, .nils, .int .i64 0, .int .i64 0, .int .i64 0, D.o, D.o, D.o, D.o, D.o, D.o, D.o, D.o, D.o, D.o, D.o, D.o, D.o, D.o, D.o, D.o, .nils, .nils, .nils]) rfl
    have l1 := rtC_len t1
    have l2 := rtC_len t2
    have s1' := rtC_sc (x := (tellsF a.cluster false a.ch a.fr a.to a.peer a.other).1)
    have s2' := rtC_sc (x := (tellsF a.cluster a.refl a.ch a.fr a.to a.ch.peer a.other).1)
    have hb := tells_back (k := a.cluster) (fl := a.refl) (c := a.ch) (fr := a.fr) (to := a.to) (o := a.other)
    refine W ?_
    refine cu (uTells (fl := false) h.cluster h.other ob hr.ex8 h.ch.id) ?_
    refine W ?_
    refine cu (uTells (fl := a.refl) h.cluster h.other ob hr.ex8 h.ch.id) ?_
    rw [hb]
    cases hi : (tellsF a.cluster false a.ch a.fr a.to a.peer a.other).2 with
    | false =>
      refine W ?_
      exact hp
    | true =>
      have h0 := tells_refl hi
      refine W ?_
      exact hp
end Go.Proofs.YtjhmobdncjhcnaaGreatDoor
