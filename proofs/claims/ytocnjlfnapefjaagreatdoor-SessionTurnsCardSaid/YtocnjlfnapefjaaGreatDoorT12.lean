/- Sessions: Do. -/
import Derived.Test.YtocnjlfnapefjaaGreatDoorT11
namespace Go.Proofs.YtocnjlfnapefjaaGreatDoor
open Go Go.V
set_option maxRecDepth 10000
set_option linter.unusedVariables false
section
variable {P : Program} [Glob] {H : VHeap} {Q : KP} {cap : List PV}
theorem callV_b {f : Nat} (hok : callOk P f = true) (k : T P f cap H Q) : vCallV P true (.fn (bfN + f) cap) [] H Q := by
  refine .inr ⟨f, rfl, hok, ?_⟩
  rw [if_pos rfl, List.append_nil]; exact k
theorem callV_c {f : Nat} (hok : callOk P f = true) (k : T P f cap H Q) : vCallV P true (.fn f cap) [] H Q := by
  refine .inl ⟨hok, ?_⟩
  rw [if_pos rfl]; exact k
theorem st_callV0 {n : Nat} {K : Env → VHeap → Prop} {r : List VO} {d : Option Nat} {env : Env} {x : VA} {v : PV} (h : va env x = v) (k : vCallV P true v [] H fun w h' => vrunOps P n K r (eput env d w) h') : vrunOps P n K (⟨d, .callV x [], none⟩ :: r) env H := by
  subst h; exact k
end
attribute [local irreducible] vBuild vCallV
section
variable {P : Program} [Glob] {n : Nat} {env : Env} {h h' : VHeap} {v v' : PV}
omit [Glob] in
theorem ret_x {vf : VFun} {Post : KP} {e : VE} (he : e = .ret ∨ e = .normal) (hr : vf.raw = false) (hv : rvAll env h vf.results = some v) (hi : inl h v = v') (hf : frz h v = h') (k : Post v' h') : vend vf Post e env h := by
  have : vret vf.raw (rvAll env h vf.results) h Post := by
    rw [hv, hr]
    simp only [vret, Bool.false_eq_true, if_false]
    rw [hi, hf]; exact k
  rcases he with rfl | rfl <;> exact this
end
theorem tDo2 {σ : VHeap} {O : List Nat} {b sp se : Nat} {S : Ses} {ev : Ev} {Post : KP} (h : At σ O b S) (hs : vGet σ sp 1 = some (.box [.ptr b 1 0] false)) (he : vGet σ se 1 = some (.box (evC ev) false)) (ok : okEv ev) (hl : S.send.length ≤ 1000) (hd : ev.nt.data.length ≤ 140737488355328)
    (k : ∀ σ' O', Stp σ O σ' O' → At σ' O' b (fallF ev.nt S) → Post (.tup []) σ') : T Tryz.prog 27 [.ptr sp 1 0, .ptr se 1 0] σ Post := by
  have g := evC_gnt ok
  have hsl := vGet_lt hs
  have hel := vGet_lt he
  obtain ⟨tm, mid, fv, sv, a⟩ := h
  refine T27 ?_
  refine W ?_
  refine ct ?_
  refine tFall ⟨_, _, _, _, a.big []⟩ hl hd fun σ2 O2 st2 at2 => ?_
  refine W ?_
  refine ret_n (v := .tup []) (.inr rfl) rfl rfl inferInstance ?_
  exact k _ O2 ((Stp.big _ _ _).trans st2) at2
theorem tDo3 {σ : VHeap} {O : List Nat} {b sp se : Nat} {S : Ses} {ev : Ev} {Post : KP} (h : At σ O b S) (hs : vGet σ sp 1 = some (.box [.ptr b 1 0] false)) (he : vGet σ se 1 = some (.box (evC ev) false)) (ok : okEv ev)
    (hst : 0 ≤ S.st ∧ S.st ≤ 4) (hl : S.send.length ≤ 999) (lf : S.p.fams.length * 16 ≤ 140737488355328) (lg : S.st = 2 → S.fams = []) (lo : ev.h.op.fams.length ≤ 140737488355328) (hh : 0 ≤ S.p.hold ∧ S.p.hold ≤ 1000000) (hh2 : S.hold ≤ 9223372036854775807) (ho1 : -9223372036854775808 ≤ ev.h.op.hold ∧ ev.h.op.hold ≤ 9223372036854775807)
    (k : ∀ σ' O', Stp σ O σ' O' → At σ' O' b (heardF ev.h S) → Post (.tup []) σ') : T Tryz.prog 29 [.ptr sp 1 0, .ptr se 1 0] σ Post := by
  have g : cut (evC ev) 1 (some 53) = some (.agg (msC ev.h)) := evC_gh ok
  have hsl := vGet_lt hs
  have hel := vGet_lt he
  obtain ⟨tm, mid, fv, sv, a⟩ := h
  refine T29 ?_
  refine W ?_
  refine ct ?_
  refine tHeard ⟨_, _, _, _, a.big []⟩ ok.h hst hl lf lg lo hh hh2 ho1 fun σ2 O2 st2 at2 => ?_
  refine W ?_
  refine ret_n (v := .tup []) (.inr rfl) rfl rfl inferInstance ?_
  exact k _ O2 ((Stp.big _ _ _).trans st2) at2
/-- Nothing told yet. -/
def S0 (S : Ses) : Ses := { S with send := [], dial := false, close := false, up := false, down := false }
/-- What Do may come to. -/
def DoR (ev : Ev) (S S' : Ses) : Prop :=
  if ev.do_ = 1 ∧ S.st = 0 then S' = startF (S0 S)
  else if ev.do_ = 2 then S' = stopF (S0 S)
  else if ev.do_ = 3 ∧ S.st = 1 then S' = connF (S0 S)
  else if ev.do_ = 4 ∧ 2 ≤ S.st then S' = closedF (S0 S)
  else if ev.do_ = 6 ∧ 2 ≤ S.st then S' = fallF ev.nt (S0 S)
  else if ev.do_ = 5 ∧ 2 ≤ S.st then S' = heardF ev.h (S0 S)
  else if ev.do_ = 7 then ∃ ss : List (List UInt8), ss.Perm (mdue S.m) ∧ S' = tickL (ss.mergeSort fun x y => decide (x ≤ y)) ((S0 S).sM (mtick S.m))
  else S' = S0 S
/-- What a session must be like for Do. -/
structure OkS (S : Ses) : Prop where
  st : 0 ≤ S.st ∧ S.st ≤ 4
  lf : S.p.fams.length * 16 ≤ 140737488355328
  lg : S.st ≤ 2 → S.fams = []
  hp : 0 ≤ S.p.hold ∧ S.p.hold ≤ 1000000
  hd : -9223372036854775808 ≤ S.hold ∧ S.hold ≤ 9223372036854775807
  lm : S.m.length ≤ 50
structure OkE (ev : Ev) : Prop where
  ok : okEv ev
  nd : ev.nt.data.length ≤ 140737488355328
  fo : ev.h.op.fams.length ≤ 140737488355328
  ho : -9223372036854775808 ≤ ev.h.op.hold ∧ ev.h.op.hold ≤ 9223372036854775807
def toldC (S : Ses) : List PV := [.sl (S.send.map msC), .bool S.dial, .bool S.close, .bool S.up, .bool S.down]
theorem RowAt.wide {σ : VHeap} {O O' : List Nat} {sz : Nat} {es : List (List PV)} {v : RV} (h : RowAt σ O sz es v) (hs : ∀ i, i ∈ O → i ∈ O') : RowAt σ O' sz es v := by
  cases v with
  | nil => exact h
  | row id g => obtain ⟨hm, h⟩ := h; exact ⟨hs id hm, h⟩
/-- A row of it is frozen. -/
theorem SesAt.frz {σ : VHeap} {O : List Nat} {b : Nat} {S : Ses} {tm mid : Nat} {fv sv : RV} (h : SesAt σ O b S tm mid fv sv) {id g sz : Nat} {es : List (List PV)} {fz : Bool} (hg : vGet σ id g = some (.row sz es fz)) : SesAt (σ.set id (g, .row sz es true)) O b S tm mid fv sv := by
  have hg' := vGet_some hg
  have n1 : id ≠ b := by rintro rfl; rw [vGet_some h.box] at hg'; cases hg'
  have n2 : id ≠ tm := by rintro rfl; rw [vGet_some h.t.box] at hg'; cases hg'
  have n3 : id ≠ mid := by
    obtain ⟨ts, c, h1, _⟩ := h.t.map
    rintro rfl; rw [vGet_some h1] at hg'; cases hg'
  have hr : ∀ {sz' es' v}, RowAt σ O sz' es' v → RowAt (σ.set id (g, .row sz es true)) O sz' es' v := by
    intro sz' es' v hv
    cases v with
    | nil => exact hv
    | row i g2 =>
      obtain ⟨hm, fz2, h2⟩ := hv
      by_cases e : id = i
      · subst e
        have h3 := vGet_some h2
        rw [hg'] at h3; cases h3
        exact ⟨hm, true, hget_eq (vGet_lt hg)⟩
      · exact ⟨hm, fz2, hget_ne e h2⟩
  exact ⟨hget_ne n1 h.box, h.pk, h.ok, ⟨h.t.ne, hget_ne n2 h.t.box, let ⟨ts, c, h1, h2⟩ := h.t.map; ⟨ts, c, hget_ne n3 h1, h2⟩⟩, hr h.fr, hr h.sr, h.sk, h.fn, h.bO, h.tO, h.mO, fun i hi => by rw [List.length_set]; exact h.lt i hi⟩
open D in
/-- What Do does at its end. -/
theorem doEnd {σ0 σ' X : VHeap} {O O' : List Nat} {b : Nat} {S' : Ses} {E : Env} {Post : KP} {pe : VObj} (h : At (σ' ++ ([(1, VObj.box [PV.ptr b 1 0] false), (1, pe), (1, VObj.box [PV.nils, .bool false, .bool false, .bool false, .bool false] false)] ++ X)) O' b S') (hn : σ'.length = σ0.length) (hb : b < σ0.length) (e2 : E 2 = .ptr (σ0.length + 0) (0 + 1) 0) (e4 : E 4 = .ptr (σ0.length + 2) (0 + 1) 0)
    (ho : Out O' σ'.length 3) (st : Stp σ0 O (σ' ++ ([(1, VObj.box [PV.ptr b 1 0] false), (1, pe), (1, VObj.box [PV.nils, .bool false, .bool false, .bool false, .bool false] false)] ++ X)) O') (k : ∀ σ2, Stp σ0 O σ2 O' → At σ2 O' b S' → Post (.agg (toldC S')) σ2) :
    vrun Tryz.prog σ0.length (.seq (.region [m 78 (.load none (t 2)), m 79 (.nilCheck (t 78)), m 80 (.field 43 (t 79)), m 81 (.load (some 5) (t 80)), e (.store 5 (t 4) (t 81))]) <| .ret) E (σ' ++ ([(1, VObj.box [PV.ptr b 1 0] false), (1, pe), (1, VObj.box [PV.nils, .bool false, .bool false, .bool false, .bool false] false)] ++ X)) (vend vf10 Post) := by
  obtain ⟨tm, mid, fv, sv, a⟩ := h
  have box := a.box
  have lo : ∀ (L' : VHeap), L'.length = 3 → SesAt (σ' ++ (L' ++ X)) O' b S' tm mid fv sv := fun L' hL => a.loc (L := [(1, VObj.box [PV.ptr b 1 0] false), (1, pe), (1, VObj.box [PV.nils, .bool false, .bool false, .bool false, .bool false] false)]) hL ho
  have so : ∀ (L' : VHeap), L'.length = 3 → Stp σ0 O (σ' ++ (L' ++ X)) O' := fun L' hL => st.loc (L := [(1, VObj.box [PV.ptr b 1 0] false), (1, pe), (1, VObj.box [PV.nils, .bool false, .bool false, .bool false, .bool false] false)]) hn.symm hL
  have gq : cut (scC (S'.c tm fv sv)) 43 (some 5) = some (.agg [rvc sv, .bool S'.dial, .bool S'.close, .bool S'.up, .bool S'.down]) := cut_sk (o := 22) (prC_len a.pk) rfl (cut_sk (o := 21) rfl rfl (cut_sk (o := 20) rfl rfl (cut_sk (o := 19) rfl rfl (cut_sk (o := 2) (adc_len a.ok) rfl (cut_sk (o := 1) rfl rfl (cut_sk (o := 0) rfl rfl (cut_hd0 rfl)))))))
  cases sv with
  | nil =>
    have e0 : S'.send = [] := List.map_eq_nil_iff.1 a.sr
    refine W ?_
    refine ret_x (v := .agg [.nils, .bool S'.dial, .bool S'.close, .bool S'.up, .bool S'.down]) (.inl rfl) rfl (rv_one (rv_c (id := σ0.length + 2) (g := 1) (off := 0) e4 (lget hn (vGet_of rfl)) rfl)) (v' := .agg (toldC S')) (by simp [inl, inlL, toldC, e0]) rfl ?_
    exact k _ (so [(1, VObj.box [PV.ptr b 1 0] false), (1, pe), (1, VObj.box [PV.nils, .bool S'.dial, .bool S'.close, .bool S'.up, .bool S'.down] false)] rfl) ⟨_, _, _, _, lo [(1, VObj.box [PV.ptr b 1 0] false), (1, pe), (1, VObj.box [PV.nils, .bool S'.dial, .bool S'.close, .bool S'.up, .bool S'.down] false)] rfl⟩
  | row id g =>
    have a2 := lo [(1, VObj.box [PV.ptr b 1 0] false), (1, pe), (1, VObj.box [PV.row id g, .bool S'.dial, .bool S'.close, .bool S'.up, .bool S'.down] false)] rfl
    have s2 := so [(1, VObj.box [PV.ptr b 1 0] false), (1, pe), (1, VObj.box [PV.row id g, .bool S'.dial, .bool S'.close, .bool S'.up, .bool S'.down] false)] rfl
    obtain ⟨hid, fz, hg⟩ := a2.sr
    have hg' := vGet_some hg
    have a3 := a2.frz hg
    refine W ?_
    refine ret_x (v := .agg [.row id g, .bool S'.dial, .bool S'.close, .bool S'.up, .bool S'.down]) (.inl rfl) rfl (rv_one (rv_c (id := σ0.length + 2) (g := 1) (off := 0) e4 (lget hn (vGet_of rfl)) rfl)) (v' := .agg (toldC S')) (h' := (σ' ++ ([(1, VObj.box [PV.ptr b 1 0] false), (1, pe), (1, VObj.box [PV.row id g, .bool S'.dial, .bool S'.close, .bool S'.up, .bool S'.down] false)] ++ X)).set id (g, .row 53 (S'.send.map msC) true)) ?_ ?_ ?_
    · show inl (σ' ++ ([(1, VObj.box [PV.ptr b 1 0] false), (1, pe), (1, VObj.box [PV.row id g, .bool S'.dial, .bool S'.close, .bool S'.up, .bool S'.down] false)] ++ X)) _ = _
      simp only [inl, inlL, hg', toldC, if_true]
    · show frz (σ' ++ ([(1, VObj.box [PV.ptr b 1 0] false), (1, pe), (1, VObj.box [PV.row id g, .bool S'.dial, .bool S'.close, .bool S'.up, .bool S'.down] false)] ++ X)) _ = _
      simp only [frz, refs, refsL, List.append_nil, frzIds, List.foldl_cons, List.foldl_nil, frzId, hg', VObj.freeze]
    · exact k _ (s2.trans (.of (l := [id]) ((Keep.refl _ _).set (.inl (by simp))) fun i hi => by rw [List.mem_singleton.1 hi]; exact hid)) ⟨_, _, _, _, a3⟩
theorem u21 : U Tryz.prog 21 [] (.tup []) := by
  intro σ Post hk
  refine T21 fun hB hA => ?_
  refine W ?_
  exact hk
set_option maxHeartbeats 8000000 in
theorem tDo {σ : VHeap} {O : List Nat} {b : Nat} {S : Ses} {ev : Ev} {Post : KP} (h : At σ O b S) (oS : OkS S) (oE : OkE ev)
    (k : ∀ (σ' : VHeap) (O' : List Nat) (S' : Ses), Stp σ O σ' O' → At σ' O' b S' → DoR ev S S' → Post (.agg (toldC S')) σ') : T Tryz.prog 10 [.ptr b 1 0, .agg (evC ev)] σ Post := by
  obtain ⟨tm, mid, fv, sv, h⟩ := h
  have hc := h.okc
  have box := h.box
  have bl := vGet_lt box
  have el := evC_len oE.ok
  have es := evC_sc (x := ev)
  have ea := evC_all oE.ok
  have eg := evC_gdo_ oE.ok
  have l0 := scC_len hc
  have z1 : splice (scC (S.c tm fv sv)) 43 [.nils, .bool false, .bool false, .bool false, .bool false] = scC ((S0 S).c tm fv .nil) := spl_sk (o := 22) (prC_len h.pk) rfl (spl_sk (o := 21) rfl rfl (spl_sk (o := 20) rfl rfl (spl_sk (o := 19) rfl rfl (spl_sk (o := 2) (adc_len h.ok) rfl (spl_sk (o := 1) rfl rfl (spl_sk (o := 0) rfl rfl (spl_hd0 rfl)))))))
  have g1 : cut (scC ((S0 S).c tm fv .nil)) 21 none = some (.int .i64 S.st) := scC_gst (x := (S0 S).c tm fv .nil) ⟨h.pk, h.ok⟩
  have b1 := h.put (S0 S) fv .nil rfl h.pk h.ok h.fr rfl (fun m hm => by cases hm) h.fn
  have bl1 := vGet_lt b1.box
  have box1 := b1.box
  have a1 := b1.big [(1, VObj.box [PV.ptr b 1 0] false), (1, VObj.box (evC ev) false), (1, VObj.box [PV.nils, .bool false, .bool false, .bool false, .bool false] false)]
  have st1 := (h.stpB (1, VObj.box (scC ((S0 S).c tm fv .nil)) false)).trans (Stp.big _ O [(1, VObj.box [PV.ptr b 1 0] false), (1, VObj.box (evC ev) false), (1, VObj.box [PV.nils, .bool false, .bool false, .bool false, .bool false] false)])
  have sl : (σ.set b (1, VObj.box (scC ((S0 S).c tm fv .nil)) false)).length = σ.length := List.length_set
  have o1 : Out O (σ.set b (1, VObj.box (scC ((S0 S).c tm fv .nil)) false)).length 3 := b1.out 3
  have hs := oS.st
  refine T10 ?_
  by_cases d1 : ev.do_ = 1
  · by_cases s0 : S.st = 0
    · skip
      refine W ?_
      refine st_callV0 rfl (callV_b (f := 22) (by kernel_rfl) ?_)
      refine tStartS ⟨_, _, _, _, a1⟩ fun σ4 O4 st4 at4 => ?_
      obtain ⟨σ5, X5, rfl, hl5, o5⟩ := st4.split (L := [(1, VObj.box [PV.ptr b 1 0] false), (1, VObj.box (evC ev) false), (1, VObj.box [PV.nils, .bool false, .bool false, .bool false, .bool false] false)]) (X := []) o1
      refine W1 ?_
      refine W1 ?_
      refine doEnd (O := O) at4 (hl5.trans sl) bl rfl rfl o5 (st1.trans st4) fun σ6 st6 at6 => ?_
      exact k σ6 O4 _ st6 at6 (by unfold DoR; simp [*])
    · skip
      refine W ?_
      refine st_callV0 rfl (callV_c (f := 21) (by kernel_rfl) ?_)
      refine u21 _ _ ?_
      refine W1 ?_
      refine W1 ?_
      refine doEnd (O := O) (X := []) ⟨_, _, _, _, a1⟩ sl bl rfl rfl o1 st1 fun σ6 st6 at6 => ?_
      exact k σ6 O _ st6 at6 (by unfold DoR; simp [*])
  by_cases d2 : ev.do_ = 2
  · skip
    refine W ?_
    refine st_callV0 rfl (callV_b (f := 23) (by kernel_rfl) ?_)
    refine tStopS ⟨_, _, _, _, a1⟩ (by show 0 ≤ 1000; omega) fun σ4 O4 st4 at4 => ?_
    obtain ⟨σ5, X5, rfl, hl5, o5⟩ := st4.split (L := [(1, VObj.box [PV.ptr b 1 0] false), (1, VObj.box (evC ev) false), (1, VObj.box [PV.nils, .bool false, .bool false, .bool false, .bool false] false)]) (X := []) o1
    refine W1 ?_
    refine W1 ?_
    refine doEnd (O := O) at4 (hl5.trans sl) bl rfl rfl o5 (st1.trans st4) fun σ6 st6 at6 => ?_
    exact k σ6 O4 _ st6 at6 (by unfold DoR; simp [*])
  by_cases d3 : ev.do_ = 3
  · by_cases s1 : S.st = 1
    · skip
      refine W ?_
      refine st_callV0 rfl (callV_b (f := 24) (by kernel_rfl) ?_)
      refine tConn ⟨_, _, _, _, a1⟩ (by show 0 ≤ 999; omega) oS.lf fun σ4 O4 st4 at4 => ?_
      obtain ⟨σ5, X5, rfl, hl5, o5⟩ := st4.split (L := [(1, VObj.box [PV.ptr b 1 0] false), (1, VObj.box (evC ev) false), (1, VObj.box [PV.nils, .bool false, .bool false, .bool false, .bool false] false)]) (X := []) o1
      refine W1 ?_
      refine W1 ?_
      refine doEnd (O := O) at4 (hl5.trans sl) bl rfl rfl o5 (st1.trans st4) fun σ6 st6 at6 => ?_
      exact k σ6 O4 _ st6 at6 (by unfold DoR; simp [*])
    · skip
      refine W ?_
      refine st_callV0 rfl (callV_c (f := 21) (by kernel_rfl) ?_)
      refine u21 _ _ ?_
      refine W1 ?_
      refine W1 ?_
      refine doEnd (O := O) (X := []) ⟨_, _, _, _, a1⟩ sl bl rfl rfl o1 st1 fun σ6 st6 at6 => ?_
      exact k σ6 O _ st6 at6 (by unfold DoR; simp [*])
  by_cases d4 : ev.do_ = 4
  · skip
    refine W ?_
    refine ct ?_
    refine tHas ⟨_, _, _, _, a1⟩ ?_
    by_cases h2 : 2 ≤ S.st
    · have e2 : decide (2 ≤ (S0 S).st) = true := decide_eq_true h2
      rw [e2]
      refine W ?_
      refine st_callV0 rfl (callV_b (f := 26) (by kernel_rfl) ?_)
      refine tClosed ⟨_, _, _, _, a1⟩ (by show 0 ≤ 1000; omega) fun σ4 O4 st4 at4 => ?_
      obtain ⟨σ5, X5, rfl, hl5, o5⟩ := st4.split (L := [(1, VObj.box [PV.ptr b 1 0] false), (1, VObj.box (evC ev) false), (1, VObj.box [PV.nils, .bool false, .bool false, .bool false, .bool false] false)]) (X := []) o1
      refine W1 ?_
      refine W1 ?_
      refine doEnd (O := O) at4 (hl5.trans sl) bl rfl rfl o5 (st1.trans st4) fun σ6 st6 at6 => ?_
      exact k σ6 O4 _ st6 at6 (by unfold DoR; simp [*])
    · have e2 : decide (2 ≤ (S0 S).st) = false := decide_eq_false h2
      rw [e2]
      refine W ?_
      refine st_callV0 rfl (callV_c (f := 21) (by kernel_rfl) ?_)
      refine u21 _ _ ?_
      refine W1 ?_
      refine W1 ?_
      refine doEnd (O := O) (X := []) ⟨_, _, _, _, a1⟩ sl bl rfl rfl o1 st1 fun σ6 st6 at6 => ?_
      exact k σ6 O _ st6 at6 (by unfold DoR; simp [*])
  by_cases d6 : ev.do_ = 6
  · skip
    refine W ?_
    refine ct ?_
    refine tHas ⟨_, _, _, _, a1⟩ ?_
    by_cases h2 : 2 ≤ S.st
    · have e2 : decide (2 ≤ (S0 S).st) = true := decide_eq_true h2
      rw [e2]
      refine W ?_
      refine st_callV0 rfl (callV_c (f := 27) (by kernel_rfl) ?_)
      refine tDo2 (sp := σ.length + 0) (se := σ.length + 1) ⟨_, _, _, _, a1⟩ (lget sl (vGet_of rfl)) (lget sl (vGet_of rfl)) oE.ok (by show 0 ≤ 1000; omega) oE.nd fun σ4 O4 st4 at4 => ?_
      obtain ⟨σ5, X5, rfl, hl5, o5⟩ := st4.split (L := [(1, VObj.box [PV.ptr b 1 0] false), (1, VObj.box (evC ev) false), (1, VObj.box [PV.nils, .bool false, .bool false, .bool false, .bool false] false)]) (X := []) o1
      refine W1 ?_
      refine W1 ?_
      refine doEnd (O := O) at4 (hl5.trans sl) bl rfl rfl o5 (st1.trans st4) fun σ6 st6 at6 => ?_
      exact k σ6 O4 _ st6 at6 (by unfold DoR; simp [*])
    · have e2 : decide (2 ≤ (S0 S).st) = false := decide_eq_false h2
      rw [e2]
      refine W ?_
      refine st_callV0 rfl (callV_c (f := 21) (by kernel_rfl) ?_)
      refine u21 _ _ ?_
      refine W1 ?_
      refine W1 ?_
      refine doEnd (O := O) (X := []) ⟨_, _, _, _, a1⟩ sl bl rfl rfl o1 st1 fun σ6 st6 at6 => ?_
      exact k σ6 O _ st6 at6 (by unfold DoR; simp [*])
  by_cases d5 : ev.do_ = 5
  · skip
    refine W ?_
    refine ct ?_
    refine tHas ⟨_, _, _, _, a1⟩ ?_
    by_cases h2 : 2 ≤ S.st
    · have e2 : decide (2 ≤ (S0 S).st) = true := decide_eq_true h2
      rw [e2]
      refine W ?_
      refine st_callV0 rfl (callV_c (f := 29) (by kernel_rfl) ?_)
      refine tDo3 (sp := σ.length + 0) (se := σ.length + 1) ⟨_, _, _, _, a1⟩ (lget sl (vGet_of rfl)) (lget sl (vGet_of rfl)) oE.ok hs (by show 0 ≤ 999; omega) oS.lf (fun e => oS.lg (by show S.st ≤ 2; have : S.st = 2 := e; omega)) oE.fo oS.hp oS.hd.2 oE.ho fun σ4 O4 st4 at4 => ?_
      obtain ⟨σ5, X5, rfl, hl5, o5⟩ := st4.split (L := [(1, VObj.box [PV.ptr b 1 0] false), (1, VObj.box (evC ev) false), (1, VObj.box [PV.nils, .bool false, .bool false, .bool false, .bool false] false)]) (X := []) o1
      refine W1 ?_
      refine W1 ?_
      refine doEnd (O := O) at4 (hl5.trans sl) bl rfl rfl o5 (st1.trans st4) fun σ6 st6 at6 => ?_
      exact k σ6 O4 _ st6 at6 (by unfold DoR; simp [*])
    · have e2 : decide (2 ≤ (S0 S).st) = false := decide_eq_false h2
      rw [e2]
      refine W ?_
      refine st_callV0 rfl (callV_c (f := 21) (by kernel_rfl) ?_)
      refine u21 _ _ ?_
      refine W1 ?_
      refine W1 ?_
      refine doEnd (O := O) (X := []) ⟨_, _, _, _, a1⟩ sl bl rfl rfl o1 st1 fun σ6 st6 at6 => ?_
      exact k σ6 O _ st6 at6 (by unfold DoR; simp [*])
  by_cases d7 : ev.do_ = 7
  · skip
    refine W ?_
    refine st_callV0 rfl (callV_b (f := 31) (by kernel_rfl) ?_)
    refine tTickS ⟨_, _, _, _, a1⟩ (by show 0 ≤ 900; omega) oS.lm oS.hd fun σ4 O4 ss st4 hp at4 => ?_
    obtain ⟨σ5, X5, rfl, hl5, o5⟩ := st4.split (L := [(1, VObj.box [PV.ptr b 1 0] false), (1, VObj.box (evC ev) false), (1, VObj.box [PV.nils, .bool false, .bool false, .bool false, .bool false] false)]) (X := []) o1
    refine W1 ?_
    refine W1 ?_
    refine doEnd (O := O) at4 (hl5.trans sl) bl rfl rfl o5 (st1.trans st4) fun σ6 st6 at6 => ?_
    exact k σ6 O4 _ st6 at6 (by unfold DoR; simp [*]; exact ⟨ss, hp, rfl⟩)
  · skip
    refine W ?_
    refine st_callV0 rfl (callV_c (f := 21) (by kernel_rfl) ?_)
    refine u21 _ _ ?_
    refine W1 ?_
    refine W1 ?_
    refine doEnd (O := O) (X := []) ⟨_, _, _, _, a1⟩ sl bl rfl rfl o1 st1 fun σ6 st6 at6 => ?_
    exact k σ6 O _ st6 at6 (by unfold DoR; simp [*])
end Go.Proofs.YtocnjlfnapefjaaGreatDoor
