/- Sessions: opened. -/
import Derived.Test.YtocnjlfnapefjaaGreatDoorT8
namespace Go.Proofs.YtocnjlfnapefjaaGreatDoor
open Go Go.V
set_option maxRecDepth 10000
set_option linter.unusedVariables false
attribute [local irreducible] vBuild vCallV fmC
/-- Its agreed families, its own. -/
@[reducible] def Ses.sF (S : Ses) (l : List Fm) : Ses := { S with fams := l }
@[reducible] def Ses.sId (S : Ses) (a : Ad) : Ses := { S with oid := a }
@[reducible] def Ses.sHd (S : Ses) (v : Int) : Ses := { S with hold := v }
def minI (a b : Int) : Int := if b < a then b else a
def ag (own other : List Fm) : List Fm := own.filter fun f => decide (f ∈ other)
theorem RowAt.fm {x : List Fm} : RowOk 2 (x.map fmC) := fun e he => by obtain ⟨f, _, rfl⟩ := List.mem_map.1 he; exact ⟨fmC_len ⟨trivial⟩, fmC_sc⟩
def openedF (o : Opn) (S : Ses) : Ses :=
  if o.asn ≠ S.p.other then fallF ⟨2, 2, []⟩ S
  else if o.id = S.p.id then fallF ⟨2, 3, []⟩ S
  else
    let S1 := (((S.sId o.id).sHd (minI S.p.hold o.hold)).sF (ag S.p.fams o.fams)).sSt 3
    let S2 := sendF mAlive (S1.sM (mdel openN S1.m))
    S2.sM (tput aliveN (S2.hold.tdiv 3) (tput holdN S2.hold S2.m))
theorem ag_take {l o : List Fm} {i : Nat} {x : Fm} (hx : l[i]? = some x) : ag (l.take (i + 1)) o = ag (l.take i) o ++ (if x ∈ o then [x] else []) := by
  unfold ag
  rw [List.take_add_one, hx, List.filter_append]
  congr 1
  by_cases h : x ∈ o <;> simp [h]
set_option maxHeartbeats 8000000 in
theorem tOpened {σ : VHeap} {O : List Nat} {b : Nat} {S : Ses} {o : Opn} {Post : KP} (h : At σ O b S) (ho : okOp o) (hl : S.send.length ≤ 999) (lf : S.p.fams.length * 16 ≤ 140737488355328) (lg : S.fams = []) (lo : o.fams.length ≤ 140737488355328) (hh : 0 ≤ S.p.hold ∧ S.p.hold ≤ 1000000) (ho1 : -9223372036854775808 ≤ o.hold ∧ o.hold ≤ 9223372036854775807)
    (k : ∀ σ' O', Stp σ O σ' O' → At σ' O' b (openedF o S) → Post (.tup []) σ') : T Tryz.prog 44 [.ptr b 1 0, .agg (opC o)] σ Post := by
  obtain ⟨tm, mid, fv, sv, h⟩ := h
  have hfv := h.fn lg
  subst hfv
  have hc := h.okc
  have box := h.box
  have bl := vGet_lt box
  have pk := h.pk
  have ol := opC_len ho
  have os := opC_sc (x := o)
  have oa := opC_all ho
  have og1 := opC_gasn ho
  have og2 := opC_gid ho
  have og3 := opC_ghold ho
  have og4 := opC_gfams ho
  have il := adc_len ho.id
  have is := adc_sc (a := o.id)
  have g1 : cut (scC (S.c tm .nil sv)) 19 none = some (.int .i64 S.p.other) := cut_pre (prC_gother pk)
  have g2 : cut (scC (S.c tm .nil sv)) 1 (some 17) = some (.agg (adc S.p.id)) := cut_preN (prC_gid pk)
  have g3 : cut (scC (S.c tm .nil sv)) 18 none = some (.int .i64 S.p.hold) := cut_pre (prC_ghold pk)
  have a1 := h.big [(1, VObj.box (opC o) false), D.dd, D.dd, D.dd]
  have d1 : ibin .neq .i64 o.asn .i64 S.p.other = some (.bool (decide (o.asn ≠ S.p.other))) := ib_neq
  have q2 := eqC_ad ho.id pk.id
  refine T44 ?_
  by_cases n1 : o.asn ≠ S.p.other
  · rw [decide_eq_true n1] at d1
    refine W ?_
    refine ct (vs := [.ptr b 1 0, .agg (ntC ⟨2, 2, []⟩)]) ?_ (hi := .pl inferInstance (.agg (.flat rfl) (.nil _))) (hv := rfl)
    refine tFall ⟨_, _, _, _, a1⟩ (by omega) (by simp) fun σ2 O2 st2 at2 => ?_
    refine W ?_
    have e : openedF o S = fallF ⟨2, 2, []⟩ S := if_pos n1
    exact k _ O2 ((Stp.big _ _ _).trans st2) (e ▸ at2)
  rw [decide_eq_false n1] at d1
  by_cases n2 : o.id = S.p.id
  · have q2 : eqCells [.i .i64, .i .u8, .i .u8, .i .u8, .i .u8, .i .u8, .i .u8, .i .u8, .i .u8, .i .u8, .i .u8, .i .u8, .i .u8, .i .u8, .i .u8, .i .u8, .i .u8] (adc o.id) (adc S.p.id) = some true := by rw [beq_iff_eq.2 n2] at q2; exact q2
    refine W ?_
    refine ct (vs := [.ptr b 1 0, .agg (ntC ⟨2, 3, []⟩)]) ?_ (hi := .pl inferInstance (.agg (.flat rfl) (.nil _))) (hv := rfl)
    refine tFall ⟨_, _, _, _, a1⟩ (by omega) (by simp) fun σ2 O2 st2 at2 => ?_
    refine W ?_
    have e : openedF o S = fallF ⟨2, 3, []⟩ S := (if_neg n1).trans (if_pos n2)
    exact k _ O2 ((Stp.big _ _ _).trans st2) (e ▸ at2)
  have q2 : eqCells [.i .i64, .i .u8, .i .u8, .i .u8, .i .u8, .i .u8, .i .u8, .i .u8, .i .u8, .i .u8, .i .u8, .i .u8, .i .u8, .i .u8, .i .u8, .i .u8, .i .u8] (adc o.id) (adc S.p.id) = some false := by rw [beq_eq_false_iff_ne.2 n2] at q2; exact q2
  have l0 := scC_len hc
  have w1 : splice (scC (S.c tm .nil sv)) 24 (adc o.id) = scC ((S.sId o.id).c tm .nil sv) := scC_soid hc (v := o.id) ho.id
  have w2 : splice (scC ((S.sId o.id).c tm .nil sv)) 41 [.int .i64 (minI S.p.hold o.hold)] = scC (((S.sId o.id).sHd (minI S.p.hold o.hold)).c tm .nil sv) := scC_shold (x := (S.sId o.id).c tm .nil sv) ⟨pk, ho.id⟩ (v := _)
  have l1 : (scC ((S.sId o.id).c tm .nil sv)).length = 48 := scC_len ⟨pk, ho.id⟩
  refine sc_seq ?_
  refine Wo ?_
  refine drJ (fun _ => True) [(1, 0), (1, 1), (2, 2), (1, 3), (1, 4), (1, 5), (1, 6), (2, 7), (2, 8)] (by kernel_rfl) (by kernel_rfl) (by exact z_ol) trivial ?_
  refine Wo ?_
  refine drJ (fun _ => True) [(1, 0), (1, 1), (2, 2), (1, 3), (1, 4), (1, 5), (1, 6), (2, 7), (2, 8)] (by kernel_rfl) (by kernel_rfl) (by exact z_ol) trivial ?_
  refine Wo ?_
  refine drJ (fun hh => vGet hh (σ.length + 0) 1 = some (.box (opC o) false)) [(2, 0), (2, 1), (1, 2), (1, 3), (2, 4), (1, 5), (1, 6), (1, 7), (1, 8), (2, 9), (2, 10), (2, 11), (1, 12), (1, 13), (0, 14), (1, 15), (1, 16), (0, 17)] (by kernel_rfl) (by kernel_rfl) (by exact z_ol) (lget rfl rfl) ?_
  refine Wo ?_
  refine sv_0 ?_
  refine est (by exact z_ea) ?_
  refine st_end ⟨lget (by simp) rfl, ?_⟩
  refine Wo ?_
  refine sv_0 ?_
  refine est (by exact z_ea) ?_
  refine st_end ⟨lget (by simp) rfl, ?_⟩
  have b1 := h.put (S.sId o.id) .nil sv rfl pk ho.id h.fr h.sr h.sk h.fn
  have b2 := b1.put ((S.sId o.id).sHd (minI S.p.hold o.hold)) .nil sv rfl pk ho.id b1.fr b1.sr h.sk h.fn
  have box2 := b2.box
  rw [List.set_set] at b2 box2
  have bl2 := vGet_lt box2
  rw [List.set_set]
  generalize hS2 : (S.sId o.id).sHd (minI S.p.hold o.hold) = S2 at b2 box2
  have e2p : S2.p = S.p := by rw [← hS2]
  have g4 : cut (scC (S2.c tm .nil sv)) 20 none = some (.sl (S.p.fams.map fmC)) := by rw [← e2p]; exact cut_pre (prC_gfams b2.pk)
  have fl : (S.p.fams.map fmC).length = S.p.fams.length := List.length_map _
  generalize hσ2 : σ.set b (1, VObj.box (scC (S2.c tm .nil sv)) false) = σ2 at b2 box2 bl2
  have hn2 : σ2.length = σ.length := by rw [← hσ2, List.length_set]
  have h_sk : ∀ m, m ∈ S2.send → okMs m := b2.sk
  clear bl2
  have bl2 : b < σ2.length := by rw [hn2]; exact bl
  refine Wo ?_
  refine lp (fun j e s => ∃ (i : Nat) (fv3 : RV) (g1 : Nat) (o1 : VObj) (g2 : Nat) (o2 : VObj) (x3 : Nat × VObj), e 0 = .ptr b 1 0 ∧ e 3 = .ptr (σ.length + 0) (0 + 1) 0 ∧ e 50 = .sl (S.p.fams.map fmC) ∧ e 51 = .int .i64 S.p.fams.length ∧ e 52 = .int .i64 i ∧ i + j = S.p.fams.length ∧ s = σ2.set b (1, .box (scC (S2.c tm fv3 sv)) false) ++ [(1, .box (opC o) false), (g1, o1), (g2, o2), x3] ∧
    ((fv3 = .nil ∧ ag (S.p.fams.take i) o.fams = [] ∧ x3 = D.dd) ∨ ∃ g3, fv3 = .row (σ.length + 3) g3 ∧ ag (S.p.fams.take i) o.fams ≠ [] ∧ x3 = (g3, .row 2 ((ag (S.p.fams.take i) o.fams).map fmC) false))) S.p.fams.length ⟨0, .nil, 0, .dead, 0, .dead, D.dd, rfl, rfl, rfl, by first | rfl | (rw [← fl]; rfl), rfl, by simp, by rw [set_same box2], .inl ⟨rfl, rfl, rfl⟩⟩ ?_
  intro j u s' hI
  revert hI
  generalize mix _ u _ = E
  rintro ⟨i, fv3, g1, o1, g2, o2, x3, e0, e3, e50, e51, e52, hij, rfl, hx3⟩
  have bx : vGet (σ2.set b (1, VObj.box (scC (S2.c tm fv3 sv)) false)) b 1 = some (.box (scC (S2.c tm fv3 sv)) false) := hget_eq bl2
  have bxl := vGet_lt bx
  have sl : (σ2.set b (1, VObj.box (scC (S2.c tm fv3 sv)) false)).length = σ.length := by rw [List.length_set, hn2]
  have okc : okSc (S2.c tm fv3 sv) := ⟨b2.pk, b2.ok⟩
  have lc := scC_len okc
  have g5 : cut (scC (S2.c tm fv3 sv)) 42 none = some (rvc fv3) := scC_gfv okc
  by_cases hlt : i < S.p.fams.length
  · obtain ⟨x, hx⟩ : ∃ x, S.p.fams[i]? = some x := ⟨_, List.getElem?_eq_getElem hlt⟩
    have hg : (S.p.fams.map fmC)[(i : Int).toNat]? = some (fmC x) := by rw [Int.toNat_natCast, List.getElem?_map, hx]; rfl
    have xs := fmC_sc (x := x)
    have xl := fmC_len (x := x) ⟨trivial⟩
    have xa := fmC_all (x := x) ⟨trivial⟩
    have xz : splice [D.i 0, D.i 0] 0 (fmC x) = fmC x := spl_hd0 (by rw [xl]; rfl)
    have tk := ag_take (o := o.fams) hx
    have r1 : RowOk 2 [fmC x] := by intro e he; rw [List.mem_singleton.1 he]; exact ⟨xl, xs⟩
    have al : (ag (S.p.fams.take i) o.fams).length ≤ i := by
      refine Nat.le_trans (List.length_filter_le _ _) ?_
      rw [List.length_take]; omega
    refine W ?_
    refine cu (uContF lo) ?_
    by_cases hm : x ∈ o.fams
    · rw [decide_eq_true hm]
      rw [if_pos hm] at tk
      refine Wo ?_
      refine drTree (fun hh => (∃ cs, vGet hh b 1 = some (.box cs false)) ∧ vGet hh (σ.length + 1) (g1 + 1) = some (.box (fmC x) false)) (.br [(2, 0), (2, 1), (2, 2), (2, 3), (2, 5)] 4 (.br [] 6 (.br [] 7 (.br [(1, 8), (1, 9)] 10 (.fin []) .stop) .stop) .stop) (.br [] 6 (.br [] 4 (.br [] 7 (.br [(1, 8), (1, 9)] 10 (.fin []) .stop) .stop) .stop) .stop)) (by kernel_rfl) (by kernel_rfl) ⟨⟨_, oget bx⟩, lget sl (vGet_of rfl)⟩ ?_
      refine vt_br (by exact z_ol) ?_
      refine Wo ?_
      refine sv2n (fun hh hJ => y_nil rfl hJ.1.choose_spec) ?_
      refine sv2n (fun hh hJ => y_field rfl hJ.1.choose_spec rfl) ?_
      refine sv2n (fun hh hJ => y_load rfl hJ.2 xa) ?_
      refine Wo ?_
      refine va_br rfl ?_ ?_
      · skip
        refine ys1 (y_load rfl (oget bx) g5) ?_
        refine st_end ⟨⟨⟨_, oget bx⟩, lget sl (vGet_of rfl)⟩, ?_⟩
        refine vt_br (by exact z_ol) ?_
        refine sv_nil ?_
        refine va_br rfl ?_ va_stop
        refine est (by exact z_ea) ?_
        refine st_end ⟨⟨⟨_, oget bx⟩, lget sl (vGet_of rfl)⟩, ?_⟩
        refine vt_br (by exact z_ol) ?_
        refine sv_nil ?_
        refine va_br rfl ?_ va_stop
        rcases hx3 with ⟨rfl, eA, rfl⟩ | ⟨g3, rfl, nA, rfl⟩
        · have w3 : splice (scC (S2.c tm .nil sv)) 42 [.row (σ.length + 3) (0 + 1)] = scC (S2.c tm (.row (σ.length + 3) (0 + 1)) sv) := scC_sfv (x := S2.c tm .nil sv) b2.okc (v := .row _ _)
          refine est (e_append0 rfl (ra_row sl (vGet_of rfl)) r1 (by simp) sl rfl (by exact z_nl)) ?_
          refine st_end ⟨⟨⟨_, oget bx⟩, lget sl (vGet_of rfl)⟩, ?_⟩
          refine vt_br (by exact z_ol) ?_
          refine Wo ?_
          refine va_br rfl ?_ va_stop
          refine est (by exact z_ea) ?_
          refine st_end ⟨⟨⟨_, oget (hget_eq bxl)⟩, lget (by simp [hn2]) (vGet_of rfl)⟩, ?_⟩
          refine vt_fin (by exact z_ol) ?_
          refine sv_nil ?_
          rw [List.set_set]
          refine W ?_
          refine ⟨j - 1, by omega, i + 1, .row (σ.length + 3) (0 + 1), _, _, _, _, _, e0, e3, e50, e51, rfl, by omega, rfl, .inr ⟨_, rfl, by rw [tk]; simp, ?_⟩⟩
          rw [tk, eA]; rfl
        · have w3 : splice (scC (S2.c tm (.row (σ.length + 3) g3) sv)) 42 [.row (σ.length + 3) (g3 + 1)] = scC (S2.c tm (.row (σ.length + 3) (g3 + 1)) sv) := scC_sfv (x := S2.c tm (.row (σ.length + 3) g3) sv) ⟨b2.pk, b2.ok⟩ (v := .row _ _)
          have ap : (ag (S.p.fams.take i) o.fams).map fmC ++ [fmC x] = (ag (S.p.fams.take (i + 1)) o.fams).map fmC := by rw [tk, List.map_append]; rfl
          refine est (e_append (new := [fmC x]) rfl (ra_row sl (vGet_of rfl)) r1 sl (vGet_of rfl) (by rw [List.length_map]; simp; omega) (SApp.mk ap) (by exact z_nl)) ?_
          refine st_end ⟨⟨⟨_, oget bx⟩, lget sl (vGet_of rfl)⟩, ?_⟩
          refine vt_br (by exact z_ol) ?_
          refine Wo ?_
          refine va_br rfl ?_ va_stop
          refine est (by exact z_ea) ?_
          refine st_end ⟨⟨⟨_, oget (hget_eq bxl)⟩, lget (by simp [hn2]) (vGet_of rfl)⟩, ?_⟩
          refine vt_fin (by exact z_ol) ?_
          refine sv_nil ?_
          rw [List.set_set]
          refine W ?_
          exact ⟨j - 1, by omega, i + 1, .row (σ.length + 3) (g3 + 1), _, _, _, _, _, e0, e3, e50, e51, rfl, by omega, rfl, .inr ⟨_, rfl, by rw [tk]; simp, rfl⟩⟩
      · skip
        refine va_br rfl ?_ va_stop
        refine est (by exact z_ea) ?_
        refine st_end ⟨⟨⟨_, oget bx⟩, lget sl (vGet_of rfl)⟩, ?_⟩
        refine vt_br (by exact z_ol) ?_
        refine sv_nil ?_
        refine va_br rfl ?_ va_stop
        refine ys1 (y_load rfl (oget bx) g5) ?_
        refine st_end ⟨⟨⟨_, oget bx⟩, lget sl (vGet_of rfl)⟩, ?_⟩
        refine vt_br (by exact z_ol) ?_
        refine sv_nil ?_
        refine va_br rfl ?_ va_stop
        rcases hx3 with ⟨rfl, eA, rfl⟩ | ⟨g3, rfl, nA, rfl⟩
        · have w3 : splice (scC (S2.c tm .nil sv)) 42 [.row (σ.length + 3) (0 + 1)] = scC (S2.c tm (.row (σ.length + 3) (0 + 1)) sv) := scC_sfv (x := S2.c tm .nil sv) b2.okc (v := .row _ _)
          refine est (e_append0 rfl (ra_row sl (vGet_of rfl)) r1 (by simp) sl rfl (by exact z_nl)) ?_
          refine st_end ⟨⟨⟨_, oget bx⟩, lget sl (vGet_of rfl)⟩, ?_⟩
          refine vt_br (by exact z_ol) ?_
          refine Wo ?_
          refine va_br rfl ?_ va_stop
          refine est (by exact z_ea) ?_
          refine st_end ⟨⟨⟨_, oget (hget_eq bxl)⟩, lget (by simp [hn2]) (vGet_of rfl)⟩, ?_⟩
          refine vt_fin (by exact z_ol) ?_
          refine sv_nil ?_
          rw [List.set_set]
          refine W ?_
          refine ⟨j - 1, by omega, i + 1, .row (σ.length + 3) (0 + 1), _, _, _, _, _, e0, e3, e50, e51, rfl, by omega, rfl, .inr ⟨_, rfl, by rw [tk]; simp, ?_⟩⟩
          rw [tk, eA]; rfl
        · have w3 : splice (scC (S2.c tm (.row (σ.length + 3) g3) sv)) 42 [.row (σ.length + 3) (g3 + 1)] = scC (S2.c tm (.row (σ.length + 3) (g3 + 1)) sv) := scC_sfv (x := S2.c tm (.row (σ.length + 3) g3) sv) ⟨b2.pk, b2.ok⟩ (v := .row _ _)
          have ap : (ag (S.p.fams.take i) o.fams).map fmC ++ [fmC x] = (ag (S.p.fams.take (i + 1)) o.fams).map fmC := by rw [tk, List.map_append]; rfl
          refine est (e_append (new := [fmC x]) rfl (ra_row sl (vGet_of rfl)) r1 sl (vGet_of rfl) (by rw [List.length_map]; simp; omega) (SApp.mk ap) (by exact z_nl)) ?_
          refine st_end ⟨⟨⟨_, oget bx⟩, lget sl (vGet_of rfl)⟩, ?_⟩
          refine vt_br (by exact z_ol) ?_
          refine Wo ?_
          refine va_br rfl ?_ va_stop
          refine est (by exact z_ea) ?_
          refine st_end ⟨⟨⟨_, oget (hget_eq bxl)⟩, lget (by simp [hn2]) (vGet_of rfl)⟩, ?_⟩
          refine vt_fin (by exact z_ol) ?_
          refine sv_nil ?_
          rw [List.set_set]
          refine W ?_
          exact ⟨j - 1, by omega, i + 1, .row (σ.length + 3) (g3 + 1), _, _, _, _, _, e0, e3, e50, e51, rfl, by omega, rfl, .inr ⟨_, rfl, by rw [tk]; simp, rfl⟩⟩
    · rw [decide_eq_false hm]
      rw [if_neg hm, List.append_nil] at tk
      refine W ?_
      refine ⟨j - 1, by omega, i + 1, fv3, _, _, _, _, _, e0, e3, e50, e51, rfl, by omega, rfl, ?_⟩
      rw [tk]; exact hx3
  · have hi : i = S.p.fams.length := by omega
    rw [hi, List.take_length] at hx3
    have w4 : splice (scC (S2.c tm fv3 sv)) 21 [.int .i64 3] = scC ((S2.sSt 3).c tm fv3 sv) := scC_sst okc (v := 3)
    have g6 : cut (scC ((S2.sSt 3).c tm fv3 sv)) 23 none = some (.ptr tm 1 0) := scC_gtm (x := (S2.sSt 3).c tm fv3 sv) ⟨b2.pk, b2.ok⟩
    have c1 : SesAt (σ2 ++ [(1, VObj.box (opC o) false), (g1, o1), (g2, o2), x3]) ((σ.length + 3) :: O) b S2 tm mid .nil sv := b2.wide ((Keep.refl _ _).app _) (fun i hi => List.mem_cons_of_mem _ hi) fun i hi => by
      rw [List.length_append, hn2]
      rcases List.mem_cons.1 hi with hi | hi
      · rw [hi]; simp
      · have := h.lt i hi; omega
    have c2 := c1.put (S2.sF (ag S.p.fams o.fams)) fv3 sv rfl b2.pk b2.ok (by
      rcases hx3 with ⟨rfl, eA, rfl⟩ | ⟨g3, rfl, nA, rfl⟩
      · show ((ag S.p.fams o.fams).map fmC) = []; rw [eA]; rfl
      · exact ⟨List.mem_cons_self, false, lget hn2 (vGet_of rfl)⟩) c1.sr h_sk (by
      rcases hx3 with ⟨rfl, eA, rfl⟩ | ⟨g3, rfl, nA, rfl⟩
      · exact fun _ => rfl
      · exact fun e => absurd e nA)
    have c3 := c2.put ((S2.sF (ag S.p.fams o.fams)).sSt 3) fv3 sv rfl b2.pk b2.ok c2.fr c2.sr h_sk c2.fn
    rw [oset _ bl2, oset _ (by rw [List.length_set]; exact bl2)] at c3
    replace c3 : SesAt ((σ2.set b (1, .box (scC (S2.c tm fv3 sv)) false)).set b (1, .box (scC ((S2.sSt 3).c tm fv3 sv)) false) ++ [(1, VObj.box (opC o) false), (g1, o1), (g2, o2), x3]) ((σ.length + 3) :: O) b ((S2.sF (ag S.p.fams o.fams)).sSt 3) tm mid fv3 sv := c3
    have st1 : Stp σ O ((σ2.set b (1, .box (scC (S2.c tm fv3 sv)) false)).set b (1, .box (scC ((S2.sSt 3).c tm fv3 sv)) false) ++ [(1, VObj.box (opC o) false), (g1, o1), (g2, o2), x3]) ((σ.length + 3) :: O) := by
      refine ⟨?_, fun i hi => ?_, fun i hi => List.mem_cons_of_mem _ hi⟩
      · rw [← hσ2]
        exact ((((Keep.refl _ _).set (.inl h.bO)).set (.inl h.bO)).set (.inl h.bO)).app _
      · rcases List.mem_cons.1 hi with hi | hi
        · exact .inr (by omega)
        · exact .inl hi
    have out0 : ∀ (O' : List Nat) (n : Nat), Out O' n 0 := fun O' n i _ => by omega
    have sl4 : ((σ2.set b (1, VObj.box (scC (S2.c tm fv3 sv)) false)).set b (1, VObj.box (scC ((S2.sSt 3).c tm fv3 sv)) false)).length = σ.length := by rw [List.length_set, sl]
    refine W ?_
    refine ct ?_
    refine tStop (name := openN) c3.t fun σ5 K5 t5 => ?_
    have c4 := c3.tmr K5 t5
    have st5 := c3.stp K5
    obtain ⟨σ6, X6, rfl, hl6, -⟩ := st5.split (L := []) (out0 _ _)
    rw [sl4] at hl6
    clear K5 t5
    refine W ?_
    refine ct (vs := [.ptr b 1 0, .agg (msC mAlive)]) ?_ (hi := .pl inferInstance (.agg (.flat aliveL_plB) (.nil _))) (hv := congrArg (fun x => [PV.ptr b 1 0, PV.agg x]) aliveL_nz)
    refine tSend ⟨_, _, _, _, c4⟩ mAlive_ok (by show S2.send.length ≤ 1000; rw [← hS2]; show S.send.length ≤ 1000; omega) fun σ7 O7 st7 at7 => ?_
    obtain ⟨σ8, X8, rfl, hl8, -⟩ := st7.split (L := []) (out0 _ _)
    rw [hl6] at hl8
    obtain ⟨tm5, mid5, fv5, sv5, c5⟩ := at7
    generalize hS5 : sendF mAlive (((S2.sF (ag S.p.fams o.fams)).sSt 3).sM (mdel openN ((S2.sF (ag S.p.fams o.fams)).sSt 3).m)) = S5 at c5
    have hb5 : S5.hold = minI S.p.hold o.hold := by rw [← hS5, ← hS2]; rfl
    have hq5 : minI S.p.hold o.hold ≤ 1000000 := by unfold minI; split <;> omega
    have hq6 : -9223372036854775808 ≤ minI S.p.hold o.hold := by unfold minI; split <;> omega
    have iq := ib_quo3 (h := minI S.p.hold o.hold) hq6 (by omega)
    have hq7 : (minI S.p.hold o.hold).tdiv 3 ≤ 9223372036854775807 := by
      rcases Int.lt_or_le (minI S.p.hold o.hold) 0 with h2 | h2
      · have := (tdiv3 (minI S.p.hold o.hold)).2.2 (by omega); omega
      · have := (tdiv3 (minI S.p.hold o.hold)).2.1 h2; omega
    have box5 := c5.box
    have gt5 : cut (scC (S5.c tm5 fv5 sv5)) 23 none = some (.ptr tm5 1 0) := scC_gtm c5.okc
    have gh5 : cut (scC (S5.c tm5 fv5 sv5)) 41 none = some (.int .i64 (minI S.p.hold o.hold)) := by rw [← hb5]; exact scC_ghold c5.okc
    refine W ?_
    refine sv_0 ?_
    refine ct ?_
    refine tStart (name := holdN) c5.t (by omega) fun σ9 K9 t9 => ?_
    have c6 : SesAt σ9 O7 b (S5.sM (tput holdN (minI S.p.hold o.hold) S5.m)) tm5 mid5 fv5 sv5 := c5.tmr K9 t9
    have st9 := c5.stp K9
    obtain ⟨σ10, X10, rfl, hl10, -⟩ := st9.split (L := []) (out0 _ _)
    rw [hl8] at hl10
    clear K9 t9
    generalize hM6 : tput holdN (minI S.p.hold o.hold) S5.m = M6 at c6
    have box6 := c6.box
    have gt6 : cut (scC ((S5.sM M6).c tm5 fv5 sv5)) 23 none = some (.ptr tm5 1 0) := gt5
    have gh6 : cut (scC ((S5.sM M6).c tm5 fv5 sv5)) 41 none = some (.int .i64 (minI S.p.hold o.hold)) := gh5
    refine st_end ⟨trivial, sv_nil ?_⟩
    refine W ?_
    refine sv_0 ?_
    refine ct ?_
    refine tStart (name := aliveN) c6.t hq7 fun σ11 K11 t11 => ?_
    have c7 : SesAt σ11 O7 b (S5.sM (tput aliveN ((minI S.p.hold o.hold).tdiv 3) M6)) tm5 mid5 fv5 sv5 := c6.tmr K11 t11
    have st11 := c6.stp K11
    refine st_end ⟨trivial, sv_nil ?_⟩
    refine ret_n (v := .tup []) (.inr rfl) rfl rfl inferInstance ?_
    have e : openedF o S = S5.sM (tput aliveN ((minI S.p.hold o.hold).tdiv 3) M6) := by
      unfold openedF
      rw [if_neg n1, if_neg n2, ← hM6, ← hb5, ← hS5, ← hS2]
      rfl
    exact k _ O7 (st1.trans (st5.trans (st7.trans (st9.trans st11)))) (e ▸ ⟨_, _, _, _, c7⟩)
end Go.Proofs.YtocnjlfnapefjaaGreatDoor
