/- Sessions: dial, still, send. -/
import Derived.Test.YtocnjlfnapefjaaGreatDoorT4
namespace Go.Proofs.YtocnjlfnapefjaaGreatDoor
open Go Go.V
set_option maxRecDepth 10000
set_option linter.unusedVariables false
attribute [local irreducible] vBuild vCallV
def aliveN : List UInt8 := [97, 108, 105, 118, 101]
def holdN : List UInt8 := [104, 111, 108, 100]
def idleN : List UInt8 := [105, 100, 108, 101]
def openN : List UInt8 := [111, 112, 101, 110]
def retryN : List UInt8 := [114, 101, 116, 114, 121]
def tput (name : List UInt8) (n : Int) (M : TM) : TM := if startR name n M = 0 then mput name n M else M
def dialF (S : Ses) : Ses := { S with st := 1, dial := true, m := tput retryN 5 S.m }
theorem tDial {σ : VHeap} {O : List Nat} {b : Nat} {S : Ses} {Post : KP} (h : At σ O b S) (k : ∀ σ' O', Stp σ O σ' O' → At σ' O' b (dialF S) → Post (.tup []) σ') : T Tryz.prog 39 [.ptr b 1 0] σ Post := by
  obtain ⟨tm, mid, fv, sv, h⟩ := h
  have hc := h.okc
  have box := h.box
  have s1 : splice (scC (S.c tm fv sv)) 21 [.int .i64 1] = scC (({ S with st := 1 } : Ses).c tm fv sv) := scC_sst hc (v := 1)
  have s2 : splice (scC (({ S with st := 1 } : Ses).c tm fv sv)) 44 [.bool true] = scC (({ S with st := 1, dial := true } : Ses).c tm fv sv) := scC_sdial (x := ({ S with st := 1 } : Ses).c tm fv sv) ⟨h.pk, h.ok⟩ (v := true)
  have g1 : cut (scC (({ S with st := 1, dial := true } : Ses).c tm fv sv)) 23 none = some (.ptr tm 1 0) := scC_gtm (x := ({ S with st := 1, dial := true } : Ses).c tm fv sv) ⟨h.pk, h.ok⟩
  have l1 := scC_len hc
  have l2 := scC_len (x := ({ S with st := 1 } : Ses).c tm fv sv) ⟨h.pk, h.ok⟩
  have bl := vGet_lt box
  refine T39 ?_
  refine W ?_
  refine ct ?_
  rw [List.append_nil]
  have a1 := h.put { S with st := 1 } fv sv rfl h.pk h.ok h.fr h.sr h.sk h.fn
  have a2 := a1.put { S with st := 1, dial := true } fv sv rfl h.pk h.ok a1.fr a1.sr h.sk h.fn
  refine tStart (name := retryN) a2.t (by omega) fun σ' K t' => ?_
  refine W ?_
  refine ret_n (v := .tup []) (.inr rfl) rfl rfl inferInstance ?_
  exact k σ' O (((h.stpB _).trans (a1.stpB _)).trans (a2.stp K)) ⟨_, _, _, _, a2.tmr K t'⟩
def stillF (S : Ses) : Ses := { S with m := [], st := 0, oid := ad0, hold := 0, fams := [] }
theorem tStill {σ : VHeap} {O : List Nat} {b : Nat} {S : Ses} {Post : KP} (h : At σ O b S) (k : ∀ σ' O', Stp σ O σ' O' → At σ' O' b (stillF S) → Post (.tup []) σ') : T Tryz.prog 40 [.ptr b 1 0] σ Post := by
  obtain ⟨tm, mid, fv, sv, h⟩ := h
  have hc := h.okc
  have box := h.box
  have g1 : cut (scC (S.c tm fv sv)) 23 none = some (.ptr tm 1 0) := scC_gtm hc
  have bl := vGet_lt box
  refine T40 ?_
  refine W ?_
  refine ct ?_
  rw [List.append_nil]
  refine tClear h.t fun σ' K t' => ?_
  have h1 := h.tmr K t'
  have st1 := h.stp K
  have box := h1.box
  have s1 : splice (scC (({ S with m := [] } : Ses).c tm fv sv)) 21 [.int .i64 0] = scC (({ S with m := [], st := 0 } : Ses).c tm fv sv) := scC_sst hc (v := 0)
  have hc2 : okSc (({ S with m := [], st := 0 } : Ses).c tm fv sv) := ⟨h.pk, h.ok⟩
  have s2 : splice (scC (({ S with m := [], st := 0 } : Ses).c tm fv sv)) 24 (adc ad0) = scC (({ S with m := [], st := 0, oid := ad0 } : Ses).c tm fv sv) := scC_soid hc2 (v := ad0) ad0_ok
  have hc3 : okSc (({ S with m := [], st := 0, oid := ad0 } : Ses).c tm fv sv) := ⟨h.pk, ad0_ok⟩
  have s3 : splice (scC (({ S with m := [], st := 0, oid := ad0 } : Ses).c tm fv sv)) 41 [.int .i64 0] = scC (({ S with m := [], st := 0, oid := ad0, hold := 0 } : Ses).c tm fv sv) := scC_shold hc3 (v := 0)
  have s4 : splice (scC (({ S with m := [], st := 0, oid := ad0, hold := 0 } : Ses).c tm fv sv)) 42 [.nils] = scC (({ S with m := [], st := 0, oid := ad0, hold := 0, fams := [] } : Ses).c tm .nil sv) := scC_sfv (x := ({ S with m := [], st := 0, oid := ad0, hold := 0 } : Ses).c tm fv sv) ⟨h.pk, ad0_ok⟩ (v := .nil)
  have l0 := scC_len h1.okc
  have l1 := scC_len hc2
  have l2 := scC_len hc3
  have l3 : (scC (({ S with m := [], st := 0, oid := ad0, hold := 0 } : Ses).c tm fv sv)).length = 48 := scC_len (x := ({ S with m := [], st := 0, oid := ad0, hold := 0 } : Ses).c tm fv sv) ⟨h.pk, ad0_ok⟩
  have bl := vGet_lt box
  rw [show σ' = σ' ++ [] by rw [List.append_nil]]
  refine W ?_
  refine ret_n (v := .tup []) (.inr rfl) rfl rfl inferInstance ?_
  have a1 := h1.put { S with m := [], st := 0 } fv sv rfl h.pk h.ok h1.fr h1.sr h.sk h.fn
  have a2 := a1.put { S with m := [], st := 0, oid := ad0 } fv sv rfl h.pk ad0_ok a1.fr a1.sr h.sk h.fn
  have a3 := a2.put { S with m := [], st := 0, oid := ad0, hold := 0 } fv sv rfl h.pk ad0_ok a2.fr a2.sr h.sk h.fn
  have a4 := a3.put { S with m := [], st := 0, oid := ad0, hold := 0, fams := [] } .nil sv rfl h.pk ad0_ok rfl a3.sr h.sk fun _ => rfl
  rw [List.append_nil]
  exact k _ O (st1.trans ((h1.stpB _).trans ((a1.stpB _).trans ((a2.stpB _).trans (a3.stpB _))))) ⟨_, _, _, _, a4⟩
def sendF (m : Ms) (S : Ses) : Ses := { S with send := S.send ++ [m] }
set_option maxHeartbeats 4000000 in
theorem tSend {σ : VHeap} {O : List Nat} {b : Nat} {S : Ses} {m : Ms} {Post : KP} (h : At σ O b S) (hm : okMs m) (hl : S.send.length ≤ 1000) (k : ∀ σ' O', Stp σ O σ' O' → At σ' O' b (sendF m S) → Post (.tup []) σ') : T Tryz.prog 42 [.ptr b 1 0, .agg (msC m)] σ Post := by
  obtain ⟨tm, mid, fv, sv, h⟩ := h
  have hc := h.okc
  have box := h.box
  have bl := vGet_lt box
  have g1 : cut (scC (S.c tm fv sv)) 43 none = some (rvc sv) := scC_gsv hc
  have ml := msC_len hm
  have ms := msC_sc (x := m)
  have ma := msC_all hm
  have r1 : RowOk 53 [msC m] := by intro e he; rw [List.mem_singleton.1 he]; exact ⟨ml, ms⟩
  have l0 := scC_len hc
  have hsk : ∀ x, x ∈ S.send ++ [m] → okMs x := by
    intro x hx
    rcases List.mem_append.1 hx with hx | hx
    · exact h.sk x hx
    · rw [List.mem_singleton.1 hx]; exact hm
  refine T42 ?_
  refine Wo ?_
  refine drTree (fun hh => (∃ cs, vGet hh b 1 = some (.box cs false)) ∧ vGet hh (σ.length + 0) 1 = some (.box (msC m) false)) (.br [(2, 0), (2, 1), (2, 2), (2, 3), (2, 4), (2, 6)] 5 (.br [] 7 (.br [] 8 (.br [(1, 9), (1, 10), (1, 11)] 12 (.fin []) .stop) .stop) .stop) (.br [] 7 (.br [] 5 (.br [] 8 (.br [(1, 9), (1, 10), (1, 11)] 12 (.fin []) .stop) .stop) .stop) .stop)) (by kernel_rfl) (by kernel_rfl) ⟨⟨_, oget box⟩, lget rfl rfl⟩ ?_
  refine vt_br (by exact z_ol) ?_
  refine Wo ?_
  refine sv2n (fun hh hJ => y_nil rfl hJ.1.choose_spec) ?_
  refine sv2n (fun hh hJ => y_field rfl hJ.1.choose_spec rfl) ?_
  refine sv2n (fun hh hJ => y_field rfl hJ.1.choose_spec rfl) ?_
  refine sv2n (fun hh hJ => y_load rfl hJ.2 ma) ?_
  refine Wo ?_
  refine va_br rfl ?_ ?_
  · skip
    refine ys1 (y_load rfl (oget box) g1) ?_
    refine st_end ⟨⟨⟨_, oget box⟩, lget rfl rfl⟩, ?_⟩
    refine vt_br (by exact z_ol) ?_
    refine sv_nil ?_
    refine va_br rfl ?_ va_stop
    refine est (by exact z_ea) ?_
    refine st_end ⟨⟨⟨_, oget box⟩, lget rfl rfl⟩, ?_⟩
    refine vt_br (by exact z_ol) ?_
    refine sv_nil ?_
    refine va_br rfl ?_ va_stop
    cases sv with
    | nil =>
      have e0 : S.send = [] := List.map_eq_nil_iff.1 h.sr
      have s1 : splice (scC (S.c tm fv .nil)) 43 [.row (σ.length + 2) (0 + 1)] = scC ((sendF m S).c tm fv (.row (σ.length + 2) (0 + 1))) := scC_ssv (x := S.c tm fv .nil) hc (v := .row _ _)
      refine est (e_append0 rfl (ra_row rfl (vGet_of rfl)) r1 (by simp) rfl rfl (by exact z_nl)) ?_
      refine st_end ⟨⟨⟨_, oget box⟩, lget rfl rfl⟩, ?_⟩
      refine vt_br (by exact z_ol) ?_
      refine Wo ?_
      refine va_br rfl ?_ va_stop
      refine est (by exact z_ea) ?_
      refine st_end ⟨⟨⟨_, oget (hget_eq bl)⟩, lget (by simp) rfl⟩, ?_⟩
      refine vt_fin (by exact z_ol) ?_
      refine sv_nil ?_
      refine ret_n (v := .tup []) (.inr rfl) rfl rfl inferInstance ?_
      refine k _ ((σ.length + 2) :: O) ⟨((Keep.refl _ _).set (.inl h.bO)).app _, fun i hi => ?_, fun i hi => List.mem_cons_of_mem _ hi⟩ ⟨tm, mid, fv, .row (σ.length + 2) (0 + 1), ?_⟩
      · rcases List.mem_cons.1 hi with hi | hi
        · exact .inr (by omega)
        · exact .inl hi
      · rw [← oset _ bl]
        refine (h.wide (O' := (σ.length + 2) :: O) ((Keep.refl _ _).app _) (fun i hi => List.mem_cons_of_mem _ hi) fun i hi => ?_).put (sendF m S) fv (.row (σ.length + 2) (0 + 1)) rfl h.pk h.ok (h.fr.keep (l := []) ((Keep.refl _ _).app _) (by simp) fun i hi => List.mem_cons_of_mem _ hi) ?_ hsk h.fn
        · rw [List.length_append]
          rcases List.mem_cons.1 hi with hi | hi
          · rw [hi]; simp
          · have := h.lt i hi; omega
        · refine ⟨List.mem_cons_self, false, ?_⟩
          show vGet _ _ _ = some (.row 53 ((S.send ++ [m]).map msC) false)
          rw [e0]
          exact lget rfl (vGet_of rfl)
    | row id g =>
      obtain ⟨hid, fz, hg⟩ := h.sr
      have il := vGet_lt hg
      have ap : S.send.map msC ++ [msC m] = (S.send ++ [m]).map msC := by simp
      have nb : id ≠ b := by rintro rfl; have h1 := vGet_some hg; rw [vGet_some box] at h1; cases h1
      have s1 : splice (scC (S.c tm fv (.row id g))) 43 [.row id (g + 1)] = scC ((sendF m S).c tm fv (.row id (g + 1))) := scC_ssv (x := S.c tm fv (.row id g)) hc (v := .row _ _)
      refine st_appendO (new := [msC m]) rfl (ra_row rfl (vGet_of rfl)) r1 (oget hg) (by simp; omega) ?_
      rw [oset _ il, ap]
      have box2 : vGet (σ.set id (g + 1, VObj.row 53 ((S.send ++ [m]).map msC) fz)) b 1 = some (.box (scC (S.c tm fv (.row id g))) false) := hget_ne nb box
      have bl2 := vGet_lt box2
      refine st_end ⟨⟨⟨_, oget box2⟩, lget (by simp) rfl⟩, ?_⟩
      refine vt_br (by exact z_ol) ?_
      refine Wo ?_
      refine va_br rfl ?_ va_stop
      refine est (by exact z_ea) ?_
      refine st_end ⟨⟨⟨_, oget (hget_eq bl2)⟩, lget (by simp) rfl⟩, ?_⟩
      refine vt_fin (by exact z_ol) ?_
      refine sv_nil ?_
      refine ret_n (v := .tup []) (.inr rfl) rfl rfl inferInstance ?_
      have a1 := h.row (sendF m S) fv (.row id (g + 1)) (es' := (S.send ++ [m]).map msC) hid hg rfl h.pk h.ok (h.fr.other hg (by decide)) ⟨hid, fz, hget_eq il⟩ hsk h.fn
      refine k _ O ⟨(((Keep.refl _ _).set (.inl hid)).set (.inl h.bO)).app _, fun i hi => .inl hi, fun i hi => hi⟩ ⟨tm, mid, fv, .row id (g + 1), ?_⟩
      exact a1.wide ((Keep.refl _ _).app _) (fun i hi => hi) fun i hi => by rw [List.length_append]; have := a1.lt i hi; omega
  · skip
    refine va_br rfl ?_ va_stop
    refine est (by exact z_ea) ?_
    refine st_end ⟨⟨⟨_, oget box⟩, lget rfl rfl⟩, ?_⟩
    refine vt_br (by exact z_ol) ?_
    refine sv_nil ?_
    refine va_br rfl ?_ va_stop
    refine ys1 (y_load rfl (oget box) g1) ?_
    refine st_end ⟨⟨⟨_, oget box⟩, lget rfl rfl⟩, ?_⟩
    refine vt_br (by exact z_ol) ?_
    refine sv_nil ?_
    refine va_br rfl ?_ va_stop
    cases sv with
    | nil =>
      have e0 : S.send = [] := List.map_eq_nil_iff.1 h.sr
      have s1 : splice (scC (S.c tm fv .nil)) 43 [.row (σ.length + 2) (0 + 1)] = scC ((sendF m S).c tm fv (.row (σ.length + 2) (0 + 1))) := scC_ssv (x := S.c tm fv .nil) hc (v := .row _ _)
      refine est (e_append0 rfl (ra_row rfl (vGet_of rfl)) r1 (by simp) rfl rfl (by exact z_nl)) ?_
      refine st_end ⟨⟨⟨_, oget box⟩, lget rfl rfl⟩, ?_⟩
      refine vt_br (by exact z_ol) ?_
      refine Wo ?_
      refine va_br rfl ?_ va_stop
      refine est (by exact z_ea) ?_
      refine st_end ⟨⟨⟨_, oget (hget_eq bl)⟩, lget (by simp) rfl⟩, ?_⟩
      refine vt_fin (by exact z_ol) ?_
      refine sv_nil ?_
      refine ret_n (v := .tup []) (.inr rfl) rfl rfl inferInstance ?_
      refine k _ ((σ.length + 2) :: O) ⟨((Keep.refl _ _).set (.inl h.bO)).app _, fun i hi => ?_, fun i hi => List.mem_cons_of_mem _ hi⟩ ⟨tm, mid, fv, .row (σ.length + 2) (0 + 1), ?_⟩
      · rcases List.mem_cons.1 hi with hi | hi
        · exact .inr (by omega)
        · exact .inl hi
      · rw [← oset _ bl]
        refine (h.wide (O' := (σ.length + 2) :: O) ((Keep.refl _ _).app _) (fun i hi => List.mem_cons_of_mem _ hi) fun i hi => ?_).put (sendF m S) fv (.row (σ.length + 2) (0 + 1)) rfl h.pk h.ok (h.fr.keep (l := []) ((Keep.refl _ _).app _) (by simp) fun i hi => List.mem_cons_of_mem _ hi) ?_ hsk h.fn
        · rw [List.length_append]
          rcases List.mem_cons.1 hi with hi | hi
          · rw [hi]; simp
          · have := h.lt i hi; omega
        · refine ⟨List.mem_cons_self, false, ?_⟩
          show vGet _ _ _ = some (.row 53 ((S.send ++ [m]).map msC) false)
          rw [e0]
          exact lget rfl (vGet_of rfl)
    | row id g =>
      obtain ⟨hid, fz, hg⟩ := h.sr
      have il := vGet_lt hg
      have ap : S.send.map msC ++ [msC m] = (S.send ++ [m]).map msC := by simp
      have nb : id ≠ b := by rintro rfl; have h1 := vGet_some hg; rw [vGet_some box] at h1; cases h1
      have s1 : splice (scC (S.c tm fv (.row id g))) 43 [.row id (g + 1)] = scC ((sendF m S).c tm fv (.row id (g + 1))) := scC_ssv (x := S.c tm fv (.row id g)) hc (v := .row _ _)
      refine st_appendO (new := [msC m]) rfl (ra_row rfl (vGet_of rfl)) r1 (oget hg) (by simp; omega) ?_
      rw [oset _ il, ap]
      have box2 : vGet (σ.set id (g + 1, VObj.row 53 ((S.send ++ [m]).map msC) fz)) b 1 = some (.box (scC (S.c tm fv (.row id g))) false) := hget_ne nb box
      have bl2 := vGet_lt box2
      refine st_end ⟨⟨⟨_, oget box2⟩, lget (by simp) rfl⟩, ?_⟩
      refine vt_br (by exact z_ol) ?_
      refine Wo ?_
      refine va_br rfl ?_ va_stop
      refine est (by exact z_ea) ?_
      refine st_end ⟨⟨⟨_, oget (hget_eq bl2)⟩, lget (by simp) rfl⟩, ?_⟩
      refine vt_fin (by exact z_ol) ?_
      refine sv_nil ?_
      refine ret_n (v := .tup []) (.inr rfl) rfl rfl inferInstance ?_
      have a1 := h.row (sendF m S) fv (.row id (g + 1)) (es' := (S.send ++ [m]).map msC) hid hg rfl h.pk h.ok (h.fr.other hg (by decide)) ⟨hid, fz, hget_eq il⟩ hsk h.fn
      refine k _ O ⟨(((Keep.refl _ _).set (.inl hid)).set (.inl h.bO)).app _, fun i hi => .inl hi, fun i hi => hi⟩ ⟨tm, mid, fv, .row id (g + 1), ?_⟩
      exact a1.wide ((Keep.refl _ _).app _) (fun i hi => hi) fun i hi => by rw [List.length_append]; have := a1.lt i hi; omega
end Go.Proofs.YtocnjlfnapefjaaGreatDoor
