/- Sessions: start, stop, closed, connected. -/
import Derived.Test.YtocnjlfnapefjaaGreatDoorT6
namespace Go.Proofs.YtocnjlfnapefjaaGreatDoor
open Go Go.V
set_option maxRecDepth 10000
set_option linter.unusedVariables false
attribute [local irreducible] vBuild vCallV
def startF (S : Ses) : Ses := dialF { S with stopped := false, m := mdel idleN S.m }
theorem tStartS {σ : VHeap} {O : List Nat} {b : Nat} {S : Ses} {Post : KP} (h : At σ O b S) (k : ∀ σ' O', Stp σ O σ' O' → At σ' O' b (startF S) → Post (.tup []) σ') : T Tryz.prog 22 [.ptr b 1 0] σ Post := by
  obtain ⟨tm, mid, fv, sv, h⟩ := h
  have hc := h.okc
  have box := h.box
  have s1 : splice (scC (S.c tm fv sv)) 22 [.bool false] = scC (({ S with stopped := false } : Ses).c tm fv sv) := scC_sstopped hc (v := false)
  have g1 : cut (scC (({ S with stopped := false } : Ses).c tm fv sv)) 23 none = some (.ptr tm 1 0) := scC_gtm (x := ({ S with stopped := false } : Ses).c tm fv sv) ⟨h.pk, h.ok⟩
  have l1 := scC_len hc
  have bl := vGet_lt box
  have a0 := h.put { S with stopped := false } fv sv rfl h.pk h.ok h.fr h.sr h.sk h.fn
  have a1 := a0.big []
  have st1 := (h.stpB (1, VObj.box (scC (({ S with stopped := false } : Ses).c tm fv sv)) false)).trans (Stp.big _ O [])
  refine T22 ?_
  refine W ?_
  refine ct ?_
  refine tStop (name := idleN) a1.t fun σ2 K2 t2 => ?_
  have a2 := a1.tmr K2 t2
  have st2 := a1.stp K2
  obtain ⟨σ3, X3, rfl, hl3, out3⟩ := st2.split (L := []) (X := []) (a0.out _)
  have hl3' : σ3.length = σ.length := by rw [hl3, List.length_set]
  refine W ?_
  refine ct ?_
  refine tDial ⟨_, _, _, _, a2⟩ fun σ4 O4 st4 at4 => ?_
  refine W ?_
  refine ret_n (v := .tup []) (.inr rfl) rfl rfl inferInstance ?_
  exact k σ4 O4 (st1.trans (st2.trans st4)) at4
def stopF (S : Ses) : Ses := let S1 := { S with stopped := true }; if 2 ≤ S.st then fallF ⟨6, 2, []⟩ S1 else stillF S1
theorem tStopS {σ : VHeap} {O : List Nat} {b : Nat} {S : Ses} {Post : KP} (h : At σ O b S) (hl : S.send.length ≤ 1000) (k : ∀ σ' O', Stp σ O σ' O' → At σ' O' b (stopF S) → Post (.tup []) σ') : T Tryz.prog 23 [.ptr b 1 0] σ Post := by
  obtain ⟨tm, mid, fv, sv, h⟩ := h
  have hc := h.okc
  have box := h.box
  have s1 : splice (scC (S.c tm fv sv)) 22 [.bool true] = scC (({ S with stopped := true } : Ses).c tm fv sv) := scC_sstopped hc (v := true)
  have l1 := scC_len hc
  have bl := vGet_lt box
  have a0 := h.put { S with stopped := true } fv sv rfl h.pk h.ok h.fr h.sr h.sk h.fn
  have a1 := a0.big []
  have st1 := (h.stpB (1, VObj.box (scC (({ S with stopped := true } : Ses).c tm fv sv)) false)).trans (Stp.big _ O [])
  have hn1 : (σ.set b (1, VObj.box (scC (({ S with stopped := true } : Ses).c tm fv sv)) false)).length = σ.length := List.length_set
  refine T23 ?_
  refine W ?_
  refine ct ?_
  refine tHas ⟨_, _, _, _, a1⟩ ?_
  by_cases h2 : 2 ≤ S.st
  · have e2 : decide (2 ≤ S.st) = true := decide_eq_true h2
    simp only [e2]
    refine W ?_
    refine ct (vs := [.ptr b 1 0, .agg (ntC ⟨6, 2, []⟩)]) ?_ (hi := .pl inferInstance (.agg (.flat rfl) (.nil _))) (hv := rfl)
    refine tFall ⟨_, _, _, _, a1⟩ hl (by simp) fun σ4 O4 st4 at4 => ?_
    refine W ?_
    have e : stopF S = fallF ⟨6, 2, []⟩ ({ S with stopped := true } : Ses) := by simp [stopF, h2]
    exact k σ4 O4 (st1.trans st4) (e ▸ at4)
  · have e2 : decide (2 ≤ S.st) = false := decide_eq_false h2
    simp only [e2]
    refine W ?_
    refine ct ?_
    refine tStill ⟨_, _, _, _, a1⟩ fun σ4 O4 st4 at4 => ?_
    refine W ?_
    refine ret_n (v := .tup []) (.inr rfl) rfl rfl inferInstance ?_
    have e : stopF S = stillF ({ S with stopped := true } : Ses) := by simp [stopF, h2]
    exact k σ4 O4 (st1.trans st4) (e ▸ at4)
def closedF (S : Ses) : Ses := { fallF nt0 S with close := false }
theorem tClosed {σ : VHeap} {O : List Nat} {b : Nat} {S : Ses} {Post : KP} (h : At σ O b S) (hl : S.send.length ≤ 1000) (k : ∀ σ' O', Stp σ O σ' O' → At σ' O' b (closedF S) → Post (.tup []) σ') : T Tryz.prog 26 [.ptr b 1 0] σ Post := by
  obtain ⟨tm, mid, fv, sv, h⟩ := h
  have bl := vGet_lt h.box
  have a1 := h.big []
  refine T26 ?_
  refine W ?_
  refine ct (vs := [.ptr b 1 0, .agg (ntC nt0)]) ?_ (hi := .pl inferInstance (.agg (.flat rfl) (.nil _))) (hv := rfl)
  refine tFall ⟨_, _, _, _, a1⟩ hl (by simp [nt0]) fun σ2 O2 st2 at2 => ?_
  obtain ⟨σ3, X3, rfl, hl3, out3⟩ := st2.split (L := []) (X := []) (h.out _)
  obtain ⟨tm, mid, fv, sv, a2⟩ := at2
  have bl3 : b < σ3.length := by omega
  have box := oget_inv a2.box bl3
  have s1 : splice (scC ((fallF nt0 S).c tm fv sv)) 45 [.bool false] = scC ((closedF S).c tm fv sv) := scC_sclose a2.okc (v := false)
  have l1 := scC_len a2.okc
  refine W ?_
  refine ret_n (v := .tup []) (.inr rfl) rfl rfl inferInstance ?_
  have a3 := a2.put (closedF S) fv sv rfl a2.pk a2.ok a2.fr a2.sr a2.sk a2.fn
  have st3 := a2.stpB (1, VObj.box (scC ((closedF S).c tm fv sv)) false)
  rw [oset _ bl3] at a3 st3
  exact k _ O2 ((Stp.big _ _ _).trans (st2.trans st3)) ⟨_, _, _, _, a3⟩
theorem uCloneF {l : List Fm} (hl : l.length * 16 ≤ 140737488355328) : U Tryz.prog 17 [.sl (l.map fmC)] (.sl (l.map fmC)) := by
  intro σ Post hk
  have b1 : (l.map fmC).length = l.length := List.length_map _
  have r1 : RowOk 2 (l.map fmC) := fun e he => by obtain ⟨x, _, rfl⟩ := List.mem_map.1 he; exact ⟨rfl, rfl⟩
  refine T17 fun hB hA => ?_
  refine W ?_
  refine nilE rfl rfl ?_ fun hn => ?_
  · refine W ?_
    exact hk
  · refine W ?_
    rw [hn] at hk
    exact hk
def mOpen (o : Opn) : Ms := { ms0 with kind := 1, op := o }
theorem mOpen_ok {o : Opn} (h : okOp o) : okMs (mOpen o) := ⟨h, rfl, ⟨trivial⟩, ⟨trivial⟩⟩
def mAlive : Ms := { ms0 with kind := 4 }
theorem mAlive_ok : okMs mAlive := ⟨⟨ad0_ok⟩, rfl, ⟨trivial⟩, ⟨trivial⟩⟩
theorem adc_plB (a : Ad) : (adc a).all plB = true := by unfold adc adr u8c; simp [plB]
theorem adc_nz (a : Ad) : (adc a).map nz = adc a := by unfold adc adr u8c; simp [nz]
def ownOpen (p : Pr) : Opn := ⟨p.asn, p.hold, p.id, p.fams, true⟩
def connF (S : Ses) : Ses := sendF (mOpen (ownOpen S.p)) ((S.sSt 2).sM (tput openN 240 (mdel retryN S.m)))
set_option maxHeartbeats 4000000 in
theorem tConn {σ : VHeap} {O : List Nat} {b : Nat} {S : Ses} {Post : KP} (h : At σ O b S) (hl : S.send.length ≤ 999) (hf : S.p.fams.length * 16 ≤ 140737488355328) (k : ∀ σ' O', Stp σ O σ' O' → At σ' O' b (connF S) → Post (.tup []) σ') : T Tryz.prog 24 [.ptr b 1 0] σ Post := by
  obtain ⟨tm, mid, fv, sv, h⟩ := h
  have hc := h.okc
  have box := h.box
  have bl := vGet_lt box
  have q1 : splice (scC (S.c tm fv sv)) 21 [.int .i64 2] = scC ((S.sSt 2).c tm fv sv) := scC_sst hc (v := 2)
  have g1 : cut (scC ((S.sSt 2).c tm fv sv)) 23 none = some (.ptr tm 1 0) := scC_gtm (x := (S.sSt 2).c tm fv sv) ⟨h.pk, h.ok⟩
  have l1 := scC_len hc
  have a0 := h.put (S.sSt 2) fv sv rfl h.pk h.ok h.fr h.sr h.sk h.fn
  have a1 := a0.big [D.dd]
  have st1 := (h.stpB (1, VObj.box (scC ((S.sSt 2).c tm fv sv)) false)).trans (Stp.big _ O [D.dd])
  have hn1 : (σ.set b (1, VObj.box (scC ((S.sSt 2).c tm fv sv)) false)).length = σ.length := List.length_set
  refine T24 ?_
  refine W ?_
  refine ct ?_
  refine tStop (name := retryN) a1.t fun σ2 K2 t2 => ?_
  have a2 : SesAt σ2 O b ((S.sSt 2).sM (mdel retryN S.m)) tm mid fv sv := a1.tmr K2 t2
  have st2 := a1.stp K2
  obtain ⟨σ3, X3, rfl, hl3, out3⟩ := st2.split (L := [D.dd]) (X := []) (a0.out _)
  have hl3' : σ3.length = σ.length := by rw [hl3, List.length_set]
  have box2 := a2.box
  have g2 : cut (scC (((S.sSt 2).sM (mdel retryN S.m)).c tm fv sv)) 23 none = some (.ptr tm 1 0) := g1
  refine W ?_
  refine ct ?_
  refine tStart (name := openN) a2.t (by omega) fun σ4 K4 t4 => ?_
  have a3 : SesAt σ4 O b ((S.sSt 2).sM (tput openN 240 (mdel retryN S.m))) tm mid fv sv := a2.tmr K4 t4
  have st4 := a2.stp K4
  clear t4 K4 t2 K2
  obtain ⟨σ5, X5, rfl, hl5, out5⟩ := st4.split (L := [D.dd]) out3
  have hl5' : σ5.length = σ.length := by rw [hl5, hl3']
  have box3 := a3.box
  have pk := h.pk
  have pl := prC_len pk
  have ps := prC_sc (x := S.p)
  have pa := prC_all pk
  have g3 : cut (scC (((S.sSt 2).sM (tput openN 240 (mdel retryN S.m))).c tm fv sv)) 0 (some 21) = some (.agg (prC S.p)) := scC_gpeer (x := (S.sSt 2).c tm fv sv) ⟨h.pk, h.ok⟩
  have p1 : cut (prC S.p) 0 none = some (.int .i64 S.p.asn) := prC_gasn pk
  have p2 : cut (prC S.p) 18 none = some (.int .i64 S.p.hold) := prC_ghold pk
  have p3 : cut (prC S.p) 1 (some 17) = some (.agg (adc S.p.id)) := prC_gid pk
  have p4 : cut (prC S.p) 20 none = some (.sl (S.p.fams.map fmC)) := prC_gfams pk
  have p0 : splice [D.i 0, D.i 0, D.b 0, D.b 0, D.b 0, D.b 0, D.b 0, D.b 0, D.b 0, D.b 0, D.b 0, D.b 0, D.b 0, D.b 0, D.b 0, D.b 0, D.b 0, D.b 0, D.i 0, D.i 0, .nils] 0 (prC S.p) = prC S.p := prC_any pk rfl
  have il := adc_len pk.id
  have is := adc_sc (a := S.p.id)
  have o1 : splice [PV.int .i64 S.p.asn, .int .i64 S.p.hold, D.i 0, D.b 0, D.b 0, D.b 0, D.b 0, D.b 0, D.b 0, D.b 0, D.b 0, D.b 0, D.b 0, D.b 0, D.b 0, D.b 0, D.b 0, D.b 0, D.b 0, .nils, .bool false] 2 (adc S.p.id) = [.int .i64 S.p.asn, .int .i64 S.p.hold] ++ (adc S.p.id ++ [.nils, .bool false]) := by generalize adc S.p.id = x at il ⊢; exact spl_sk (a := [PV.int .i64 S.p.asn, .int .i64 S.p.hold]) (o := 0) rfl rfl (spl_hd (X := [D.i 0, D.b 0, D.b 0, D.b 0, D.b 0, D.b 0, D.b 0, D.b 0, D.b 0, D.b 0, D.b 0, D.b 0, D.b 0, D.b 0, D.b 0, D.b 0, D.b 0]) il)
  have o2 : splice ([PV.int .i64 S.p.asn, .int .i64 S.p.hold] ++ (adc S.p.id ++ [.nils, .bool false])) 19 [.sl (S.p.fams.map fmC)] = [.int .i64 S.p.asn, .int .i64 S.p.hold] ++ (adc S.p.id ++ [.sl (S.p.fams.map fmC), .bool false]) := spl_sk (o := 17) rfl rfl (spl_sk (o := 0) il rfl rfl)
  have o3 : splice ([PV.int .i64 S.p.asn, .int .i64 S.p.hold] ++ (adc S.p.id ++ [.sl (S.p.fams.map fmC), .bool false])) 20 [.bool true] = opC (ownOpen S.p) := spl_sk (o := 18) rfl rfl (spl_sk (o := 1) il rfl rfl)
  have wl := opC_len (x := ownOpen S.p) ⟨pk.id⟩
  have ws := opC_sc (x := ownOpen S.p)
  have m1 : splice [.int .i64 1, D.i 0, D.i 0, D.i 0, D.b 0, D.b 0, D.b 0, D.b 0, D.b 0, D.b 0, D.b 0, D.b 0, D.b 0, D.b 0, D.b 0, D.b 0, D.b 0, D.b 0, D.b 0, D.b 0, .nils, .bool false, D.i 0, .nils, D.i 0, D.i 0, D.i 0, D.b 0, D.b 0, D.b 0, D.b 0, D.b 0, D.b 0, D.b 0, D.b 0, D.b 0, D.b 0, D.b 0, D.b 0, D.b 0, D.b 0, D.b 0, D.b 0, .nils, .nils, .nils, .nils, .nils, D.i 0, D.i 0, .nils, D.i 0, D.i 0] 1 (opC (ownOpen S.p)) = [.int .i64 1] ++ (opC (ownOpen S.p) ++ [D.i 0, .nils, D.i 0, D.i 0, D.i 0, D.b 0, D.b 0, D.b 0, D.b 0, D.b 0, D.b 0, D.b 0, D.b 0, D.b 0, D.b 0, D.b 0, D.b 0, D.b 0, D.b 0, D.b 0, D.b 0, .nils, .nils, .nils, .nils, .nils, D.i 0, D.i 0, .nils, D.i 0, D.i 0]) := by
    generalize opC (ownOpen S.p) = x at wl ⊢
    exact spl_sk (a := [PV.int .i64 1]) (o := 0) rfl rfl (spl_hd (X := [D.i 0, D.i 0, D.i 0, D.b 0, D.b 0, D.b 0, D.b 0, D.b 0, D.b 0, D.b 0, D.b 0, D.b 0, D.b 0, D.b 0, D.b 0, D.b 0, D.b 0, D.b 0, D.b 0, .nils, .bool false]) wl)
  have fp : ([PV.int .i64 1] ++ (opC (ownOpen S.p) ++ [D.i 0, .nils, D.i 0, D.i 0, D.i 0, D.b 0, D.b 0, D.b 0, D.b 0, D.b 0, D.b 0, D.b 0, D.b 0, D.b 0, D.b 0, D.b 0, D.b 0, D.b 0, D.b 0, D.b 0, D.b 0, .nils, .nils, .nils, .nils, .nils, D.i 0, D.i 0, .nils, D.i 0, D.i 0])).all plB = true := by
    rw [List.all_append, List.all_append]
    have : (opC (ownOpen S.p)).all plB = true := by unfold opC; simp only [List.all_append, adc_plB]; rfl
    rw [this]; rfl
  have fm : ([PV.int .i64 1] ++ (opC (ownOpen S.p) ++ [D.i 0, .nils, D.i 0, D.i 0, D.i 0, D.b 0, D.b 0, D.b 0, D.b 0, D.b 0, D.b 0, D.b 0, D.b 0, D.b 0, D.b 0, D.b 0, D.b 0, D.b 0, D.b 0, D.b 0, D.b 0, .nils, .nils, .nils, .nils, .nils, D.i 0, D.i 0, .nils, D.i 0, D.i 0])).map nz = msC (mOpen (ownOpen S.p)) := by
    rw [List.map_append, List.map_append]
    have : (opC (ownOpen S.p)).map nz = opC (ownOpen S.p) := by unfold opC; simp only [List.map_append, adc_nz]; rfl
    rw [this]; rfl
  refine W ?_
  refine s1 (uCloneF hf) ?_
  refine W ?_
  refine sv_0 ?_
  refine ct (vs := [.ptr b 1 0, .agg (msC (mOpen (ownOpen S.p)))]) ?_ (hi := .pl inferInstance (.agg (.flat fp) (.nil _))) (hv := by rw [fm])
  have a4 := a3.loc (L := [D.dd]) (L' := [(1, VObj.box (prC S.p) false)]) rfl out5
  refine tSend (m := mOpen (ownOpen S.p)) ⟨_, _, _, _, a4⟩ (mOpen_ok ⟨pk.id⟩) (by show S.send.length ≤ 1000; omega) fun σ6 O6 st6 at6 => ?_
  refine W ?_
  refine ⟨trivial, sv_nil ?_⟩
  refine ret_n (v := .tup []) (.inr rfl) rfl rfl inferInstance ?_
  have st5 := (st1.trans (st2.trans st4)).loc (L := [D.dd]) (L' := [(1, VObj.box (prC S.p) false)]) hl5'.symm rfl
  exact k _ O6 (st5.trans st6) at6
end Go.Proofs.YtocnjlfnapefjaaGreatDoor
