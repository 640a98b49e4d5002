/- Sessions: fall, start, stop, closed, connected. -/
import Derived.Test.YtocnjlfnapefjaaGreatDoorT5
namespace Go.Proofs.YtocnjlfnapefjaaGreatDoor
open Go Go.V
set_option maxRecDepth 10000
set_option linter.unusedVariables false
attribute [local irreducible] vBuild vCallV
section
variable {σ : VHeap} {O : List Nat} {b : Nat} {S : Ses} {Post : KP}
theorem tHas (h : At σ O b S) (k : Post (.bool (decide (2 ≤ S.st))) σ) : T Tryz.prog 25 [.ptr b 1 0] σ Post := by
  obtain ⟨tm, mid, fv, sv, h⟩ := h
  have box := h.box
  have g := scC_gst h.okc
  have bl := vGet_lt box
  refine T25 fun hB hA => ?_
  refine W ?_
  exact k
theorem tState (h : At σ O b S) (k : Post (.int .i64 S.st) σ) : T Tryz.prog 12 [.ptr b 1 0] σ Post := by
  obtain ⟨tm, mid, fv, sv, h⟩ := h
  have box := h.box
  have g := scC_gst h.okc
  have bl := vGet_lt box
  refine T12 fun hB hA => ?_
  refine W ?_
  exact k
theorem tHold (h : At σ O b S) (k : Post (.int .i64 S.hold) σ) : T Tryz.prog 15 [.ptr b 1 0] σ Post := by
  obtain ⟨tm, mid, fv, sv, h⟩ := h
  have box := h.box
  have g := scC_ghold h.okc
  have bl := vGet_lt box
  refine T15 fun hB hA => ?_
  refine W ?_
  exact k
theorem tId (h : At σ O b S) (k : Post (.agg (adc S.oid)) σ) : T Tryz.prog 16 [.ptr b 1 0] σ Post := by
  obtain ⟨tm, mid, fv, sv, h⟩ := h
  have box := h.box
  have g : cut (scC (S.c tm fv sv)) 24 (some 17) = some (.agg (adc S.oid)) := scC_goid h.okc
  have bl := vGet_lt box
  have ln := adc_len h.ok
  have sc := adc_sc (a := S.oid)
  have ca := adc_all h.ok
  have s0 : splice [D.i 0, D.b 0, D.b 0, D.b 0, D.b 0, D.b 0, D.b 0, D.b 0, D.b 0, D.b 0, D.b 0, D.b 0, D.b 0, D.b 0, D.b 0, D.b 0, D.b 0] 0 (adc S.oid) = adc S.oid := spl_hd0 (by rw [ln]; rfl)
  refine T16 fun hB hA => ?_
  refine W ?_
  exact k
end
theorem uBClone {d : List UInt8} (hd : d.length ≤ 140737488355328) : U Tryz.prog 43 [.sl (bsl d)] (.sl (bsl d)) := by
  intro σ Post hk
  have hl := bsl_len d
  refine T43 fun hB hA => ?_
  refine W ?_
  refine nilE rfl rfl ?_ fun e => ?_
  · refine W ?_
    exact hk
  · have e : d = [] := List.map_eq_nil_iff.1 e
    subst e
    refine W ?_
    exact hk
def mNote (n : Nt) : Ms := { ms0 with kind := 3, nt := n }
theorem ms0_ok : okMs ms0 := ⟨⟨ad0_ok⟩, rfl, ⟨trivial⟩, ⟨trivial⟩⟩
theorem mNote_ok (n : Nt) : okMs (mNote n) := ⟨⟨ad0_ok⟩, rfl, ⟨trivial⟩, ⟨trivial⟩⟩
def fallF (n : Nt) (S : Ses) : Ses :=
  let S1 := { S with down := decide (S.st = 4), close := true }
  let S2 := if n.code = 0 then S1 else sendF (mNote n) S1
  let S3 := stillF S2
  if S.stopped then S3 else { S3 with m := [(idleN, 3)] }
set_option maxHeartbeats 4000000 in
theorem tFall {σ : VHeap} {O : List Nat} {b : Nat} {S : Ses} {n : Nt} {Post : KP} (h : At σ O b S) (hl : S.send.length ≤ 1000) (hd : n.data.length ≤ 140737488355328) (k : ∀ σ' O', Stp σ O σ' O' → At σ' O' b (fallF n S) → Post (.tup []) σ') : T Tryz.prog 28 [.ptr b 1 0, .agg (ntC n)] σ Post := by
  obtain ⟨tm, mid, fv, sv, h⟩ := h
  have hc := h.okc
  have box := h.box
  have bl := vGet_lt box
  have g0 : cut (scC (S.c tm fv sv)) 21 none = some (.int .i64 S.st) := scC_gst hc
  have nl : (ntC n).length = 3 := ntC_len ⟨trivial⟩
  have ns := ntC_sc (x := n)
  have e4 : ibin .eql .i64 S.st .i64 4 = some (.bool (decide (S.st = 4))) := ib_eql
  have s1 : splice (scC (S.c tm fv sv)) 47 [.bool (decide (S.st = 4))] = scC (({ S with down := decide (S.st = 4) } : Ses).c tm fv sv) := scC_sdown hc (v := _)
  have s2 : splice (scC (({ S with down := decide (S.st = 4) } : Ses).c tm fv sv)) 45 [.bool true] = scC (({ S with down := decide (S.st = 4), close := true } : Ses).c tm fv sv) := scC_sclose (x := ({ S with down := decide (S.st = 4) } : Ses).c tm fv sv) ⟨h.pk, h.ok⟩ (v := true)
  have l0 := scC_len hc
  have l1 : (scC (({ S with down := decide (S.st = 4) } : Ses).c tm fv sv)).length = 48 := scC_len ⟨h.pk, h.ok⟩
  have b1 := h.put ({ S with down := decide (S.st = 4) } : Ses) fv sv rfl h.pk h.ok h.fr h.sr h.sk h.fn
  have a0 := b1.put ({ S with down := decide (S.st = 4), close := true } : Ses) fv sv rfl h.pk h.ok b1.fr b1.sr h.sk h.fn
  refine T28 ?_
  by_cases h0 : n.code = 0
  · refine W ?_
    have a2 := a0.big [(1, VObj.box (ntC n) false)]
    refine ct ?_
    refine tStill (S := ({ S with down := decide (S.st = 4), close := true } : Ses)) ⟨_, _, _, _, a2⟩ fun σ2 O2 st2 at2 => ?_
    obtain ⟨σ3, X3, rfl, hl3, out3⟩ := st2.split (L := [(1, VObj.box (ntC n) false)]) (X := []) (a0.out _)
    have hl3' : σ3.length = σ.length := by rw [hl3, List.length_set, List.length_set]
    obtain ⟨tm2, mid2, fv2, sv2, h2⟩ := at2
    have box2 := h2.box
    have g2 := scC_gstopped h2.okc
    have g3 := scC_gtm h2.okc
    cases hs : S.stopped with
    | true =>
      have g2 : cut (scC ((stillF (({ S with down := decide (S.st = 4), close := true } : Ses))).c tm2 fv2 sv2)) 22 none = some (.bool true) := by rw [g2]; exact congrArg (some ∘ PV.bool) hs
      refine W ?_
      refine ret_n (v := .tup []) (.inr rfl) rfl rfl inferInstance ?_
      refine k _ O2 ((((h.stpB _).trans (b1.stpB _)).trans (Stp.big _ _ _)).trans st2) ⟨tm2, mid2, fv2, sv2, ?_⟩
      have ef : fallF n S = stillF ({ S with down := decide (S.st = 4), close := true } : Ses) := by simp [fallF, h0, hs]
      rw [ef]
      exact h2
    | false =>
      have g2 : cut (scC ((stillF (({ S with down := decide (S.st = 4), close := true } : Ses))).c tm2 fv2 sv2)) 22 none = some (.bool false) := by rw [g2]; exact congrArg (some ∘ PV.bool) hs
      refine W ?_
      refine ct ?_
      refine tStart (name := idleN) h2.t (by omega) fun σ4 K4 t4 => ?_
      refine W ?_
      refine ret_n (v := .tup []) (.inr rfl) rfl rfl inferInstance ?_
      refine k _ O2 ((((h.stpB _).trans (b1.stpB _)).trans (Stp.big _ _ _)).trans (st2.trans (h2.stp K4))) ⟨tm2, mid2, fv2, sv2, ?_⟩
      have ef : fallF n S = { stillF ({ S with down := decide (S.st = 4), close := true } : Ses) with m := [(idleN, 3)] } := by simp [fallF, h0, hs]
      rw [ef]
      exact h2.tmr K4 t4
  · have nv : splice (ntC n) 2 [.sl (bsl n.data)] = ntC n := ntC_sdata ⟨trivial⟩ (v := n.data)
    have ng : cut (ntC n) 2 none = some (.sl (bsl n.data)) := ntC_gdata ⟨trivial⟩
    have na := ntC_all (x := n) ⟨trivial⟩
    have sx : splice [.int .i64 3, D.i 0, D.i 0, D.i 0, D.b 0, D.b 0, D.b 0, D.b 0, D.b 0, D.b 0, D.b 0, D.b 0, D.b 0, D.b 0, D.b 0, D.b 0, D.b 0, D.b 0, D.b 0, D.b 0, .nils, .bool false, D.i 0, .nils, D.i 0, D.i 0, D.i 0, D.b 0, D.b 0, D.b 0, D.b 0, D.b 0, D.b 0, D.b 0, D.b 0, D.b 0, D.b 0, D.b 0, D.b 0, D.b 0, D.b 0, D.b 0, D.b 0, .nils, .nils, .nils, .nils, .nils, D.i 0, D.i 0, .nils, D.i 0, D.i 0] 48 (ntC n) = [.int .i64 3, D.i 0, D.i 0, D.i 0, D.b 0, D.b 0, D.b 0, D.b 0, D.b 0, D.b 0, D.b 0, D.b 0, D.b 0, D.b 0, D.b 0, D.b 0, D.b 0, D.b 0, D.b 0, D.b 0, .nils, .bool false, D.i 0, .nils, D.i 0, D.i 0, D.i 0, D.b 0, D.b 0, D.b 0, D.b 0, D.b 0, D.b 0, D.b 0, D.b 0, D.b 0, D.b 0, D.b 0, D.b 0, D.b 0, D.b 0, D.b 0, D.b 0, .nils, .nils, .nils, .nils, .nils, .int .i64 n.code, .int .i64 n.subc, .sl (bsl n.data), D.i 0, D.i 0] := rfl
    refine W ?_
    refine cu (uBClone hd) ?_
    refine W ?_
    refine ct (vs := [.ptr b 1 0, .agg (msC (mNote n))]) ?_ (hi := .pl inferInstance (.agg (.flat rfl) (.nil _))) (hv := rfl)
    refine tSend (S := ({ S with down := decide (S.st = 4), close := true } : Ses)) (m := mNote n) ⟨_, _, _, _, a0.big [(1, VObj.box (ntC n) false)]⟩ (mNote_ok n) hl fun σ1 O1 st1 at1 => ?_
    obtain ⟨σ5, X5, rfl, hl5, out1⟩ := st1.split (L := [(1, VObj.box (ntC n) false)]) (X := []) (a0.out _)
    obtain ⟨tm1, mid1, fv1, sv1, a2⟩ := at1
    have hl5' : σ5.length = σ.length := by rw [hl5, List.length_set, List.length_set]
    refine W ?_
    refine ct ?_
    refine tStill (S := sendF (mNote n) ({ S with down := decide (S.st = 4), close := true } : Ses)) ⟨_, _, _, _, a2⟩ fun σ2 O2 st2 at2 => ?_
    obtain ⟨σ3, X3, rfl, hl3, out3⟩ := st2.split (L := [(1, VObj.box (ntC n) false)]) out1
    have hl3' : σ3.length = σ.length := by rw [hl3, hl5']
    obtain ⟨tm2, mid2, fv2, sv2, h2⟩ := at2
    have box2 := h2.box
    have g2 := scC_gstopped h2.okc
    have g3 := scC_gtm h2.okc
    cases hs : S.stopped with
    | true =>
      have g2 : cut (scC ((stillF (sendF (mNote n) ({ S with down := decide (S.st = 4), close := true } : Ses))).c tm2 fv2 sv2)) 22 none = some (.bool true) := by rw [g2]; exact congrArg (some ∘ PV.bool) hs
      refine W ?_
      refine ret_n (v := .tup []) (.inr rfl) rfl rfl inferInstance ?_
      refine k _ O2 (((((h.stpB _).trans (b1.stpB _)).trans (Stp.big _ _ _)).trans st1).trans st2) ⟨tm2, mid2, fv2, sv2, ?_⟩
      have ef : fallF n S = stillF (sendF (mNote n) ({ S with down := decide (S.st = 4), close := true } : Ses)) := by simp [fallF, h0, hs]
      rw [ef]
      exact h2
    | false =>
      have g2 : cut (scC ((stillF (sendF (mNote n) ({ S with down := decide (S.st = 4), close := true } : Ses))).c tm2 fv2 sv2)) 22 none = some (.bool false) := by rw [g2]; exact congrArg (some ∘ PV.bool) hs
      refine W ?_
      refine ct ?_
      refine tStart (name := idleN) h2.t (by omega) fun σ4 K4 t4 => ?_
      refine W ?_
      refine ret_n (v := .tup []) (.inr rfl) rfl rfl inferInstance ?_
      refine k _ O2 (((((h.stpB _).trans (b1.stpB _)).trans (Stp.big _ _ _)).trans st1).trans (st2.trans (h2.stp K4))) ⟨tm2, mid2, fv2, sv2, ?_⟩
      have ef : fallF n S = { stillF (sendF (mNote n) ({ S with down := decide (S.st = 4), close := true } : Ses)) with m := [(idleN, 3)] } := by simp [fallF, h0, hs]
      rw [ef]
      exact h2.tmr K4 t4
end Go.Proofs.YtocnjlfnapefjaaGreatDoor
