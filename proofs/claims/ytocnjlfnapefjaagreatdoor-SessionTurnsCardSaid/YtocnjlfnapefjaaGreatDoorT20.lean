/- Sessions: the small case. -/
import Derived.Test.YtocnjlfnapefjaaGreatDoorT19
namespace Go.Proofs.YtocnjlfnapefjaaGreatDoor
open Go Go.V
set_option maxRecDepth 10000
set_option linter.unusedVariables false
attribute [local irreducible] vBuild vCallV
theorem At.ex {σ : VHeap} {O : List Nat} {b : Nat} {S : Ses} (a : At σ O b S) : ∃ o, vGet σ b 1 = some o := by obtain ⟨_, _, _, _, a0⟩ := a; exact ⟨_, a0.box⟩
theorem len_app {σ L : VHeap} {O : List Nat} (h : ∀ i, i ∈ O → (σ ++ L).length ≤ i) : ∀ i, i ∈ O → σ.length + L.length ≤ i := fun i hi => by have := h i hi; rwa [List.length_append] at this
def mO2 (h : Int) : Ms := { ms0 with kind := 1, op := ⟨65000, h, a4 2, [], false⟩ }
def evO (h : Int) : Ev := { ev0 with do_ := 5, h := mO2 h }
def evK : Ev := { ev0 with do_ := 5, h := mAlive }
theorem okEO {h : Int} (hh : -9223372036854775808 ≤ h ∧ h ≤ 9223372036854775807) : OkE (evO h) := ⟨⟨⟨⟨rfl⟩, rfl, ⟨trivial⟩, ⟨trivial⟩⟩, ⟨trivial⟩⟩, Nat.zero_le _, Nat.zero_le _, hh⟩
theorem okEK : OkE evK := ⟨⟨⟨⟨rfl⟩, rfl, ⟨trivial⟩, ⟨trivial⟩⟩, ⟨trivial⟩⟩, Nat.zero_le _, Nat.zero_le _, by show (-9223372036854775808 : Int) ≤ 0 ∧ (0 : Int) ≤ 9223372036854775807; decide⟩
theorem do1 {S S' : Ses} (h : DoR (evZ 1) S S') (hs : S.st = 0) : S' = startF (S0 S) := by
  unfold DoR at h; rwa [if_pos ⟨rfl, hs⟩] at h
theorem do2 {S S' : Ses} (h : DoR (evZ 2) S S') : S' = stopF (S0 S) := by
  unfold DoR at h; rwa [if_neg (fun e => absurd e.1 (by decide)), if_pos (show (evZ 2).do_ = 2 from rfl)] at h
theorem do3 {S S' : Ses} (h : DoR (evZ 3) S S') (hs : S.st = 1) : S' = connF (S0 S) := by
  unfold DoR at h; rwa [if_neg (fun e => absurd e.1 (by decide)), if_neg (by decide), if_pos ⟨rfl, hs⟩] at h
theorem do5 {ev : Ev} {S S' : Ses} (h : DoR ev S S') (he : ev.do_ = 5) (hs : 2 ≤ S.st) : S' = heardF ev.h (S0 S) := by
  unfold DoR at h
  rw [he] at h
  rwa [if_neg (fun e => absurd e.1 (by decide)), if_neg (by decide), if_neg (fun e => absurd e.1 (by decide)), if_neg (fun e => absurd e.1 (by decide)), if_neg (fun e => absurd e.1 (by decide)), if_pos ⟨rfl, hs⟩] at h
def sA (h : Int) : Ses := startF (S0 (ses0 (peerP h)))
def sB (h : Int) : Ses := connF (S0 (sA h))
def sC (h o : Int) : Ses := heardF (mO2 o) (S0 (sB h))
def sD (h o : Int) : Ses := heardF mAlive (S0 (sC h o))
theorem tA : toldC (sA 90) = [.sl [], .bool true, .bool false, .bool false, .bool false] := rfl
theorem tB : ∃ o, toldC (sB 90) = [.sl [msC (mOpen o)], .bool false, .bool false, .bool false, .bool false] ∧ okOp o := ⟨_, rfl, ⟨rfl⟩⟩
theorem tC : toldC (sC 90 30) = [.sl [msC mAlive], .bool false, .bool false, .bool false, .bool false] := rfl
theorem tDD : ∃ l, toldC (sD 90 30) = [.sl l, .bool false, .bool false, .bool true, .bool false] ∧ (sD 90 30).st = 4 ∧ (sD 90 30).hold = 30 := ⟨_, rfl, rfl, rfl⟩
set_option maxHeartbeats 8000000 in
theorem uSmall : U Tryz.prog 7 [] (.bool true) := by
  intro σ Post hk
  refine T7 fun hB hA => ?_
  have e90 : newOk (peerP 90) = true := by decide
  have hp := newHold e90
  have lf : (peerP 90).fams.length * 16 ≤ 140737488355328 := by decide
  refine W ?_
  refine cu (uPeer (h := 90)) ?_
  refine W ?_
  refine ct ?_
  refine tNewS (p := peerP 90) ⟨rfl⟩ lf (fun _ σ1 O1 b kp hO a => ?_) (fun hf => by rw [e90] at hf; cases hf)
  obtain ⟨X1, rfl⟩ := keep_nil kp
  rw [List.append_assoc] at a ⊢
  have hO := len_app hO
  obtain ⟨o1, box1⟩ := a.ex
  refine W ?_
  refine ct (vs := [.ptr b 1 0, .agg (evC (evZ 1))]) ?_ (hi := .pl inferInstance (.agg (.flat rfl) (.nil _))) (hv := rfl)
  refine lDo a hO inv0 hp lf okEZ fun X2 O2 S2 hO2 a2 d2 i2 r2 => ?_
  have e2 : S2 = sA 90 := do1 d2 rfl
  subst e2
  rw [tA]
  clear box1
  refine W ?_
  refine ct (vs := [.ptr b 1 0, .agg (evC (evZ 3))]) ?_ (hi := .pl inferInstance (.agg (.flat rfl) (.nil _))) (hv := rfl)
  refine lDo (L := [(1, VObj.box [.sl [], .bool true, .bool false, .bool false, .bool false] false), D.dd, D.dd, D.dd]) (at_loc a2 (by rfl) hO2) (by exact hO2) i2 hp lf okEZ fun X3 O3 S3 hO3 a3 d3 i3 r3 => ?_
  have e3 : S3 = sB 90 := do3 d3 rfl
  subst e3
  obtain ⟨o3, e3, k3⟩ := tB
  rw [e3]
  refine W ?_
  refine cu uV42 ?_
  refine W ?_
  refine ct (vs := [.ptr b 1 0, .agg (evC (evO 30))]) ?_ (hi := .pl inferInstance (.agg (.flat rfl) (.nil _))) (hv := rfl)
  refine lDo (L := [(1, VObj.box [.sl [], .bool true, .bool false, .bool false, .bool false] false), (1, VObj.box [.sl [msC (mOpen o3)], .bool false, .bool false, .bool false, .bool false] false), D.dd, D.dd]) (at_loc a3 (by rfl) hO3) (by exact hO3) i3 hp lf (okEO (by decide)) fun X4 O4 S4 hO4 a4 d4 i4 r4 => ?_
  have e4 : S4 = sC 90 30 := do5 d4 rfl (by decide)
  subst e4
  rw [tC]
  refine W ?_
  refine ct (vs := [.ptr b 1 0, .agg (evC evK)]) ?_ (hi := .pl inferInstance (.agg (.flat rfl) (.nil _))) (hv := rfl)
  refine lDo (L := [(1, VObj.box [.sl [], .bool true, .bool false, .bool false, .bool false] false), (1, VObj.box [.sl [msC (mOpen o3)], .bool false, .bool false, .bool false, .bool false] false), (1, VObj.box [.sl [msC mAlive], .bool false, .bool false, .bool false, .bool false] false), D.dd]) (at_loc a4 (by rfl) hO4) (by exact hO4) i4 hp lf okEK fun X5 O5 S5 hO5 a5 d5 i5 r5 => ?_
  have e5 : S5 = sD 90 30 := do5 d5 rfl (by decide)
  subst e5
  obtain ⟨l5, e5, s5, h5⟩ := tDD
  rw [e5]
  have q3 : (msC (mOpen o3)).length = 53 := msC_len ⟨k3, rfl, ⟨trivial⟩, ⟨trivial⟩⟩
  have q4 : (msC mAlive).length = 53 := rfl
  have a6 := at_loc (L' := [(1, VObj.box [.sl [], .bool true, .bool false, .bool false, .bool false] false), (1, VObj.box [.sl [msC (mOpen o3)], .bool false, .bool false, .bool false, .bool false] false), (1, VObj.box [.sl [msC mAlive], .bool false, .bool false, .bool false, .bool false] false), (1, VObj.box [.sl l5, .bool false, .bool false, .bool true, .bool false] false)]) a5 rfl hO5
  refine W ?_
  refine ct ?_
  refine tState (S := sD 90 30) (by exact a6) ?_
  rw [s5]
  refine W ?_
  refine ct ?_
  refine tHold (S := sD 90 30) (by exact a6) ?_
  rw [h5]
  refine W ?_
  exact hk
end Go.Proofs.YtocnjlfnapefjaaGreatDoor
