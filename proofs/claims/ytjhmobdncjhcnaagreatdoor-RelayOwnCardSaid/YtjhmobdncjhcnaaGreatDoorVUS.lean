/- Sizes of what came in. -/
import Derived.Test.YtjhmobdncjhcnaaGreatDoorVU0
namespace Go.Proofs.YtjhmobdncjhcnaaGreatDoor
open Go Go.V
theorem reach_le : reachBytes ≤ 140737488355328 := by decide
theorem sz_okRib {r : Rt} (h : okArg r) (s : SzL (rtC r)) : okRib r := by
  have e := reach_le
  have k1 : PV.str r.m.key ∈ rtC r := by simp [rtC, mrc]
  have k2 : PV.sl (r.att.tn.map tnC) ∈ rtC r := by simp [rtC, atC]
  refine ⟨h.ok, h.cl, h.tn, fun t ht => ?_, Nat.le_trans (s _ k1).strLen e⟩
  have k3 : PV.sl (bsl t.id) ∈ tnC t := by simp [tnC]
  have := ((s _ k2).slAll (List.mem_map_of_mem (f := tnC) ht) _ k3).slLen
  rw [bsl_len] at this
  exact Nat.le_trans this e
end Go.Proofs.YtjhmobdncjhcnaaGreatDoor
