/- Messages: Right; sessions: New, Families. -/
import Derived.Test.YtocnjlfnapefjaaGreatDoorT15
namespace Go.Proofs.YtocnjlfnapefjaaGreatDoor
open Go Go.V
set_option maxRecDepth 10000
set_option linter.unusedVariables false
attribute [local irreducible] vBuild vCallV
/-- A message with an open, as it is built. -/
def msN (o : Opn) : List PV := [.int .i64 1] ++ (opC o ++ [D.i 0, .nils, D.i 0, D.i 0, D.i 0, D.b 0, D.b 0, D.b 0, D.b 0, D.b 0, D.b 0, D.b 0, D.b 0, D.b 0, D.b 0, D.b 0, D.b 0, D.b 0, D.b 0, D.b 0, D.b 0, .nils, .nils, .nils, .nils, .nils, D.i 0, D.i 0, .nils, D.i 0, D.i 0])
theorem msN_spl {o : Opn} (h : okOp o) : splice [.int .i64 1, D.i 0, D.i 0, D.i 0, D.b 0, D.b 0, D.b 0, D.b 0, D.b 0, D.b 0, D.b 0, D.b 0, D.b 0, D.b 0, D.b 0, D.b 0, D.b 0, D.b 0, D.b 0, D.b 0, .nils, .bool false, D.i 0, .nils, D.i 0, D.i 0, D.i 0, D.b 0, D.b 0, D.b 0, D.b 0, D.b 0, D.b 0, D.b 0, D.b 0, D.b 0, D.b 0, D.b 0, D.b 0, D.b 0, D.b 0, D.b 0, D.b 0, .nils, .nils, .nils, .nils, .nils, D.i 0, D.i 0, .nils, D.i 0, D.i 0] 1 (opC o) = msN o := by
  have wl := opC_len h
  unfold msN
  generalize opC o = x at wl ⊢
  exact spl_sk (a := [PV.int .i64 1]) (o := 0) rfl rfl (spl_hd (X := [D.i 0, D.i 0, D.i 0, D.b 0, D.b 0, D.b 0, D.b 0, D.b 0, D.b 0, D.b 0, D.b 0, D.b 0, D.b 0, D.b 0, D.b 0, D.b 0, D.b 0, D.b 0, D.b 0, .nils, .bool false]) wl)
theorem msN_plB (o : Opn) : (msN o).all plB = true := by
  unfold msN
  rw [List.all_append, List.all_append]
  have : (opC o).all plB = true := by unfold opC; simp only [List.all_append, adc_plB]; rfl
  rw [this]; rfl
theorem msN_nz (o : Opn) : (msN o).map nz = msC (mOpen o) := by
  unfold msN
  rw [List.map_append, List.map_append]
  have : (opC o).map nz = opC o := by unfold opC; simp only [List.map_append, adc_nz]; rfl
  rw [this]; rfl
theorem msN_len {o : Opn} (h : okOp o) : (msN o).length = 53 := by
  unfold msN; rw [List.length_append, List.length_append, opC_len h]; rfl
/-- The rest of one: its open is taken out. -/
def rO : List PV := [.int .i64 1] ++ ([D.i 0, D.i 0, D.i 0, D.b 0, D.b 0, D.b 0, D.b 0, D.b 0, D.b 0, D.b 0, D.b 0, D.b 0, D.b 0, D.b 0, D.b 0, D.b 0, D.b 0, D.b 0, D.b 0, .nils, .bool false] ++ [D.i 0, .sl [], D.i 0, D.i 0, D.i 0, D.b 0, D.b 0, D.b 0, D.b 0, D.b 0, D.b 0, D.b 0, D.b 0, D.b 0, D.b 0, D.b 0, D.b 0, D.b 0, D.b 0, D.b 0, D.b 0, .sl [], .sl [], .sl [], .sl [], .sl [], D.i 0, D.i 0, .sl [], D.i 0, D.i 0])
theorem rO_spl {o : Opn} (h : okOp o) : splice (msC (mOpen o)) 1 [D.i 0, D.i 0, D.i 0, D.b 0, D.b 0, D.b 0, D.b 0, D.b 0, D.b 0, D.b 0, D.b 0, D.b 0, D.b 0, D.b 0, D.b 0, D.b 0, D.b 0, D.b 0, D.b 0, .nils, .bool false] = rO := by
  have wl := opC_len h
  show splice ([PV.int .i64 1] ++ (opC o ++ [D.i 0, .sl [], D.i 0, D.i 0, D.i 0, D.b 0, D.b 0, D.b 0, D.b 0, D.b 0, D.b 0, D.b 0, D.b 0, D.b 0, D.b 0, D.b 0, D.b 0, D.b 0, D.b 0, D.b 0, D.b 0, .sl [], .sl [], .sl [], .sl [], .sl [], D.i 0, D.i 0, .sl [], D.i 0, D.i 0])) 1 [D.i 0, D.i 0, D.i 0, D.b 0, D.b 0, D.b 0, D.b 0, D.b 0, D.b 0, D.b 0, D.b 0, D.b 0, D.b 0, D.b 0, D.b 0, D.b 0, D.b 0, D.b 0, D.b 0, .nils, .bool false] = rO
  generalize opC o = x at wl ⊢
  exact spl_sk (a := [PV.int .i64 1]) (o := 0) rfl rfl (spl_hd (v := [D.i 0, D.i 0, D.i 0, D.b 0, D.b 0, D.b 0, D.b 0, D.b 0, D.b 0, D.b 0, D.b 0, D.b 0, D.b 0, D.b 0, D.b 0, D.b 0, D.b 0, D.b 0, D.b 0, .nils, .bool false]) wl.symm)
theorem rO_plB : rO.all plB = true := rfl
theorem rO_nz : rO.map nz = msC mO := rfl
def zO : List PV := [.int .i64 1, D.i 0, D.i 0, D.i 0, D.b 0, D.b 0, D.b 0, D.b 0, D.b 0, D.b 0, D.b 0, D.b 0, D.b 0, D.b 0, D.b 0, D.b 0, D.b 0, D.b 0, D.b 0, D.b 0, .nils, .bool false, D.i 0, .nils, D.i 0, D.i 0, D.i 0, D.b 0, D.b 0, D.b 0, D.b 0, D.b 0, D.b 0, D.b 0, D.b 0, D.b 0, D.b 0, D.b 0, D.b 0, D.b 0, D.b 0, D.b 0, D.b 0, .nils, .nils, .nils, .nils, .nils, D.i 0, D.i 0, .nils, D.i 0, D.i 0]
theorem zO_plB : zO.all plB = true := rfl
theorem zO_nz : zO.map nz = msC mO := rfl
set_option maxHeartbeats 8000000 in
theorem uRightM {o : Opn} (ho : okOp o) (hl : o.fams.length ≤ 140737488355328) : U Tryz.prog 18 [.agg (msC (mOpen o))] (.bool (rightOp o)) := by
  intro σ Post hk
  have hm := mOpen_ok ho
  have ml := msC_len hm
  have ms := msC_sc (x := mOpen o)
  have ma := msC_all hm
  have mg : cut (msC (mOpen o)) 0 none = some (.int .i64 1) := msC_gkind hm
  have mg2 : cut (msC (mOpen o)) 1 (some 21) = some (.agg (opC o)) := msC_gop hm
  have mz : splice [D.i 0, D.i 0, D.i 0, D.i 0, D.b 0, D.b 0, D.b 0, D.b 0, D.b 0, D.b 0, D.b 0, D.b 0, D.b 0, D.b 0, D.b 0, D.b 0, D.b 0, D.b 0, D.b 0, D.b 0, .nils, .bool false, D.i 0, .nils, D.i 0, D.i 0, D.i 0, D.b 0, D.b 0, D.b 0, D.b 0, D.b 0, D.b 0, D.b 0, D.b 0, D.b 0, D.b 0, D.b 0, D.b 0, D.b 0, D.b 0, D.b 0, D.b 0, .nils, .nils, .nils, .nils, .nils, D.i 0, D.i 0, .nils, D.i 0, D.i 0] 0 (msC (mOpen o)) = msC (mOpen o) := msC_any hm rfl
  have rs := rO_spl ho
  have ra : cut rO 0 (some 53) = some (.agg rO) := rfl
  refine T18 fun hB hA => ?_
  refine W ?_
  refine cu (uRightOpen ho hl) ?_
  cases r : rightOp o with
  | false =>
    rw [r] at hk
    refine W ?_
    exact hk
  | true =>
    rw [r] at hk
    refine W ?_
    refine callU (vs := [.agg (msC mO), .agg (msC mO)]) uSameO (by exact z_hn) (.agg (.flat rO_plB) (.agg (.flat zO_plB) (.nil _))) ?_
    refine W ?_
    exact hk
end Go.Proofs.YtocnjlfnapefjaaGreatDoor
