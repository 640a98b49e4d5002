/- vrf.Rights. -/
import Derived.Test.YtjhmobdncjhcnaaGreatDoorR21
namespace Go.Proofs.YtjhmobdncjhcnaaGreatDoor
open Go Go.V
set_option maxRecDepth 10000
set_option linter.unusedVariables false
attribute [local irreducible] vBuild vCallV
set_option maxHeartbeats 8000000 in
theorem uRights {l : List Vr} (ho : ∀ v, v ∈ l → okVrf v) (hl : l.length ≤ 4611686018427387904) : U Tryz.prog 19 [.sl (l.map vrC)] (.bool (rightsF l)) := by
  intro σ Post hk
  have b1 : (l.map vrC).length = l.length := List.length_map _
  have hcall : callOk Tryz.prog 52 = true := by kernel_rfl
  have hsz : ∀ e, e ∈ l.map vrC → e.length = 30 := fun e he => by obtain ⟨v, hv, rfl⟩ := List.mem_map.1 he; exact vrC_len (ho v hv).ok
  refine T19 fun hB hA => ?_
  refine W ?_
  refine lp (fun j e s => ∃ (i g : Nat) (o : VObj), i + j = l.length ∧ e 8 = .int .i64 i ∧ rightsG [] l = rightsG (l.take i) (l.drop i) ∧ s = σ ++ [(g, o)]) l.length ⟨0, 0, .dead, by simp, rfl, by simp, rfl⟩ ?_
  rintro j u _ ⟨i, g, o, hi, e8, heq, rfl⟩
  by_cases h5 : i < l.length
  · obtain ⟨v, hx⟩ : ∃ x, l[i]? = some x := ⟨_, List.getElem?_eq_getElem h5⟩
    have hg : (l.map vrC)[(i : Int).toNat]? = some (vrC v) := by rw [Int.toNat_natCast, List.getElem?_map, hx]; rfl
    have hm := List.mem_of_getElem? hx
    have hv := ho v hm
    have sc := vrC_sc (x := v)
    have ln := vrC_len hv.ok
    have c0 := vrC_all hv.ok
    have d0 := vrC_any hv.ok (cs := [.str [], .int .i64 0, D.o, D.o, D.o, D.o, D.o, D.o, D.o, D.o, .nils, .nils, .int .i64 0, D.o, D.o, D.o, D.o, D.o, D.o, D.o, D.o, D.o, D.o, D.o, D.o, D.o, D.o, D.o, D.o, .nils]) rfl
    rw [drop_cons hx] at heq
    refine W ?_
    refine cu (uVrR hv) ?_
    cases hr : vrR v with
    | false =>
      have hf : rightsF l = false := by unfold rightsF; rw [heq, rightsG, hr]; rfl
      rw [hf] at hk
      refine W ?_
      exact hk
    | true =>
      refine W ?_
      refine ct ?_
      refine tConV (l := l.take i) (p := fun o => twF o v) (by rw [List.length_take]; omega) hcall (fun x hx => (ho x (List.mem_of_mem_take hx)).ok) (fun x hx L Q hq => tTwice (ho x (List.mem_of_mem_take hx)).ok hv.ok (oget (lget rfl (by simp [vGet]))) hq) ?_
      cases ha : (l.take i).any fun o => twF o v with
      | true =>
        have hf : rightsF l = false := by unfold rightsF; rw [heq, rightsG, ha]; simp
        rw [hf] at hk
        refine W ?_
        exact hk
      | false =>
        rw [rightsG_step hr ha, ← take_snoc hx] at heq
        refine W ?_
        exact ⟨j - 1, by omega, i + 1, _, _, by omega, rfl, heq, rfl⟩
  · have e1 : l.drop i = [] := List.drop_of_length_le (by omega)
    rw [e1, rightsG] at heq
    by_cases h4 : l.length ≤ 4
    · refine W ?_
      exact fin hk (by unfold rightsF; rw [heq]; simp [h4])
    · refine W ?_
      exact fin hk (by unfold rightsF; rw [heq]; simp [h4])
end Go.Proofs.YtjhmobdncjhcnaaGreatDoor
