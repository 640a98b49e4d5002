/- What the closed cases share. -/
import Derived.Test.YtjhmobdncjhcnaaGreatDoorHL
import Derived.Test.YtjhmobdncjhcnaaGreatDoorGC
import Derived.Test.YtjhmobdncjhcnaaGreatDoorF3
import Derived.Test.YtjhmobdncjhcnaaGreatDoorF4
namespace Go.Proofs.YtjhmobdncjhcnaaGreatDoor
open Go Go.V
set_option maxRecDepth 10000
def ip4 (a b c d : UInt8) : Ad := ⟨4, [a, b, c, d, 0, 0, 0, 0, 0, 0, 0, 0, 0, 0, 0, 0]⟩
def w1 : Ad := ip4 10 0 0 1
def w2 : Ad := ip4 10 0 0 2
def w9 : Ad := ip4 10 0 0 9
def factSpec : List (Nat × List PV × PV) → XE → XE
  | [], e => e
  | (f, a, r) :: l, e => fun g args => cond (Nat.beq g f) (cond (eqL (eqPV 9) a args) (some r) (factSpec l e g args)) (factSpec l e g args)
theorem factSpec_ok {e : XE} (he : SpecOk Tryz.prog e) : ∀ (l : List (Nat × List PV × PV)), (∀ p, p ∈ l → U Tryz.prog p.1 p.2.1 p.2.2) → SpecOk Tryz.prog (factSpec l e)
  | [], _ => he
  | (f, a, r) :: l, h => by
    have ih := factSpec_ok he l fun p hp => h p (List.mem_cons_of_mem _ hp)
    have h0 := h (f, a, r) List.mem_cons_self
    intro g args v hv
    unfold factSpec at hv
    cases e1 : Nat.beq g f with
    | false => rw [e1] at hv; exact ih g args v hv
    | true =>
      rw [e1] at hv; have e1 := Nat.eq_of_beq_eq_true e1; subst e1
      dsimp only [cond] at hv
      cases e2 : eqL (eqPV 9) a args with
      | false => rw [e2] at hv; exact ih g args v hv
      | true =>
        rw [e2] at hv
        dsimp only at hv
        cases hv
        rw [← eqL_ok (eqPV_ok 9) _ _ e2]; exact h0
def extK (K : List Nat) : XE := fun f args => match args with
  | [] => cond (Nat.ble 1000000 f && K.any (Nat.beq (f - 1000000))) (some (.bool true)) none
  | _ :: _ => none
theorem extK_ok {K : List Nat} (h : ∀ f, f ∈ K → callOk Tryz.prog f = true) : ExtOk Tryz.prog (extK K) := by
  constructor
  · intro f args v hf hx
    unfold extK at hx
    split at hx
    · have : Nat.ble 1000000 f = false := by
        cases hb : Nat.ble 1000000 f with
        | false => rfl
        | true => exact absurd hf (Nat.not_lt.2 (Nat.le_of_ble_eq_true hb))
      rw [this] at hx; cases hx
    · cases hx
  · intro f hx
    unfold extK at hx
    dsimp only at hx
    cases hk : K.any (Nat.beq (1000000 + f - 1000000)) with
    | false => rw [hk, Bool.and_false] at hx; cases hx
    | true =>
      obtain ⟨k, hm, he⟩ := List.any_eq_true.1 hk
      have e := Nat.eq_of_beq_eq_true he
      rw [Nat.add_sub_cancel_left] at e
      rw [e]
      exact h k hm
end Go.Proofs.YtjhmobdncjhcnaaGreatDoor
