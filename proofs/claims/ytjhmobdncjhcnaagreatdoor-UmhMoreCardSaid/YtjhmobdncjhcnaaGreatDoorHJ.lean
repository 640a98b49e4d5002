/- slices.Clone; rib.copied. -/
import Derived.Test.YtjhmobdncjhcnaaGreatDoorHL
import Derived.Test.YtjhmobdncjhcnaaGreatDoorHY
namespace Go.Proofs.YtjhmobdncjhcnaaGreatDoor
open Go Go.V
set_option maxRecDepth 10000
attribute [local irreducible] vBuild vCallV
/-! Attributes while their rows are one's own. -/
section
variable {a : At} {p t v : PV}
end
def rtP (r : Rt) (x : List PV) : List PV := [.int .i64 r.size] ++ ([.int .i64 r.safi] ++ (mrc r.m ++ (urU r.u ++ (adc r.next ++ x))))
section
variable {r : Rt} {x y : List PV}
instance [PlL x] : PlL (rtP r x) := by unfold rtP; infer_instance
instance [ClL x] : ClL (rtP r x) := by unfold rtP; infer_instance
end
end Go.Proofs.YtjhmobdncjhcnaaGreatDoor
/- rib.copied. -/
namespace Go.Proofs.YtjhmobdncjhcnaaGreatDoor
open Go Go.V
set_option maxRecDepth 10000
attribute [local irreducible] vBuild vCallV
theorem vg3 {x0 x1 x2 : Nat × VObj} {J : VHeap} {b g : Nat} {o : VObj} (h : vGet J b g = some o) : vGet (x0 :: x1 :: x2 :: J) (3 + b) g = some o := by
  have h := vGet_some h
  rw [Nat.add_comm]
  exact vGet_of h
theorem set_self {l : List (List PV)} {i : Nat} {c : List PV} (h : l[i]? = some c) : l.set i c = l := by
  apply List.ext_getElem?
  intro j
  by_cases hj : i = j
  · subst hj; rw [List.getElem?_set_self (List.getElem?_eq_some_iff.1 h).1, h]
  · rw [List.getElem?_set_ne hj]
section
variable {r : Rt} {σ J K : VHeap} {Post : KP} {Zb : List PV} {b g b2 g2 : Nat} {env : Env}
end
end Go.Proofs.YtjhmobdncjhcnaaGreatDoor
/- rib.Reached; relay: is, copied. -/
namespace Go.Proofs.YtjhmobdncjhcnaaGreatDoor
open Go Go.V
set_option maxRecDepth 10000
attribute [local irreducible] vBuild vCallV
theorem tnR_id {t : Tn} (h : tnR t = true) : t.id.length ≤ 64 := by
  unfold tnR at h
  simp only [Bool.and_eq_true] at h
  obtain ⟨h0, _, _, h⟩ := h
  have hs := okAd_s h0
  unfold tnK at h
  split at h
  · have := of_decide_eq_true h; omega
  · split at h
    · rw [Bool.and_eq_true] at h; have := of_decide_eq_true h.2; omega
    · split at h
      · rw [Bool.and_eq_true] at h; have := of_decide_eq_true h.2; omega
      · split at h
        · rw [Bool.and_eq_true] at h
          obtain ⟨_, _, hl, _⟩ := ofA_ok1 (of_decide_eq_true h.1); omega
        · split at h
          · rw [Bool.and_eq_true] at h; have := of_decide_eq_true h.2; omega
          · cases h
structure AtR (a : At) : Prop where
  cl : a.cl.length ≤ 32
  ex : a.ex.length ≤ 64
  tn : a.tn.length ≤ 1
  path : a.path.length ≤ 16
  nums : ∀ s, s ∈ a.path → s.nums.length ≤ 255
  id : ∀ t, t ∈ a.tn → t.id.length ≤ 64
theorem atR_parts {a : At} (h : atR a = true) : AtR a := by
  unfold atR pathR at h
  simp only [Bool.and_eq_true, Bool.not_eq_true', List.any_eq_false] at h
  obtain ⟨_, _, _, _, _, _, _, h1, h2, h3, h4, h5, h6, h7⟩ := h
  refine ⟨of_decide_eq_true h1, of_decide_eq_true h2, of_decide_eq_true h3, of_decide_eq_true h6, fun s hs => ?_, fun t ht => ?_⟩
  · have := h7 s hs
    unfold segW at this
    simp only [Bool.or_eq_true, not_or, decide_eq_true_eq] at this
    omega
  · have := h5 t ht
    refine tnR_id ?_
    cases he : tnR t with
    | true => rfl
    | false => rw [he] at this; exact absurd rfl this
theorem rtR_at {r : Rt} (h : rtR r = true) : atR r.att = true := by
  unfold rtR at h
  simp only [Bool.and_eq_true] at h
  exact h.2.1
section
variable {a : At} {c d : PV}
end
end Go.Proofs.YtjhmobdncjhcnaaGreatDoor
/- relay.passed. -/
namespace Go.Proofs.YtjhmobdncjhcnaaGreatDoor
open Go Go.V
set_option maxRecDepth 10000
set_option linter.unusedVariables false
structure Ch where
  route : Rt
  peer : Int
  id : Ad
def chC (x : Ch) : List PV := rtC x.route ++ ([.int .i64 x.peer] ++ (adc x.id))
instance (x : Ch) : PlL (chC x) := by unfold chC; infer_instance
instance (x : Ch) : ClL (chC x) := by unfold chC; infer_instance
section
variable {x : Ch}
end
attribute [local irreducible] vBuild vCallV
/-! A route's attributes, written at one place. -/
section
variable {r : Rt} {x v : PV} {a : At} {o : Nat} {c d : PV}
theorem rt_ga {o : Nat} {sz : Option Nat} {q : Option PV} (h : okRt r) (e : cut (atC r.att) o sz = q) : cut (rtC r) (108 + o) sz = q :=
  cut_sk (n := 1) (o := 107 + o) rfl (by omega) (cut_sk (n := 1) (o := 106 + o) rfl (by omega) (cut_sk (o := 44 + o) (mrc_len h.m) (by omega) (cut_sk (o := 17 + o) (urU_len h.u) (by omega) (cut_sk (o := o) (adc_len h.next) (by omega) e))))
end
section
variable {r : Rt} {k : Ad} {c : Ch} {σ : VHeap} {Post : KP} {Zb : List PV} {q : List (List PV)} {env : Env} {g : Nat}
end
end Go.Proofs.YtjhmobdncjhcnaaGreatDoor
