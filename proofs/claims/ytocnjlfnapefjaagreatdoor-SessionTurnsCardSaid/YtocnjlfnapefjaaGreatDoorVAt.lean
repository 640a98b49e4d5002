/- Closed calls with rows as arguments; tables of functions that are read out of the program itself. -/
import Derived.Test.YtocnjlfnapefjaaGreatDoorVJ
namespace Go.V
open Go
theorem U_runC [Glob] {P : Program} {f : FuncId} {args : List PV} {r : PV} (hr : Go.V.flatB 9 r = true) (ha : ClL args) (hg : ∀ g cells, Glob.tab g = some cells → ClL cells) (h : T P f args [] fun v _ => v = r) : U P f args r := by
  intro σ Post hk w β vs h1 h2 h3 h4
  have s0 : Sim [] β w := ⟨fun _ _ _ h => by simp at h, fun _ _ _ _ _ _ _ h => by simp at h⟩
  have g0 : GloRep w [] β := fun g cells e => by
    obtain ⟨ff, a1, a2, a3⟩ := h4 g cells e
    refine ⟨ff, still_part (L := σ) a1, fun j c hj => ?_, a3⟩
    exact Rep.part (σ := []) (L := σ) (a2 j c hj) (belL_iff.1 ((hg g cells e).cl 0) c (List.mem_of_getElem? hj))
  refine (h w β vs h1 (fun i c v e1 e2 => Rep.part (σ := []) (L := σ) (h2 i c v e1 e2) (belL_iff.1 (ha.cl 0) c (List.mem_of_getElem? e1))) s0 g0).mono ?_
  rintro e w' ⟨v, r', σ', β', rfl, rfl, e3, _, e5⟩
  have old : ∀ b, b < w.heap.size → w'.heap[b]? = w.heap[b]? := fun b hb => e5.own b hb (by rintro ⟨i, g, o, h1, _⟩; simp at h1)
  have hs : Step σ β w σ β w' :=
    ⟨e5.os, e5.tape, e5.output, e5.size, fun b hb _ => old b hb, fun a v hc _ => by rw [cell_of_heap (old _ (cell_lt hc))]; exact hc, fun _ _ h => h, fun _ _ _ h => h,
      fun b arr ty fr hb => ⟨arr, (old b (Array.getElem?_eq_some_iff.1 hb).1).trans hb, rfl⟩, fun i gi oi h1 => ⟨gi, oi, h1, Nat.le_refl _, fun _ => ⟨oi.alike_refl, rfl⟩⟩⟩
  refine ⟨v, _, σ, β, rfl, hk, flat_rep 9 _ _ hr e3, ⟨fun i gi oi h1 => ?_, h3.inj⟩, hs⟩
  by_cases hl : oi.live
  · exact (h3.obj i gi oi h1).step hs fun b hb => old b (h3.lt h1 hl hb)
  · cases oi <;> simp [VObj.live] at hl; trivial
theorem U_kernelC [Glob] {P : Program} {tab : List (Nat × VFun)} {ext spec : XE} {f : FuncId} (fuel k : Nat) (args : List PV) (r : PV) (ht : TabOk P tab) (he : ExtOk P ext) (hsp : SpecOk P spec) (hg : ∀ g cells, Glob.tab g = some cells → ClL cells)
    (hr : Go.V.flatB 9 r = true) (ha : ClL args) (h : (match xcall tab ext spec fuel k f args [] with | some (v, _) => eqPV 9 v r | none => false) = true) : U P f args r := by
  refine U_runC hr ha hg ?_
  split at h
  · rename_i v σ' hx
    exact xcall_ok ht he hsp k f args [] v σ' hx _ (eqPV_ok 9 _ _ h)
  · cases h
/-- A function as the small language has it. -/
def autoV [Glob] (P : Program) (raw : FuncId → Bool) (fn : Func) : VFun := match cFun P raw false fn with | some v => v | none => ⟨0, 0, .skip, [], false⟩
theorem autoOk [Glob] {P : Program} {raw : FuncId → Bool} {k : Nat} {fn : Func} (h : P.funcs[k]? = some fn) (hs : (cFun P raw false fn).map (·.raw) = some false) : FunOk P k (autoV P raw fn) := by
  refine ⟨fn, raw, h, ?_⟩
  unfold autoV
  cases hc : cFun P raw false fn with
  | none => rw [hc] at hs; cases hs
  | some v =>
    rw [hc] at hs
    simp only [Option.map_some, Option.some.injEq] at hs
    simp only [hs, hc]
theorem specNone [Glob] {P : Program} : SpecOk P (fun _ _ => none) := fun _ _ _ h => by cases h
/-- Closures that may be called. -/
def extA (K : List Nat) : XE := fun f args => match args with
  | [] => cond (Nat.ble 1000000 f && K.any (Nat.beq (f - 1000000))) (some (.bool true)) none
  | _ :: _ => none
theorem extA_ok [Glob] {P : Program} {K : List Nat} (h : ∀ f, f ∈ K → callOk P f = true) : ExtOk P (extA K) := by
  constructor
  · intro f args v hf hx
    unfold extA at hx
    split at hx
    · have : Nat.ble 1000000 f = false := by
        cases hb : Nat.ble 1000000 f with
        | false => rfl
        | true => exact absurd hf (Nat.not_lt.2 (Nat.le_of_ble_eq_true hb))
      rw [this] at hx; cases hx
    · cases hx
  · intro f hx
    unfold extA at hx
    dsimp only at hx
    cases hk : K.any (Nat.beq (1000000 + f - 1000000)) with
    | false => rw [hk, Bool.and_false] at hx; cases hx
    | true =>
      obtain ⟨k, hm, he⟩ := List.any_eq_true.1 hk
      have e := Nat.eq_of_beq_eq_true he
      rw [Nat.add_sub_cancel_left] at e
      rw [e]
      exact h k hm
end Go.V
