/- From a triple to the row's walk. -/
import Derived.Test.YtdkjcadffhnjgaaV18
import Derived.Below
namespace Go.V
open Go Go.RowKit

theorem Sim.nil (β : Beta) (w : World) : Sim [] β w := ⟨fun _ _ _ h => by simp at h, fun _ _ _ _ _ _ _ h => by simp at h⟩
theorem below_of_T {P : Program} {f : FuncId} {vs : Array Value} {w : World} {args : List PV} (h : T P f args [] (fun r _ => r = .bool true)) (hl : vs.size = args.length)
    (hr : ∀ (i : Nat) (c : PV) (v : Value), args[i]? = some c → vs[i]? = some v → Rep w [] (fun _ => none) c v) : Calls P f vs w fun e w' => e = .returned (.bool true) ∧ Below w.heap.size w w' := by
  refine (h w (fun _ => none) vs hl hr (Sim.nil _ w)).mono ?_
  rintro e w' ⟨v, r, σ', β', rfl, rfl, e3, e4, e5⟩
  cases e3
  exact ⟨rfl, e5.os, e5.tape, e5.output, e5.size, fun k hk => e5.own k hk (by rintro ⟨i, g, o, h1, _⟩; simp at h1)⟩
end Go.V
