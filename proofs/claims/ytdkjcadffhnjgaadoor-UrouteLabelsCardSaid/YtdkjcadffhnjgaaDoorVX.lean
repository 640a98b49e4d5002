/- Functions without a body: bytealg.Compare. -/
import Derived.Test.YtdkjcadffhnjgaaDoorVT
import Derived.Test.YtdkjcadffhnjgaaDoorVW
import Derived.Laws.Externs
import Derived.Lib.Bytealg
namespace Go.V
open Go
theorem run_loadBytes {P : Program} {w : World} {l : List UInt8} : ∀ {a : Addr} {acc : ByteArray}, (∀ (j : Nat) (x : UInt8), l[j]? = some x → w.cell? (a.add j) = some (.int .u8 x.toNat)) →
    (Extern.Bytes.loadBytes a l.length acc).run P w = .ok ⟨acc.data ++ l.toArray⟩ w := by
  induction l with
  | nil => intro a acc _; simp [Extern.Bytes.loadBytes]
  | cons x r ih =>
    intro a acc h
    have h0 := h 0 x rfl
    rw [Addr.add, if_pos rfl] at h0
    have h1 : (load a).run P w = .ok (.int .u8 x.toNat) w := by simp [h0]
    rw [List.length_cons, Extern.Bytes.loadBytes]
    simp only [Sem.run_bind, h1, Result.andThen]
    have h2 : (acc.push (x.toNat : Int).toNat.toUInt8) = acc.push x := by simp
    rw [h2, ih (a := a.add 1) (acc := acc.push x) fun j y hj => by
      have := h (j + 1) y hj
      rw [← this]; congr 1
      unfold Addr.add
      by_cases e : j = 0
      · subst e; simp
      · simp [e]; omega]
    simp [ByteArray.push]
theorem run_bytesOf [Glob] {P : Program} {w : World} {σ β} {l : List UInt8} {v : Value} (h : Rep w σ β (.sl (bsl l)) v) : (Extern.Bytes.bytesOf v).run P w = .ok ⟨l.toArray⟩ w := by
  cases h with
  | sl _ sz n cap a f hn hc hsz ha h =>
    have hn2 : l.length = n := by rw [← hn]; simp
    cases l with
    | nil =>
      have : n = 0 := by simpa using hn2.symm
      subst this
      cases a with
      | none => rfl
      | some a => rfl
    | cons x r =>
      have hz : sz = 1 := (hsz [byt x] (by simp)).symm
      subst hz
      obtain ⟨a0, rfl, hst⟩ := ha (by rw [← hn2]; simp)
      have := run_loadBytes (P := P) (w := w) (l := x :: r) (a := a0) (acc := .empty) fun j y hj => by
        have hj2 := (List.getElem?_eq_some_iff.1 hj).1
        have e1 := rep_int (h j [byt y] 0 (byt y) (by rw [List.getElem?_map, hj]; rfl) rfl)
        rw [Nat.mul_one, Nat.add_zero] at e1
        rw [(hst j (by omega)).1, e1]
      rw [hn2] at this
      simp only [Extern.Bytes.bytesOf]
      rw [this, show ByteArray.empty.data = #[] from rfl, Array.empty_append]
/-- bytealg.Compare. -/
theorem X_cmp [Glob] {P : Program} {f : FuncId} {fn : Func} (hf : P.funcs[f]? = some fn) (hname : (fn.name == "runtime.NumGoroutine") = false)
    (hb : fn.body.isNone = true) (hn : Extern.findNext fn = none) (he : Extern.find fn = some Extern.BytealgCompare.compare) {a b : List UInt8} {σ : VHeap} {Post : KP} (k : Post (.int .i64 (Lib.compareBytes a b)) σ) : X P f [.sl (bsl a), .sl (bsl b)] σ Post := by
  intro w β vs h1 h2 h3 h4
  match vs, h1 with
  | ⟨[u, v]⟩, _ =>
  have e1 := run_bytesOf (P := P) (h2 0 (.sl (bsl a)) u rfl rfl)
  have e2 := run_bytesOf (P := P) (h2 1 (.sl (bsl b)) v rfl rfl)
  refine ⟨.int .i64 (Lib.compareBytes a b), w, _, σ, β, ?_, k, .int _ _, h3, Step.refl _ _ _⟩
  rw [run_callFunc_extern hf hname hb hn he]
  have e3 : (Extern.BytealgCompare.compare ⟨[u, v]⟩).run P w = .ok (.int .i64 (Lib.compareBytes a b)) w := by
    show ((Extern.Bytes.bytesOf u >>= fun x => Extern.Bytes.bytesOf v >>= fun y => pure (goInt (Extern.BytealgCompare.cmp x y))) : Sem Value).run P w = _
    simp only [Sem.run_bind, e1, e2, Result.andThen, Sem.run_pure]
    rw [Lib.cmp_eq]; rfl
  rw [e3]; rfl
end Go.V
