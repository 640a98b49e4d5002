/- cursor.Order, out of what no other text keeps. -/
import Derived.Test.YtjhmobdncjhcnaaGreatDoorHL
import Derived.Test.YtjhmobdncjhcnaaGreatDoorF5a
import Derived.Test.YtjhmobdncjhcnaaGreatDoorF1
import Derived.Test.YtjhmobdncjhcnaaGreatDoorVJ
import Derived.Laws.Externs
import Derived.Lib.Bytealg
namespace Go.Proofs.YtjhmobdncjhcnaaGreatDoor
open Go Go.V
set_option maxRecDepth 10000
theorem run_loadBytesL {P : Program} {w : World} {l : List UInt8} : ∀ {a : Addr} {acc : ByteArray}, (∀ (j : Nat) (x : UInt8), l[j]? = some x → w.cell? (a.add j) = some (.int .u8 x.toNat)) →
    (Extern.Bytes.loadBytes a l.length acc).run P w = .ok ⟨acc.data ++ l.toArray⟩ w := by
  induction l with
  | nil => intro a acc _; simp [Extern.Bytes.loadBytes]
  | cons x r ih =>
    intro a acc h
    have h0 := h 0 x rfl
    rw [Addr.add, if_pos rfl] at h0
    have h1 : (load a).run P w = .ok (.int .u8 x.toNat) w := by simp [h0]
    rw [List.length_cons, Extern.Bytes.loadBytes]
    simp only [Sem.run_bind, h1, Result.andThen]
    have h2 : (acc.push (x.toNat : Int).toNat.toUInt8) = acc.push x := by simp
    rw [h2, ih (a := a.add 1) (acc := acc.push x) fun j y hj => by
      have := h (j + 1) y hj
      rw [← this]; congr 1
      unfold Addr.add
      by_cases e : j = 0
      · subst e; simp
      · simp [e]; omega]
    simp [ByteArray.push]
theorem run_bytesOfL [Glob] {P : Program} {w : World} {σ β} {l : List UInt8} {v : Value} (h : Rep w σ β (.sl (bsl l)) v) : (Extern.Bytes.bytesOf v).run P w = .ok ⟨l.toArray⟩ w := by
  cases h with
  | sl _ sz n cap a f hn hc hsz ha h =>
    have hn2 : l.length = n := by rw [← hn]; simp
    cases l with
    | nil =>
      have : n = 0 := by simpa using hn2.symm
      subst this
      cases a with
      | none => rfl
      | some a => rfl
    | cons x r =>
      have hz : sz = 1 := (hsz [byt x] (by simp)).symm
      subst hz
      obtain ⟨a0, rfl, hst⟩ := ha (by rw [← hn2]; simp)
      have := run_loadBytesL (P := P) (w := w) (l := x :: r) (a := a0) (acc := .empty) fun j y hj => by
        have hj2 := (List.getElem?_eq_some_iff.1 hj).1
        have e1 := rep_int (h j [byt y] 0 (byt y) (by rw [List.getElem?_map, hj]; rfl) rfl)
        rw [Nat.mul_one, Nat.add_zero] at e1
        rw [(hst j (by omega)).1, e1]
      rw [hn2] at this
      simp only [Extern.Bytes.bytesOf]
      rw [this, show ByteArray.empty.data = #[] from rfl, Array.empty_append]
theorem X_cmpL [Glob] {P : Program} {f : FuncId} {fn : Func} (hf : P.funcs[f]? = some fn) (hname : (fn.name == "runtime.NumGoroutine") = false)
    (hb : fn.body.isNone = true) (hn : Extern.findNext fn = none) (he : Extern.find fn = some Extern.BytealgCompare.compare) {a b : List UInt8} {σ : VHeap} {Post : KP} (k : Post (.int .i64 (Lib.compareBytes a b)) σ) : X P f [.sl (bsl a), .sl (bsl b)] σ Post := by
  intro w β vs h1 h2 h3 h4
  match vs, h1 with
  | ⟨[u, v]⟩, _ =>
  have e1 := run_bytesOfL (P := P) (h2 0 (.sl (bsl a)) u rfl rfl)
  have e2 := run_bytesOfL (P := P) (h2 1 (.sl (bsl b)) v rfl rfl)
  refine ⟨.int .i64 (Lib.compareBytes a b), w, _, σ, β, ?_, k, .int _ _, h3, Step.refl _ _ _⟩
  rw [run_callFunc_extern hf hname hb hn he]
  have e3 : (Extern.BytealgCompare.compare ⟨[u, v]⟩).run P w = .ok (.int .i64 (Lib.compareBytes a b)) w := by
    show ((Extern.Bytes.bytesOf u >>= fun x => Extern.Bytes.bytesOf v >>= fun y => pure (goInt (Extern.BytealgCompare.cmp x y))) : Sem Value).run P w = _
    simp only [Sem.run_bind, e1, e2, Result.andThen, Sem.run_pure]
    rw [Lib.cmp_eq]; rfl
  rw [e3]; rfl
open D in
theorem T164L {args : List PV} {σ : VHeap} {Post : KP} (h : belH σ.length σ → (∀ c, c ∈ args → bel σ.length c) → vrun Tryz.prog σ.length vb164 (argsEnv args) (σ ++ []) (vend vf164 (TrimP σ.length Post))) (hl : args.length ≤ 8 := by exact Nat.le_of_ble_eq_true rfl) : T Tryz.prog 164 args σ Post := T.walk Tryz.func164 cf164 hl rfl h
open D in
theorem T122L {args : List PV} {σ : VHeap} {Post : KP} (h : belH σ.length σ → (∀ c, c ∈ args → bel σ.length c) → vrun Tryz.prog σ.length vb122 (argsEnv args) (σ ++ []) (vend vf122 (TrimP σ.length Post))) (hl : args.length ≤ 8 := by exact Nat.le_of_ble_eq_true rfl) : T Tryz.prog 122 args σ Post := T.walk Tryz.func122 cf122 hl rfl h
theorem uBytesCmpL {a b : List UInt8} : U Tryz.prog 164 [.sl (bsl a), .sl (bsl b)] (.int .i64 (Lib.compareBytes a b)) := by
  intro σ Post hk
  refine T164L fun hB hA => ?_
  refine W ?_
  refine cx (fun Post k => X_cmpL Tryz.func200 (by kernel_rfl) (by kernel_rfl) (by kernel_rfl) (by kernel_rfl) (a := a) (b := b) k) (by exact z_ma) (by infer_instance) ?_
  refine W ?_
  exact hk
theorem uOrderL {a b : List UInt8} : U Tryz.prog 122 [.sl (bsl a), .sl (bsl b)] (.int .i64 (Lib.compareBytes a b)) := by
  intro σ Post hk
  refine T122L fun hB hA => ?_
  refine W ?_
  refine cu uBytesCmpL ?_
  refine W ?_
  exact hk
theorem U_runC [Glob] {P : Program} {f : FuncId} {args : List PV} {r : PV} (hr : Go.V.flatB 9 r = true) (ha : ClL args) (hg : ∀ g cells, Glob.tab g = some cells → ClL cells) (h : T P f args [] fun v _ => v = r) : U P f args r := by
  intro σ Post hk w β vs h1 h2 h3 h4
  have s0 : Sim [] β w := ⟨fun _ _ _ h => by simp at h, fun _ _ _ _ _ _ _ h => by simp at h⟩
  have g0 : GloRep w [] β := fun g cells e => by
    obtain ⟨ff, a1, a2, a3⟩ := h4 g cells e
    refine ⟨ff, still_part (L := σ) a1, fun j c hj => ?_, a3⟩
    exact Rep.part (σ := []) (L := σ) (a2 j c hj) (belL_iff.1 ((hg g cells e).cl 0) c (List.mem_of_getElem? hj))
  refine (h w β vs h1 (fun i c v e1 e2 => Rep.part (σ := []) (L := σ) (h2 i c v e1 e2) (belL_iff.1 (ha.cl 0) c (List.mem_of_getElem? e1))) s0 g0).mono ?_
  rintro e w' ⟨v, r', σ', β', rfl, rfl, e3, _, e5⟩
  have old : ∀ b, b < w.heap.size → w'.heap[b]? = w.heap[b]? := fun b hb => e5.own b hb (by rintro ⟨i, g, o, h1, _⟩; simp at h1)
  have hs : Step σ β w σ β w' :=
    ⟨e5.os, e5.tape, e5.output, e5.size, fun b hb _ => old b hb, fun a v hc _ => by rw [cell_of_heap (old _ (cell_lt hc))]; exact hc, fun _ _ h => h, fun _ _ _ h => h,
      fun b arr ty fr hb => ⟨arr, (old b (Array.getElem?_eq_some_iff.1 hb).1).trans hb, rfl⟩, fun i gi oi h1 => ⟨gi, oi, h1, Nat.le_refl _, fun _ => ⟨oi.alike_refl, rfl⟩⟩⟩
  refine ⟨v, _, σ, β, rfl, hk, flat_rep 9 _ _ hr e3, ⟨fun i gi oi h1 => ?_, h3.inj⟩, hs⟩
  by_cases hl : oi.live
  · exact (h3.obj i gi oi h1).step hs fun b hb => old b (h3.lt h1 hl hb)
  · cases oi <;> simp [VObj.live] at hl; trivial
theorem U_kernelC [Glob] {P : Program} {tab : List (Nat × VFun)} {ext spec : XE} {f : FuncId} (fuel k : Nat) (args : List PV) (r : PV) (ht : TabOk P tab) (he : ExtOk P ext) (hsp : SpecOk P spec) (hg : ∀ g cells, Glob.tab g = some cells → ClL cells)
    (hr : Go.V.flatB 9 r = true) (ha : ClL args) (h : (match xcall tab ext spec fuel k f args [] with | some (v, _) => eqPV 9 v r | none => false) = true) : U P f args r := by
  refine U_runC hr ha hg ?_
  split at h
  · rename_i v σ' hx
    exact xcall_ok ht he hsp k f args [] v σ' hx _ (eqPV_ok 9 _ _ h)
  · cases h
end Go.Proofs.YtjhmobdncjhcnaaGreatDoor
