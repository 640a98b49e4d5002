/- cursor.Order, out of what no other text keeps. -/
import Derived.Test.YtjhmobdncjhcnaaGreatDoorHL
import Derived.Test.YtjhmobdncjhcnaaGreatDoorHY
import Derived.Test.YtjhmobdncjhcnaaGreatDoorF1
import Derived.Test.YtjhmobdncjhcnaaGreatDoorVJ
import Derived.Laws.Externs
import Derived.Lib.Bytealg
import Derived.Test.YtjhmobdncjhcnaaGreatDoorRF0
import Derived.Test.YtjhmobdncjhcnaaGreatDoorR27
import Derived.Test.YtjhmobdncjhcnaaGreatDoorF6
import Derived.Test.YtjhmobdncjhcnaaGreatDoorF8
namespace Go.Proofs.YtjhmobdncjhcnaaGreatDoor
open Go Go.V
set_option maxRecDepth 10000
theorem run_loadBytesL {P : Program} {w : World} {l : List UInt8} : ∀ {a : Addr} {acc : ByteArray}, (∀ (j : Nat) (x : UInt8), l[j]? = some x → w.cell? (a.add j) = some (.int .u8 x.toNat)) →
    (Extern.Bytes.loadBytes a l.length acc).run P w = .ok ⟨acc.data ++ l.toArray⟩ w := by
  induction l with
  | nil => intro a acc _; simp [Extern.Bytes.loadBytes]
  | cons x r ih =>
    intro a acc h
    have h0 := h 0 x rfl
    rw [Addr.add, if_pos rfl] at h0
    have h1 : (load a).run P w = .ok (.int .u8 x.toNat) w := by simp [h0]
    rw [List.length_cons, Extern.Bytes.loadBytes]
    simp only [Sem.run_bind, h1, Result.andThen]
    have h2 : (acc.push (x.toNat : Int).toNat.toUInt8) = acc.push x := by simp
    rw [h2, ih (a := a.add 1) (acc := acc.push x) fun j y hj => by
      have := h (j + 1) y hj
      rw [← this]; congr 1
      unfold Addr.add
      by_cases e : j = 0
      · subst e; simp
      · simp [e]; omega]
    simp [ByteArray.push]
theorem run_bytesOfL [Glob] {P : Program} {w : World} {σ β} {l : List UInt8} {v : Value} (h : Rep w σ β (.sl (bsl l)) v) : (Extern.Bytes.bytesOf v).run P w = .ok ⟨l.toArray⟩ w := by
  cases h with
  | sl _ sz n cap a f hn hc hsz ha h =>
    have hn2 : l.length = n := by rw [← hn]; simp
    cases l with
    | nil =>
      have : n = 0 := by simpa using hn2.symm
      subst this
      cases a with
      | none => rfl
      | some a => rfl
    | cons x r =>
      have hz : sz = 1 := (hsz [byt x] (by simp)).symm
      subst hz
      obtain ⟨a0, rfl, hst⟩ := ha (by rw [← hn2]; simp)
      have := run_loadBytesL (P := P) (w := w) (l := x :: r) (a := a0) (acc := .empty) fun j y hj => by
        have hj2 := (List.getElem?_eq_some_iff.1 hj).1
        have e1 := rep_int (h j [byt y] 0 (byt y) (by rw [List.getElem?_map, hj]; rfl) rfl)
        rw [Nat.mul_one, Nat.add_zero] at e1
        rw [(hst j (by omega)).1, e1]
      rw [hn2] at this
      simp only [Extern.Bytes.bytesOf]
      rw [this, show ByteArray.empty.data = #[] from rfl, Array.empty_append]
theorem X_cmpL [Glob] {P : Program} {f : FuncId} {fn : Func} (hf : P.funcs[f]? = some fn) (hname : (fn.name == "runtime.NumGoroutine") = false)
    (hb : fn.body.isNone = true) (hn : Extern.findNext fn = none) (he : Extern.find fn = some Extern.BytealgCompare.compare) {a b : List UInt8} {σ : VHeap} {Post : KP} (k : Post (.int .i64 (Lib.compareBytes a b)) σ) : X P f [.sl (bsl a), .sl (bsl b)] σ Post := by
  intro w β vs h1 h2 h3 h4
  match vs, h1 with
  | ⟨[u, v]⟩, _ =>
  have e1 := run_bytesOfL (P := P) (h2 0 (.sl (bsl a)) u rfl rfl)
  have e2 := run_bytesOfL (P := P) (h2 1 (.sl (bsl b)) v rfl rfl)
  refine ⟨.int .i64 (Lib.compareBytes a b), w, _, σ, β, ?_, k, .int _ _, h3, Step.refl _ _ _⟩
  rw [run_callFunc_extern hf hname hb hn he]
  have e3 : (Extern.BytealgCompare.compare ⟨[u, v]⟩).run P w = .ok (.int .i64 (Lib.compareBytes a b)) w := by
    show ((Extern.Bytes.bytesOf u >>= fun x => Extern.Bytes.bytesOf v >>= fun y => pure (goInt (Extern.BytealgCompare.cmp x y))) : Sem Value).run P w = _
    simp only [Sem.run_bind, e1, e2, Result.andThen, Sem.run_pure]
    rw [Lib.cmp_eq]; rfl
  rw [e3]; rfl
open D in
theorem T164L {args : List PV} {σ : VHeap} {Post : KP} (h : belH σ.length σ → (∀ c, c ∈ args → bel σ.length c) → vrun Tryz.prog σ.length vb164 (argsEnv args) (σ ++ []) (vend vf164 (TrimP σ.length Post))) (hl : args.length ≤ 8 := by exact Nat.le_of_ble_eq_true rfl) : T Tryz.prog 164 args σ Post := T.walk Tryz.func164 cf164 hl rfl h
open D in
theorem T122L {args : List PV} {σ : VHeap} {Post : KP} (h : belH σ.length σ → (∀ c, c ∈ args → bel σ.length c) → vrun Tryz.prog σ.length vb122 (argsEnv args) (σ ++ []) (vend vf122 (TrimP σ.length Post))) (hl : args.length ≤ 8 := by exact Nat.le_of_ble_eq_true rfl) : T Tryz.prog 122 args σ Post := T.walk Tryz.func122 cf122 hl rfl h
theorem uBytesCmpL {a b : List UInt8} : U Tryz.prog 164 [.sl (bsl a), .sl (bsl b)] (.int .i64 (Lib.compareBytes a b)) := by
  intro σ Post hk
  refine T164L fun hB hA => ?_
  refine W ?_
  refine cx (fun Post k => X_cmpL Tryz.func200 (by kernel_rfl) (by kernel_rfl) (by kernel_rfl) (by kernel_rfl) (a := a) (b := b) k) (by exact z_ma) (by infer_instance) ?_
  refine W ?_
  exact hk
theorem uOrderL {a b : List UInt8} : U Tryz.prog 122 [.sl (bsl a), .sl (bsl b)] (.int .i64 (Lib.compareBytes a b)) := by
  intro σ Post hk
  refine T122L fun hB hA => ?_
  refine W ?_
  refine cu uBytesCmpL ?_
  refine W ?_
  exact hk
theorem U_runC [Glob] {P : Program} {f : FuncId} {args : List PV} {r : PV} (hr : Go.V.flatB 9 r = true) (ha : ClL args) (hg : ∀ g cells, Glob.tab g = some cells → ClL cells) (h : T P f args [] fun v _ => v = r) : U P f args r := by
  intro σ Post hk w β vs h1 h2 h3 h4
  have s0 : Sim [] β w := ⟨fun _ _ _ h => by simp at h, fun _ _ _ _ _ _ _ h => by simp at h⟩
  have g0 : GloRep w [] β := fun g cells e => by
    obtain ⟨ff, a1, a2, a3⟩ := h4 g cells e
    refine ⟨ff, still_part (L := σ) a1, fun j c hj => ?_, a3⟩
    exact Rep.part (σ := []) (L := σ) (a2 j c hj) (belL_iff.1 ((hg g cells e).cl 0) c (List.mem_of_getElem? hj))
  refine (h w β vs h1 (fun i c v e1 e2 => Rep.part (σ := []) (L := σ) (h2 i c v e1 e2) (belL_iff.1 (ha.cl 0) c (List.mem_of_getElem? e1))) s0 g0).mono ?_
  rintro e w' ⟨v, r', σ', β', rfl, rfl, e3, _, e5⟩
  have old : ∀ b, b < w.heap.size → w'.heap[b]? = w.heap[b]? := fun b hb => e5.own b hb (by rintro ⟨i, g, o, h1, _⟩; simp at h1)
  have hs : Step σ β w σ β w' :=
    ⟨e5.os, e5.tape, e5.output, e5.size, fun b hb _ => old b hb, fun a v hc _ => by rw [cell_of_heap (old _ (cell_lt hc))]; exact hc, fun _ _ h => h, fun _ _ _ h => h,
      fun b arr ty fr hb => ⟨arr, (old b (Array.getElem?_eq_some_iff.1 hb).1).trans hb, rfl⟩, fun i gi oi h1 => ⟨gi, oi, h1, Nat.le_refl _, fun _ => ⟨oi.alike_refl, rfl⟩⟩⟩
  refine ⟨v, _, σ, β, rfl, hk, flat_rep 9 _ _ hr e3, ⟨fun i gi oi h1 => ?_, h3.inj⟩, hs⟩
  by_cases hl : oi.live
  · exact (h3.obj i gi oi h1).step hs fun b hb => old b (h3.lt h1 hl hb)
  · cases oi <;> simp [VObj.live] at hl; trivial
theorem U_kernelC [Glob] {P : Program} {tab : List (Nat × VFun)} {ext spec : XE} {f : FuncId} (fuel k : Nat) (args : List PV) (r : PV) (ht : TabOk P tab) (he : ExtOk P ext) (hsp : SpecOk P spec) (hg : ∀ g cells, Glob.tab g = some cells → ClL cells)
    (hr : Go.V.flatB 9 r = true) (ha : ClL args) (h : (match xcall tab ext spec fuel k f args [] with | some (v, _) => eqPV 9 v r | none => false) = true) : U P f args r := by
  refine U_runC hr ha hg ?_
  split at h
  · rename_i v σ' hx
    exact xcall_ok ht he hsp k f args [] v σ' hx _ (eqPV_ok 9 _ _ h)
  · cases h
end Go.Proofs.YtjhmobdncjhcnaaGreatDoor
/- vinerylaw19.small: closed. -/
namespace Go.Proofs.YtjhmobdncjhcnaaGreatDoor
open Go Go.V
set_option maxRecDepth 10000
def w19_0 : Rt := ⟨4, 128, mr0, (⟨[0, 0, 0, 1, 0, 0, 0, 3], 4, [10, 1, 0, 0, 0, 0, 0, 0, 0, 0, 0, 0, 0, 0, 0, 0], 16⟩, 16), ip4 10 0 0 1, ⟨0, [], -1, 100, ad0, [], [[0, 2, 0, 1, 0, 0, 0, 1], [1, 11, 10, 0, 0, 1, 0, 3], [2, 9, 0, 0, 253, 232, 0, 0]], []⟩⟩
theorem rtR19_0 : rtR w19_0 = true := by kernel_rfl
theorem okR19_0 : okRib w19_0 :=
  ⟨⟨⟨rfl, rfl, rfl, rfl⟩, (by first | exact ⟨rfl, rfl⟩ | exact ⟨rfl, rfl, rfl⟩ | exact ⟨rfl⟩), rfl, ⟨rfl⟩⟩, fun _ h => (by cases h), fun _ h => (by cases h), fun _ h => (by cases h), by decide⟩
theorem n19_0 : U Tryz.prog 15 [.agg (rtC w19_0)] (.tup [.str (nameR w19_0), .bool true]) := by
  have := uName15 okR19_0
  rw [rtR19_0] at this; exact this
def w19_1 : Rt := ⟨4, 128, mr0, (⟨[0, 0, 0, 1, 0, 0, 0, 3], 4, [10, 1, 0, 0, 0, 0, 0, 0, 0, 0, 0, 0, 0, 0, 0, 0], 24⟩, 16), ip4 10 0 0 2, ⟨0, [], -1, 100, ad0, [], [[0, 2, 0, 1, 0, 0, 0, 1], [1, 11, 10, 0, 0, 2, 0, 3], [2, 9, 0, 0, 253, 232, 0, 0]], []⟩⟩
theorem rtR19_1 : rtR w19_1 = true := by kernel_rfl
theorem okR19_1 : okRib w19_1 :=
  ⟨⟨⟨rfl, rfl, rfl, rfl⟩, (by first | exact ⟨rfl, rfl⟩ | exact ⟨rfl, rfl, rfl⟩ | exact ⟨rfl⟩), rfl, ⟨rfl⟩⟩, fun _ h => (by cases h), fun _ h => (by cases h), fun _ h => (by cases h), by decide⟩
theorem n19_1 : U Tryz.prog 15 [.agg (rtC w19_1)] (.tup [.str (nameR w19_1), .bool true]) := by
  have := uName15 okR19_1
  rw [rtR19_1] at this; exact this
def w19_2 : Rt := ⟨4, 128, mr0, (⟨[0, 0, 0, 1, 0, 0, 0, 3], 4, [10, 1, 0, 0, 0, 0, 0, 0, 0, 0, 0, 0, 0, 0, 0, 0], 24⟩, 16), ip4 10 0 0 4, ⟨0, [], -1, 100, ad0, [], [[0, 2, 0, 1, 0, 0, 0, 2], [1, 11, 10, 0, 0, 4, 0, 3], [2, 9, 0, 0, 253, 232, 0, 0]], []⟩⟩
theorem rtR19_2 : rtR w19_2 = true := by kernel_rfl
theorem okR19_2 : okRib w19_2 :=
  ⟨⟨⟨rfl, rfl, rfl, rfl⟩, (by first | exact ⟨rfl, rfl⟩ | exact ⟨rfl, rfl, rfl⟩ | exact ⟨rfl⟩), rfl, ⟨rfl⟩⟩, fun _ h => (by cases h), fun _ h => (by cases h), fun _ h => (by cases h), by decide⟩
theorem n19_2 : U Tryz.prog 15 [.agg (rtC w19_2)] (.tup [.str (nameR w19_2), .bool true]) := by
  have := uName15 okR19_2
  rw [rtR19_2] at this; exact this
theorem has19_00 : U Tryz.prog 76 [.agg (pfC ⟨⟨4, [10, 1, 0, 0, 0, 0, 0, 0, 0, 0, 0, 0, 0, 0, 0, 0]⟩, 16⟩), .agg (adc (ip4 10 1 0 1))] (.bool true) := by
  have h := uHas (p := ⟨⟨4, [10, 1, 0, 0, 0, 0, 0, 0, 0, 0, 0, 0, 0, 0, 0, 0]⟩, 16⟩) (a := ip4 10 1 0 1) ⟨rfl⟩ rfl
  rw [show hasF ⟨⟨4, [10, 1, 0, 0, 0, 0, 0, 0, 0, 0, 0, 0, 0, 0, 0, 0]⟩, 16⟩ (ip4 10 1 0 1) = true by kernel_rfl] at h; exact h
theorem has19_01 : U Tryz.prog 76 [.agg (pfC ⟨⟨4, [10, 1, 0, 0, 0, 0, 0, 0, 0, 0, 0, 0, 0, 0, 0, 0]⟩, 16⟩), .agg (adc (ip4 10 1 9 1))] (.bool true) := by
  have h := uHas (p := ⟨⟨4, [10, 1, 0, 0, 0, 0, 0, 0, 0, 0, 0, 0, 0, 0, 0, 0]⟩, 16⟩) (a := ip4 10 1 9 1) ⟨rfl⟩ rfl
  rw [show hasF ⟨⟨4, [10, 1, 0, 0, 0, 0, 0, 0, 0, 0, 0, 0, 0, 0, 0, 0]⟩, 16⟩ (ip4 10 1 9 1) = true by kernel_rfl] at h; exact h
theorem has19_02 : U Tryz.prog 76 [.agg (pfC ⟨⟨4, [10, 1, 0, 0, 0, 0, 0, 0, 0, 0, 0, 0, 0, 0, 0, 0]⟩, 16⟩), .agg (adc (ip4 10 2 0 1))] (.bool false) := by
  have h := uHas (p := ⟨⟨4, [10, 1, 0, 0, 0, 0, 0, 0, 0, 0, 0, 0, 0, 0, 0, 0]⟩, 16⟩) (a := ip4 10 2 0 1) ⟨rfl⟩ rfl
  rw [show hasF ⟨⟨4, [10, 1, 0, 0, 0, 0, 0, 0, 0, 0, 0, 0, 0, 0, 0, 0]⟩, 16⟩ (ip4 10 2 0 1) = false by kernel_rfl] at h; exact h
theorem has19_10 : U Tryz.prog 76 [.agg (pfC ⟨⟨4, [10, 1, 0, 0, 0, 0, 0, 0, 0, 0, 0, 0, 0, 0, 0, 0]⟩, 24⟩), .agg (adc (ip4 10 1 0 1))] (.bool true) := by
  have h := uHas (p := ⟨⟨4, [10, 1, 0, 0, 0, 0, 0, 0, 0, 0, 0, 0, 0, 0, 0, 0]⟩, 24⟩) (a := ip4 10 1 0 1) ⟨rfl⟩ rfl
  rw [show hasF ⟨⟨4, [10, 1, 0, 0, 0, 0, 0, 0, 0, 0, 0, 0, 0, 0, 0, 0]⟩, 24⟩ (ip4 10 1 0 1) = true by kernel_rfl] at h; exact h
theorem has19_11 : U Tryz.prog 76 [.agg (pfC ⟨⟨4, [10, 1, 0, 0, 0, 0, 0, 0, 0, 0, 0, 0, 0, 0, 0, 0]⟩, 24⟩), .agg (adc (ip4 10 1 9 1))] (.bool false) := by
  have h := uHas (p := ⟨⟨4, [10, 1, 0, 0, 0, 0, 0, 0, 0, 0, 0, 0, 0, 0, 0, 0]⟩, 24⟩) (a := ip4 10 1 9 1) ⟨rfl⟩ rfl
  rw [show hasF ⟨⟨4, [10, 1, 0, 0, 0, 0, 0, 0, 0, 0, 0, 0, 0, 0, 0, 0]⟩, 24⟩ (ip4 10 1 9 1) = false by kernel_rfl] at h; exact h
theorem has19_12 : U Tryz.prog 76 [.agg (pfC ⟨⟨4, [10, 1, 0, 0, 0, 0, 0, 0, 0, 0, 0, 0, 0, 0, 0, 0]⟩, 24⟩), .agg (adc (ip4 10 2 0 1))] (.bool false) := by
  have h := uHas (p := ⟨⟨4, [10, 1, 0, 0, 0, 0, 0, 0, 0, 0, 0, 0, 0, 0, 0, 0]⟩, 24⟩) (a := ip4 10 2 0 1) ⟨rfl⟩ rfl
  rw [show hasF ⟨⟨4, [10, 1, 0, 0, 0, 0, 0, 0, 0, 0, 0, 0, 0, 0, 0, 0]⟩, 24⟩ (ip4 10 2 0 1) = false by kernel_rfl] at h; exact h
theorem cmp19_12 : U Tryz.prog 122 [.sl (bsl (ip4 10 0 0 1).b), .sl (bsl (ip4 10 0 0 2).b)] (.int .i64 (Lib.compareBytes (ip4 10 0 0 1).b (ip4 10 0 0 2).b)) := uOrderL
theorem cmp19_21 : U Tryz.prog 122 [.sl (bsl (ip4 10 0 0 2).b), .sl (bsl (ip4 10 0 0 1).b)] (.int .i64 (Lib.compareBytes (ip4 10 0 0 2).b (ip4 10 0 0 1).b)) := uOrderL
def vtabH : List (Nat × VFun) := [(20, vf20), (24, vf24), (26, vf26), (27, vf27), (31, vf31), (47, vf47), (48, vf48), (50, vf50), (54, vf54), (55, vf55), (56, vf56), (57, vf57), (58, vf58), (67, vf67), (68, vf68), (69, vf69), (70, vf70), (71, vf71), (72, vf72), (73, vf73), (74, vf74), (75, vf75), (100, vf100), (102, vf102), (105, vf105), (106, vf106), (107, vf107), (108, vf108), (109, vf109), (110, vf110), (112, vf112), (115, vf115), (118, vf118), (119, vf119), (120, vf120), (121, vf121), (123, vf123), (148, vf148), (149, vf149), (150, vf150), (154, vf154), (155, vf155), (156, vf156), (157, vf157), (163, vf163)]
theorem vtabH_ok : TabOk Tryz.prog vtabH := (TabOk.cons ⟨_, rawF, Tryz.func20, cf20⟩ (TabOk.cons ⟨_, rawF, Tryz.func24, cf24⟩ (TabOk.cons ⟨_, rawF, Tryz.func26, cf26⟩ (TabOk.cons ⟨_, rawF, Tryz.func27, cf27⟩ (TabOk.cons ⟨_, rawF, Tryz.func31, cf31⟩ (TabOk.cons ⟨_, rawF, Tryz.func47, cf47⟩ (TabOk.cons ⟨_, rawF, Tryz.func48, cf48⟩ (TabOk.cons ⟨_, rawF, Tryz.func50, cf50⟩ (TabOk.cons ⟨_, rawF, Tryz.func54, cf54⟩ (TabOk.cons ⟨_, rawF, Tryz.func55, cf55⟩ (TabOk.cons ⟨_, rawF, Tryz.func56, cf56⟩ (TabOk.cons ⟨_, rawF, Tryz.func57, cf57⟩ (TabOk.cons ⟨_, rawF, Tryz.func58, cf58⟩ (TabOk.cons ⟨_, rawF, Tryz.func67, cf67⟩ (TabOk.cons ⟨_, rawF, Tryz.func68, cf68⟩ (TabOk.cons ⟨_, rawF, Tryz.func69, cf69⟩ (TabOk.cons ⟨_, rawF, Tryz.func70, cf70⟩ (TabOk.cons ⟨_, rawF, Tryz.func71, cf71⟩ (TabOk.cons ⟨_, rawF, Tryz.func72, cf72⟩ (TabOk.cons ⟨_, rawF, Tryz.func73, cf73⟩ (TabOk.cons ⟨_, rawF, Tryz.func74, cf74⟩ (TabOk.cons ⟨_, rawF, Tryz.func75, cf75⟩ (TabOk.cons ⟨_, rawF, Tryz.func100, cf100⟩ (TabOk.cons ⟨_, rawF, Tryz.func102, cf102⟩ (TabOk.cons ⟨_, rawF, Tryz.func105, cf105⟩ (TabOk.cons ⟨_, rawF, Tryz.func106, cf106⟩ (TabOk.cons ⟨_, rawF, Tryz.func107, cf107⟩ (TabOk.cons ⟨_, rawF, Tryz.func108, cf108⟩ (TabOk.cons ⟨_, rawF, Tryz.func109, cf109⟩ (TabOk.cons ⟨_, rawF, Tryz.func110, cf110⟩ (TabOk.cons ⟨_, rawF, Tryz.func112, cf112⟩ (TabOk.cons ⟨_, rawF, Tryz.func115, cf115⟩ (TabOk.cons ⟨_, rawF, Tryz.func118, cf118⟩ (TabOk.cons ⟨_, rawF, Tryz.func119, cf119⟩ (TabOk.cons ⟨_, rawF, Tryz.func120, cf120⟩ (TabOk.cons ⟨_, rawF, Tryz.func121, cf121⟩ (TabOk.cons ⟨_, rawF, Tryz.func123, cf123⟩ (TabOk.cons ⟨_, rawF, Tryz.func148, cf148⟩ (TabOk.cons ⟨_, rawF, Tryz.func149, cf149⟩ (TabOk.cons ⟨_, rawF, Tryz.func150, cf150⟩ (TabOk.cons ⟨_, rawF, Tryz.func154, cf154⟩ (TabOk.cons ⟨_, rawF, Tryz.func155, cf155⟩ (TabOk.cons ⟨_, rawF, Tryz.func156, cf156⟩ (TabOk.cons ⟨_, rawF, Tryz.func157, cf157⟩ (TabOk.cons ⟨_, rawF, Tryz.func163, cf163⟩ TabOk.nil)))))))))))))))))))))))))))))))))))))))))))))
def v19 : Vr := ⟨[97], 3, [0, 0, 0, 1, 0, 0, 0, 3], [[0, 2, 0, 1, 0, 0, 0, 1]], [[0, 2, 0, 1, 0, 0, 0, 1]], ad0, []⟩
def s19 : Si := ⟨ip4 10 0 0 9, 65000, [], [], [], [], [w19_0, w19_1, w19_2]⟩
theorem own19 : U Tryz.prog 28 [.agg (vrC v19), .agg (siC s19)] (.tup [.agg (usC (ownF v19 s19).1), .int .i64 (ownF v19 s19).2]) := uOwn ⟨rfl, rfl⟩ ⟨rfl⟩
def closH : List Nat := [154, 71]
theorem closH_ok : ∀ f, f ∈ closH → callOk Tryz.prog f = true := by
  intro f hf
  simp only [closH, List.mem_cons, List.not_mem_nil, or_false] at hf
  rcases hf with rfl | rfl <;> kernel_rfl
theorem as19 : U Tryz.prog 105 [.agg (u8c [2, 9, 0, 0, 253, 232, 0, 0])] (.tup [.int .i64 65000, .bool true]) :=
  U_kernelA (tab := vtabH) (ext := extK closH) (spec := specX) 100 20 _ _ vtabH_ok (extK_ok closH_ok) specX_ok glob_cl rfl (by kernel_rfl)
theorem im19_1 : U Tryz.prog 102 [.agg (u8c [1, 11, 10, 0, 0, 1, 0, 3])] (.tup [.agg (adc (ip4 10 0 0 1)), .int .i64 3, .bool true]) :=
  U_kernelA (tab := vtabH) (ext := extK closH) (spec := specX) 100 20 _ _ vtabH_ok (extK_ok closH_ok) specX_ok glob_cl rfl (by kernel_rfl)
theorem im19_2 : U Tryz.prog 102 [.agg (u8c [1, 11, 10, 0, 0, 2, 0, 3])] (.tup [.agg (adc (ip4 10 0 0 2)), .int .i64 3, .bool true]) :=
  U_kernelA (tab := vtabH) (ext := extK closH) (spec := specX) 100 20 _ _ vtabH_ok (extK_ok closH_ok) specX_ok glob_cl rfl (by kernel_rfl)
def factsH : List (Nat × List PV × PV) := [(15, [.agg (rtC w19_0)], .tup [.str (nameR w19_0), .bool true]), (15, [.agg (rtC w19_1)], .tup [.str (nameR w19_1), .bool true]), (15, [.agg (rtC w19_2)], .tup [.str (nameR w19_2), .bool true]), (76, [.agg (pfC ⟨⟨4, [10, 1, 0, 0, 0, 0, 0, 0, 0, 0, 0, 0, 0, 0, 0, 0]⟩, 16⟩), .agg (adc (ip4 10 1 0 1))], .bool true), (76, [.agg (pfC ⟨⟨4, [10, 1, 0, 0, 0, 0, 0, 0, 0, 0, 0, 0, 0, 0, 0, 0]⟩, 16⟩), .agg (adc (ip4 10 1 9 1))], .bool true), (76, [.agg (pfC ⟨⟨4, [10, 1, 0, 0, 0, 0, 0, 0, 0, 0, 0, 0, 0, 0, 0, 0]⟩, 16⟩), .agg (adc (ip4 10 2 0 1))], .bool false), (76, [.agg (pfC ⟨⟨4, [10, 1, 0, 0, 0, 0, 0, 0, 0, 0, 0, 0, 0, 0, 0, 0]⟩, 24⟩), .agg (adc (ip4 10 1 0 1))], .bool true), (76, [.agg (pfC ⟨⟨4, [10, 1, 0, 0, 0, 0, 0, 0, 0, 0, 0, 0, 0, 0, 0, 0]⟩, 24⟩), .agg (adc (ip4 10 1 9 1))], .bool false), (76, [.agg (pfC ⟨⟨4, [10, 1, 0, 0, 0, 0, 0, 0, 0, 0, 0, 0, 0, 0, 0, 0]⟩, 24⟩), .agg (adc (ip4 10 2 0 1))], .bool false), (122, [.sl (bsl (ip4 10 0 0 1).b), .sl (bsl (ip4 10 0 0 2).b)], .int .i64 (Lib.compareBytes (ip4 10 0 0 1).b (ip4 10 0 0 2).b)), (122, [.sl (bsl (ip4 10 0 0 2).b), .sl (bsl (ip4 10 0 0 1).b)], .int .i64 (Lib.compareBytes (ip4 10 0 0 2).b (ip4 10 0 0 1).b)), (102, [.agg (u8c [1, 11, 10, 0, 0, 1, 0, 3])], .tup [.agg (adc (ip4 10 0 0 1)), .int .i64 3, .bool true]), (102, [.agg (u8c [1, 11, 10, 0, 0, 2, 0, 3])], .tup [.agg (adc (ip4 10 0 0 2)), .int .i64 3, .bool true]), (28, [.agg (vrC v19), .agg (siC s19)], .tup [.agg (usC (ownF v19 s19).1), .int .i64 (ownF v19 s19).2]), (105, [.agg (u8c [2, 9, 0, 0, 253, 232, 0, 0])], .tup [.int .i64 65000, .bool true])]
theorem factsH_ok : ∀ p, p ∈ factsH → U Tryz.prog p.1 p.2.1 p.2.2 := by
  intro p hp
  simp only [factsH, List.mem_cons, List.not_mem_nil, or_false] at hp
  rcases hp with rfl | rfl | rfl | rfl | rfl | rfl | rfl | rfl | rfl | rfl | rfl | rfl | rfl | rfl | rfl
  · exact n19_0
  · exact n19_1
  · exact n19_2
  · exact has19_00
  · exact has19_01
  · exact has19_02
  · exact has19_10
  · exact has19_11
  · exact has19_12
  · exact cmp19_12
  · exact cmp19_21
  · exact im19_1
  · exact im19_2
  · exact own19
  · exact as19
theorem specH_ok : SpecOk Tryz.prog (factSpec factsH specX) := factSpec_ok specX_ok factsH factsH_ok
theorem sel19_0 : U Tryz.prog 26 [.agg (vrC v19), .agg (siC s19), .agg (adc (ip4 10 1 0 1))] (.tup [.agg (usC (⟨ip4 10 0 0 2, [1, 11, 10, 0, 0, 2, 0, 3], 65000, [0, 0, 0, 1, 0, 0, 0, 3]⟩ : Us)), .bool true]) :=
  U_kernelC (tab := vtabH) (ext := extK closH) (spec := factSpec factsH specX) 100 20 _ _ vtabH_ok (extK_ok closH_ok) specH_ok glob_cl rfl (by infer_instance) (by kernel_rfl)
theorem sel19_1 : U Tryz.prog 26 [.agg (vrC v19), .agg (siC s19), .agg (adc (ip4 10 1 9 1))] (.tup [.agg (usC (⟨ip4 10 0 0 1, [1, 11, 10, 0, 0, 1, 0, 3], 65000, [0, 0, 0, 1, 0, 0, 0, 3]⟩ : Us)), .bool true]) :=
  U_kernelC (tab := vtabH) (ext := extK closH) (spec := factSpec factsH specX) 100 20 _ _ vtabH_ok (extK_ok closH_ok) specH_ok glob_cl rfl (by infer_instance) (by kernel_rfl)
theorem sel19_2 : U Tryz.prog 26 [.agg (vrC v19), .agg (siC s19), .agg (adc (ip4 10 2 0 1))] (.tup [.agg (usC us0), .bool false]) :=
  U_kernelC (tab := vtabH) (ext := extK closH) (spec := factSpec factsH specX) 100 20 _ _ vtabH_ok (extK_ok closH_ok) specH_ok glob_cl rfl (by infer_instance) (by kernel_rfl)
def factsI : List (Nat × List PV × PV) := [(26, [.agg (vrC v19), .agg (siC s19), .agg (adc (ip4 10 1 0 1))], .tup [.agg (usC (⟨ip4 10 0 0 2, [1, 11, 10, 0, 0, 2, 0, 3], 65000, [0, 0, 0, 1, 0, 0, 0, 3]⟩ : Us)), .bool true]), (26, [.agg (vrC v19), .agg (siC s19), .agg (adc (ip4 10 1 9 1))], .tup [.agg (usC (⟨ip4 10 0 0 1, [1, 11, 10, 0, 0, 1, 0, 3], 65000, [0, 0, 0, 1, 0, 0, 0, 3]⟩ : Us)), .bool true]), (26, [.agg (vrC v19), .agg (siC s19), .agg (adc (ip4 10 2 0 1))], .tup [.agg (usC us0), .bool false])]
theorem factsI_ok : ∀ p, p ∈ factsI → U Tryz.prog p.1 p.2.1 p.2.2 := by
  intro p hp
  simp only [factsI, List.mem_cons, List.not_mem_nil, or_false] at hp
  rcases hp with rfl | rfl | rfl
  · exact sel19_0
  · exact sel19_1
  · exact sel19_2
theorem specI_ok : SpecOk Tryz.prog (factSpec factsI specX) := factSpec_ok specX_ok factsI factsI_ok
theorem uSmall19 : U Tryz.prog 24 [] (.bool true) := U_kernel (tab := vtabH) (ext := extK closH) (spec := factSpec factsI specX) 100 20 (.bool true) vtabH_ok (extK_ok closH_ok) specI_ok glob_cl rfl (by kernel_rfl)
end Go.Proofs.YtjhmobdncjhcnaaGreatDoor
