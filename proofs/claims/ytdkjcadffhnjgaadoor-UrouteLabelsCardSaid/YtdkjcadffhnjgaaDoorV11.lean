/- Copy, bytes and texts, function values, calls. -/
import Derived.Test.YtdkjcadffhnjgaaDoorV10
namespace Go.V
open Go

def vMinMax (mx : Bool) (x y : PV) (σ : VHeap) (K : KP) : Prop :=
  match x, y with
  | .int k a, .int k' b => k = k' ∧ K (.int k (if mx then (if a < b then b else a) else (if b < a then b else a))) σ
  | _, _ => False
def vFunc (f : FuncId) (caps : List PV) (σ : VHeap) (K : KP) : Prop := K (.fn f caps) σ
def callOk (P : Program) (f : FuncId) : Bool :=
  match P.funcs[f]? with
  | some fn => fn.name != "runtime.NumGoroutine" && fn.body.isSome
  | none => false
def inlArgs (σ : VHeap) (args : List PV) : List PV := args.map (inl σ)
def frzArgs (σ : VHeap) (args : List PV) : VHeap := frzIds σ (refsL args)
/-- A call; 'raw': the rows that are handed over stay what they are. -/
def vCall [Glob] (P : Program) (raw : Bool) (f : FuncId) (args : List PV) (σ : VHeap) (K : KP) : Prop :=
  if raw then T P f args σ K else T P f (inlArgs σ args) (frzArgs σ args) K
def vCallV [Glob] (P : Program) (raw : Bool) (x : PV) (args : List PV) (σ : VHeap) (K : KP) : Prop :=
  match x with
  | .fn f cap => callOk P f = true ∧ if raw then T P f (args ++ cap) σ K else T P f (inlArgs σ args ++ cap) (frzArgs σ args) K
  | _ => False

section
variable {P : Program} {o : Oper} {a : Act} {σ : VHeap} {β : Beta} {w : World} {env : Env} {K : KP}

theorem frzArgs_rep (hs : Sim σ β w) {args : List PV} {vs : Array Value} (hr : CellsRep w σ β args vs) : CellsRep w (frzArgs σ args) β (inlArgs σ args) vs ∧ Sim (frzArgs σ args) β w ∧ Step σ β w (frzArgs σ args) β w := by
  have hf := frzIds_FE (refsL args) σ
  refine ⟨⟨by simp [inlArgs, hr.1], fun i c v h1 h2 => ?_⟩, hf.sim hs, hf.step β w⟩
  simp only [inlArgs, List.getElem?_map] at h1
  cases h3 : args[i]? with
  | none => rw [h3] at h1; cases h1
  | some c0 =>
    rw [h3] at h1; cases h1
    exact inl_rep hs hf (hr.2 i c0 v h3 h2) fun id hid => frzIds_Fz _ _ id (by rw [refsL_eq]; exact List.mem_flatMap.2 ⟨c0, List.mem_of_getElem? h3, hid⟩)

def cAs [Glob] (l : List Operand) : Option (List VA) := l.mapM cA
theorem args_rep [Glob] (hf : FrameRep w σ β env a) {l : Array Operand} {l' : List VA} (h : cAs l.toList = some l') : CellsRep w σ β (l'.map (va env)) (l.map a.eval) := by
  obtain ⟨h1, h2⟩ := mapM_some h
  refine ⟨by simp [h1], fun i c v h3 h4 => ?_⟩
  rw [List.getElem?_map] at h3
  cases h5 : l'[i]? with
  | none => rw [h5] at h3; cases h3
  | some y =>
    rw [h5] at h3; cases h3
    rw [Array.getElem?_map] at h4
    cases h6 : l[i]? with
    | none => rw [h6] at h4; cases h4
    | some x => rw [h6] at h4; cases h4; exact hf.eval (h2 i x y (by simpa using h6) h5)

theorem run_callFunc {f : FuncId} (h : callOk P f = true) (vs : Array Value) (w : World) : (callFunc f vs).run P w = .ok (.enter f vs) w := by
  unfold callOk at h
  split at h
  · rename_i fn hfn
    simp at h
    obtain ⟨h1, h2⟩ := h
    simp [callFunc, program, Sem.run, hfn, h1]
    intro hn; rw [hn] at h2; cases h2
  · cases h

theorem CellsRep.append {xs ys : List PV} {us vs : Array Value} (h : CellsRep w σ β xs us) (k : CellsRep w σ β ys vs) : CellsRep w σ β (xs ++ ys) (us ++ vs) := by
  refine ⟨by simp [h.1, k.1], fun i c v h1 h2 => ?_⟩
  by_cases hi : i < xs.length
  · rw [List.getElem?_append_left hi] at h1
    rw [Array.getElem?_append_left (by rw [← h.1]; exact hi)] at h2
    exact h.2 i c v h1 h2
  · rw [List.getElem?_append_right (by omega)] at h1
    rw [Array.getElem?_append_right (by rw [← h.1]; omega), ← h.1] at h2
    exact k.2 _ c v h1 h2
theorem CellsRep.step {xs : List PV} {us : Array Value} {σ' β' w'} (h : CellsRep w σ β xs us) (hs : Step σ β w σ' β' w') : CellsRep w' σ' β' xs us := ⟨h.1, fun i c v h1 h2 => (h.2 i c v h1 h2).step hs⟩

theorem s_call [Glob] {f : FuncId} {args : Array Operand} {args' : List VA} {ts : Array TypeId} {raw : Bool} (ho : o.op = .call { callee := .value (.func f), args, argTypes := ts }) (hok : callOk P f = true) (ha : cAs args.toList = some args')
    (hf : FrameRep w σ β env a) (hs : Sim σ β w) (hk : vCall P raw f (args'.map (va env)) σ K) : OpS P o a σ β w K := by
  have hr := args_rep hf ha
  have hrun : (execOp a.eval o).run P w = .ok (.enter f (args.map a.eval)) w := by
    simp [execOp, ho, resolve, Act.eval, Deferred.ofValue, invoke, run_callFunc hok]
  unfold vCall at hk
  split at hk
  · exact OpS.enter hrun hk hr.1.symm hr.2 hs hf.glo
  · obtain ⟨e1, e2, e3⟩ := frzArgs_rep hs hr
    exact OpS.pre e3 (OpS.enter hrun hk e1.1.symm e1.2 e2 (hf.glo.step e3))

theorem s_callV [Glob] {x : Operand} {x' : VA} {args : Array Operand} {args' : List VA} {ts : Array TypeId} {raw : Bool} (ho : o.op = .call { callee := .value x, args, argTypes := ts }) (hx : cA x = some x') (ha : cAs args.toList = some args')
    (hf : FrameRep w σ β env a) (hs : Sim σ β w) (hk : vCallV P raw (va env x') (args'.map (va env)) σ K) : OpS P o a σ β w K := by
  have h1 := hf.eval hx
  have hr := args_rep hf ha
  generalize hc0 : va env x' = c0 at *
  generalize he : a.eval x = ex at *
  unfold vCallV at hk
  split at hk
  · rename_i f cap
    obtain ⟨hok, hk⟩ := hk
    cases h1 with
    | fn _ _ vs hl hv =>
      have hrun : (execOp a.eval o).run P w = .ok (.enter f (args.map a.eval ++ vs)) w := by
        simp [execOp, ho, resolve, he, Deferred.ofValue, invoke, run_callFunc hok]
      have hcap : CellsRep w σ β cap vs := ⟨hl, hv⟩
      split at hk
      · have h2 := hr.append hcap
        exact OpS.enter hrun hk h2.1.symm h2.2 hs hf.glo
      · obtain ⟨e1, e2, e3⟩ := frzArgs_rep hs hr
        have h2 := e1.append (hcap.step e3)
        exact OpS.pre e3 (OpS.enter hrun hk h2.1.symm h2.2 e2 (hf.glo.step e3))
  · exact hk.elim

theorem s_func [Glob] {f : FuncId} {caps : Array Operand} {caps' : List VA} (ho : o.op = .makeFunc (.func f) #[] caps) (ha : cAs caps.toList = some caps') (hf : FrameRep w σ β env a) (hs : Sim σ β w)
    (hk : vFunc f (caps'.map (va env)) σ K) : OpS P o a σ β w K := by
  have hr := args_rep hf ha
  exact OpS.value (v := .func (.func f) #[] (caps.map a.eval)) (w' := w) (by simp [execOp, ho, Instr.makeFunc]) hk (.fn _ _ _ hr.1 hr.2) hs (Step.refl _ _ _)

theorem s_min [Glob] {x y : Operand} {x' y' : VA} {ts : Array TypeId} {mx : Bool} (ho : o.op = .call { callee := .builtin (if mx then .max else .min), args := #[x, y], argTypes := ts }) (hx : cA x = some x') (hy : cA y = some y')
    (hf : FrameRep w σ β env a) (hs : Sim σ β w) (hk : vMinMax mx (va env x') (va env y') σ K) : OpS P o a σ β w K := by
  have h1 := hf.eval hx
  have h2 := hf.eval hy
  generalize hc0 : va env x' = c0 at *
  generalize hc1 : va env y' = c1 at *
  generalize he : a.eval x = ex at *
  generalize hey : a.eval y = ey at *
  unfold vMinMax at hk
  split at hk
  · rename_i k p k' q
    obtain ⟨rfl, hk⟩ := hk
    cases h1; cases h2
    refine OpS.value (v := .int k _) (w' := w) (run_call_builtin ho ?_) hk (.int _ _) hs (Step.refl _ _ _)
    cases mx <;> simp [builtin, Builtin.min_, Builtin.max_, Builtin.min2, Builtin.max2, he, hey]
  · exact hk.elim

theorem s_b2s [Glob] {t u e : TypeId} {x : Operand} {x' : VA} (ho : o.op = .convert t u x) (hs' : P.underlying t = some (.slice e)) (he : P.underlying e = some (.int .u8)) (hd : P.underlying u = some .string) (hx : cA x = some x')
    (hf : FrameRep w σ β env a) (hs : Sim σ β w) (hk : vB2S (va env x') σ K) : OpS P o a σ β w K := by
  have h1 := hf.eval hx
  unfold vB2S at hk
  split at hk
  · rename_i es hes
    split at hk
    · rename_i bs hbs
      obtain ⟨ad, c, sz, f, hv, hc, hel, had, hre⟩ := rd_rep hs h1 hes
      obtain ⟨m1, m2⟩ := mapM_some hbs
      have key : ∀ i, i < es.length → sz = 1 ∧ ∃ n, f i = .int .u8 n ∧ bs[i]? = some (UInt8.ofNat n.toNat) := by
        intro i hi
        have hb : i < bs.length := by omega
        have hm := m2 i _ _ (List.getElem?_eq_getElem hi) (List.getElem?_eq_getElem hb)
        unfold byteOf at hm
        split at hm
        · rename_i n heq
          have hbb := Option.some.inj hm
          have hz := hel _ (List.getElem_mem hi)
          rw [heq] at hz
          have hz1 : sz = 1 := by simpa using hz.symm
          subst hz1
          have := hre i es[i] 0 (.int .u8 n) (List.getElem?_eq_getElem hi) (by rw [heq]; rfl)
          simp only [Nat.mul_one, Nat.add_zero] at this
          generalize f i = fi at *
          cases this
          exact ⟨rfl, n, rfl, by rw [List.getElem?_eq_getElem hb, hbb]⟩
        · cases hm
      have fin : ∀ {s : ByteArray}, s.data.toList = bs → (convert t u (a.eval x)).run P w = .ok (.string s) w → OpS P o a σ β w K := by
        intro s e1 e2
        refine OpS.value (v := .string s) (w' := w) (by simp [execOp, ho, e2]) hk ?_ hs (Step.refl _ _ _)
        rw [← e1]; exact .str s
      by_cases h0 : es.length = 0
      · have hb0 : bs = [] := List.length_eq_zero_iff.1 (by omega)
        refine fin (s := .empty) (by rw [hb0]; rfl) ?_
        rw [hv, run_convert_bytes_string w t u e ad _ _ hs' he hd, h0]
        cases ad with
        | none => simp [Conv.bytesToString]
        | some ad => simp [Conv.bytesToString, loadCells, loadCellsFrom]
      · obtain ⟨a0, rfl, hcell⟩ := had (by omega)
        obtain ⟨hz1, _⟩ := key 0 (by omega)
        subst hz1
        let ns : List Int := (List.range es.length).map fun i => match f i with | .int _ n => n | _ => 0
        have hload : (loadCells a0 es.length).run P w = .ok (ns.map (Value.int .u8)).toArray w := by
          rw [run_loadCells w a0 es.length f (fun j hj => hcell j (by omega))]
          congr 2
          simp only [ns, List.map_map]
          apply List.map_congr_left
          intro i hi
          obtain ⟨_, n, e1, _⟩ := key i (by simpa using hi)
          simp [e1]
        have hfold : ∀ (l : List Int) (s : ByteArray), (l.foldl (fun r n => r.push (UInt8.ofNat n.toNat)) s).data.toList = s.data.toList ++ l.map fun n => UInt8.ofNat n.toNat := by
          intro l
          induction l with
          | nil => intro s; simp
          | cons n l ih => intro s; rw [List.foldl_cons, ih]; simp [ByteArray.push]
        refine fin (s := ns.foldl (fun r n => r.push (UInt8.ofNat n.toNat)) ByteArray.empty) ?_ ?_
        · rw [hfold]
          apply List.ext_getElem?
          intro i
          simp only [ns]
          by_cases hi : i < es.length
          · obtain ⟨_, n, e1, e2⟩ := key i hi
            rw [e2]
            simp [hi, e1]
          · rw [List.getElem?_eq_none (by simp; omega), List.getElem?_eq_none (by omega)]
        · rw [hv, run_convert_bytes_string w t u e _ _ _ hs' he hd, run_bytesToString w a0 es.length c ns hload]
    · exact hk.elim
  · exact hk.elim

def s2bArr (s : ByteArray) (cap : Nat) : Array Value := s.data.map (fun b : UInt8 => Value.int .u8 b.toNat) ++ Array.replicate (cap - s.size) (Value.int .u8 0)

theorem s_s2b [Glob] {t u e : TypeId} {x : Operand} {x' : VA} {id : Nat} (ho : o.op = .convert t u x) (hst : P.underlying t = some .string) (hd : P.underlying u = some (.slice e)) (he : P.underlying e = some (.int .u8)) (hx : cA x = some x')
    (hf : FrameRep w σ β env a) (hs : Sim σ β w) (hk : vS2B id (va env x') σ K) : OpS P o a σ β w K := by
  have h1 := hf.eval hx
  generalize hc0 : va env x' = c0 at *
  generalize hex : a.eval x = ex at *
  unfold vS2B at hk
  split at hk
  · obtain ⟨hle, hk⟩ := hk
    cases h1 with
    | str s =>
      have e0 : s.data.toList.length = s.size := by simp
      have hcap : s.size ≤ grownCap w s.size 0 e := by unfold grownCap Question.cut; simp
      have hsize : (s2bArr s (grownCap w s.size 0 e)).size = grownCap w s.size 0 e := by
        have : s.data.size = s.size := rfl
        simp [s2bArr]; omega
      refine s_newBlock (ty := e) (fr := ((s2bArr s (grownCap w s.size 0 e)).size, (s2bArr s (grownCap w s.size 0 e)).size + 1))
        (arr := s2bArr s (grownCap w s.size 0 e)) (n := s.size) (c := grownCap w s.size 0 e)
        (w' := (w.drew.alloc (.cells (s2bArr s (grownCap w s.size 0 e)) e)).freeze ⟨w.heap.size, (s2bArr s (grownCap w s.size 0 e)).size, none⟩ 1)
        ?_ (by simp [bytesEs]) hcap (by rw [hsize]; omega) rfl rfl rfl ?_ (fun i hi => by omega) ?_ ?_ hs hk
      · simp [execOp, ho, hex, convert, run_underlying' hst, run_underlying' hd, run_underlying' he, Conv.stringToBytes, Question.forced, newRow, markStringish, World.shape?, grownCap]
        have hh := heap_alloc_new w.drew (.cells (s2bArr s (grownCap w s.size 0 e)) e)
        have hz : w.drew.heap.size = w.heap.size := rfl
        rw [hz] at hh
        unfold s2bArr at hh ⊢
        unfold grownCap at hh
        obtain ⟨_, hh⟩ := Array.getElem?_eq_some_iff.1 hh
        rw [hh]
        simp [freeze, Sem.run]
      · have hz : (w.drew.alloc (Obj.cells (s2bArr s (grownCap w s.size 0 e)) e)).heap = w.heap.push (Obj.cells (s2bArr s (grownCap w s.size 0 e)) e) := rfl
        unfold World.freeze
        rw [if_neg (by omega)]
        simp only [hz]
        apply Array.ext_getElem?
        intro j
        rw [Array.getElem?_modify, Array.getElem?_push, Array.getElem?_push]
        by_cases hj : j = w.heap.size
        · subst hj; simp
        · rw [if_neg hj, if_neg hj, if_neg (fun h => hj h.symm)]
      · intro e he; obtain ⟨b, _, rfl⟩ := List.mem_map.1 he; rfl
      · intro i e j c v h1 h2 h3
        simp only [bytesEs, List.getElem?_map] at h1
        cases h4 : s.data.toList[i]? with
        | none => rw [h4] at h1; cases h1
        | some b =>
          rw [h4] at h1; cases h1
          have hj0 : j = 0 := by
            have := (List.getElem?_eq_some_iff.1 h2).1
            simp at this; omega
          subst hj0
          cases h2
          have hi : i < s.data.size := by have := (List.getElem?_eq_some_iff.1 h4).1; simpa using this
          rw [Nat.mul_one, Nat.add_zero, s2bArr, Array.getElem?_append_left (by simpa using hi), Array.getElem?_map] at h3
          rw [Array.getElem?_toList] at h4
          rw [h4] at h3; cases h3; exact .int _ _
  · exact hk.elim

end
end Go.V
