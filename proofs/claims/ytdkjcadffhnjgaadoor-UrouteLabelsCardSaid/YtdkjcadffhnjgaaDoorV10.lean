/- Append, copy, bytes and texts. -/
import Derived.Test.YtdkjcadffhnjgaaDoorV9
import Derived.Laws.Append
import Derived.Laws.BytesString
namespace Go.V
open Go

def bytesEs (s : List UInt8) : List (List PV) := s.map fun b => [.int .u8 b.toNat]
/-- The elements of a slice, the bytes of a text. -/
def rdA (σ : VHeap) : PV → Option (List (List PV))
  | .str s => some (bytesEs s)
  | x => rd σ x
def RowOk (sz : Nat) (es : List (List PV)) : Prop := ∀ e, e ∈ es → e.length = sz ∧ e.all scalar = true
def byteOf : List PV → Option UInt8
  | [.int .u8 n] => some (UInt8.ofNat n.toNat)
  | _ => none

/-- A row of ours of which the cells lie fast: the row. -/
def own : PV → PV
  | .slr _ id g => .row id g
  | x => x
theorem own_rep {w : World} {σ : VHeap} {β : Beta} {x : PV} {v : Value} (h : Rep w σ β x v) : Rep w σ β (own x) v := by
  cases x with
  | slr es id g => cases h with | slr _ _ _ _ h1 h2 => exact h2
  | _ => exact h
def vAppend (id0 sz bytes : Nat) (s x : PV) (σ : VHeap) (K : KP) : Prop :=
  match rdA σ x with
  | some new => RowOk sz new ∧
    match own s with
    | .row id g => match vGet σ id g with
      | some (.row s es fz) => s = sz ∧ (es.length + new.length) * bytes ≤ 140737488355328 ∧ K (.row id (g + 1)) (σ.set id (g + 1, .row sz (es ++ new) fz))
      | _ => False
    | .nils => new.length * bytes ≤ 140737488355328 ∧ vNew id0 (.row sz new false) σ fun g σ => K (.row id0 g) σ
    | _ => False
  | none => False
def vCopy (sz : Nat) (d x : PV) (σ : VHeap) (K : KP) : Prop :=
  match rdA σ x with
  | some new => RowOk sz new ∧
    match d with
    | .bview id g off len => match vGet σ id g with
      | some (.box cs false) => sz = 1 ∧ off + len ≤ cs.length ∧ K (.int .i64 (min new.length len : Nat)) (σ.set id (g, .box (splice cs off ((new.take len).flatten)) false))
      | _ => False
    | .row id g => match vGet σ id g with
      | some (.row s es false) => s = sz ∧ K (.int .i64 (min new.length es.length : Nat)) (σ.set id (g, .row sz (new.take es.length ++ es.drop new.length) false))
      | _ => False
    | _ => False
  | none => False
def vS2B (id : Nat) (x : PV) (σ : VHeap) (K : KP) : Prop :=
  match x with
  | .str s => s.length ≤ 9223372036854775807 ∧ vNew id (.row 1 (bytesEs s) false) σ fun g σ => K (.row id g) σ
  | _ => False
def vB2S (x : PV) (σ : VHeap) (K : KP) : Prop :=
  match rd σ x with
  | some es => match es.mapM byteOf with
    | some bs => K (.str bs) σ
    | none => False
  | none => False

section
variable {P : Program} {o : Oper} {a : Act} {σ : VHeap} {β : Beta} {w : World} {env : Env} {K : KP}

/-- The cells of elements, one behind the other. -/
def RowRep (w : World) (σ : VHeap) (β : Beta) (sz : Nat) (es : List (List PV)) (arr : Array Value) (from' : Nat) : Prop :=
  ∀ (i : Nat) (e : List PV) (j : Nat) (c : PV) (v : Value), es[i]? = some e → e[j]? = some c → arr[from' + i * sz + j]? = some v → Rep w σ β c v

theorem rdA_rep [Glob] (hs : Sim σ β w) {x : PV} {v : Value} (hr : Rep w σ β x v) {es : List (List PV)} (h : rdA σ x = some es) {sz : Nat} (hok : ∀ e, e ∈ es → e.length = sz) :
    (∀ w, (Builtin.lenOf v).run P w = .ok es.length w) ∧ ∀ m, m ≤ es.length → ∃ arr : Array Value, (Builtin.firstCells sz m v).run P w = .ok arr w ∧ arr.size = m * sz ∧ RowRep w σ β sz (es.take m) arr 0 ∧ ((∀ e, e ∈ es → e.all scalar = true) → ∀ u, u ∈ arr → celly u = true) := by
  by_cases hx : ∃ s, x = .str s
  · obtain ⟨s, rfl⟩ := hx
    simp only [rdA] at h
    cases h
    cases hr with
    | str s =>
      have e0 : s.data.toList.length = s.size := by simp
      have hcells : ∀ u, u ∈ s.data.map (fun b : UInt8 => Value.int .u8 b.toNat) → celly u = true := by
        intro u hu; obtain ⟨b, _, rfl⟩ := Array.mem_map.1 hu; rfl
      refine ⟨fun w => by simp [Builtin.lenOf, bytesEs], fun m hm => ?_⟩
      simp [bytesEs] at hm
      by_cases hm0 : m = 0
      · subst hm0
        refine ⟨#[], by simp [Builtin.firstCells, ByteArray.extract, ByteArray.copySlice], by simp, fun i e j c v h1 => by simp at h1, by simp⟩
      have hsz : sz = 1 := by
        have hlt : 0 < s.data.toList.length := by simp; omega
        have := (hok [.int .u8 (s.data.toList[0]).toNat] (by simp only [bytesEs]; exact List.mem_map.2 ⟨_, List.getElem_mem hlt, rfl⟩))
        simpa using this.symm
      subst hsz
      refine ⟨(s.extract 0 m).data.map fun b => .int .u8 b.toNat, by simp [Builtin.firstCells], ?_, ?_, ?_⟩
      · have := congrArg List.length (Lib.extract_data s 0 m)
        simp at this ⊢; omega
      · intro i e j c v h1 h2 h3
        rw [List.getElem?_take] at h1
        split at h1
        · rename_i hi
          simp only [bytesEs, List.getElem?_map] at h1
          cases h4 : s.data.toList[i]? with
          | none => rw [h4] at h1; cases h1
          | some b =>
            rw [h4] at h1; cases h1
            have hj0 : j = 0 := by
              have := (List.getElem?_eq_some_iff.1 h2).1
              simp at this; omega
            subst hj0
            cases h2
            simp only [Nat.zero_add, Nat.mul_one, Nat.add_zero] at h3
            rw [Array.getElem?_map] at h3
            have h5 : (s.extract 0 m).data[i]? = s.data.toList[i]? := by
              rw [← Array.getElem?_toList, Lib.extract_data]
              simp [hi]
            rw [h5, h4] at h3
            cases h3; exact .int _ _
        · cases h1
      · intro _ u hu; obtain ⟨b, _, rfl⟩ := Array.mem_map.1 hu; rfl
  · have h' : rd σ x = some es := by
      cases x <;> first | exact h | exact (hx ⟨_, rfl⟩).elim
    obtain ⟨ad, c, sz', f, rfl, hc, hel, had, hre⟩ := rd_rep hs hr h'
    refine ⟨fun w => by simp [Builtin.lenOf], fun m hm => ?_⟩
    by_cases hm0 : m = 0
    · subst hm0
      refine ⟨#[], ?_, by simp, fun i e j c v h1 => by simp at h1, by simp⟩
      cases ad <;> simp [Builtin.firstCells, loadCells, loadCellsFrom]
    · obtain ⟨a0, rfl, hcell⟩ := had (by omega)
      have hss : sz' = sz := by
        have hlt : 0 < es.length := by omega
        rw [← hel _ (List.getElem_mem hlt), hok _ (List.getElem_mem hlt)]
      subst hss
      have hle : m * sz' ≤ es.length * sz' := Nat.mul_le_mul_right _ hm
      refine ⟨((List.range (m * sz')).map f).toArray, ?_, by simp, ?_, ?_⟩
      · simp only [Builtin.firstCells]
        exact run_loadCells w a0 (m * sz') f fun j hj => hcell j (by omega)
      · intro i e j c v h1 h2 h3
        rw [List.getElem?_take] at h1
        split at h1
        · have h5 : j < sz' := by rw [← hel e (List.mem_of_getElem? h1)]; exact (List.getElem?_eq_some_iff.1 h2).1
          rename_i hi
          have := mul_in hi h5
          simp at h3
          obtain ⟨q, hq, rfl⟩ := h3
          rw [List.getElem?_range this] at hq
          cases hq
          exact hre i e j c h1 h2
        · cases h1
      · intro hscal u hu
        simp at hu
        obtain ⟨q, hq, rfl⟩ := hu
        have hz : 0 < sz' := by rcases Nat.eq_zero_or_pos sz' with h | h; · subst h; simp at hq
                                · exact h
        have h1 : q / sz' < es.length := by rw [Nat.div_lt_iff_lt_mul hz]; omega
        have h2 : q % sz' < (es[q / sz']).length := by rw [hel _ (List.getElem_mem h1)]; exact Nat.mod_lt _ hz
        have h3 := hre (q / sz') _ (q % sz') _ (List.getElem?_eq_getElem h1) (List.getElem?_eq_getElem h2)
        have h4 : q / sz' * sz' + q % sz' = q := Nat.div_add_mod' q sz'
        rw [h4] at h3
        exact celly_of h3 (List.all_eq_true.1 (hscal _ (List.getElem_mem h1)) _ (List.getElem_mem h2))

/-- What is asked of the types of an append. -/
structure AppT (P : Program) (ts tx te : TypeId) (i : TypeInfo) (z : Value) : Prop where
  us : P.underlying ts = some (.slice te)
  info : P.info? te = some i
  zero : i.zero = some z
  zsz : z.cells.size = i.size
  pos : 0 < i.bytes
  ux : (∃ e, P.underlying tx = some (.slice e)) ∨ P.underlying tx = some .string

def appT (P : Program) (ts tx : TypeId) : Option (Nat × Nat) :=
  match P.underlying ts with
  | some (.slice te) => match P.info? te with
    | some i => match i.zero with
      | some z => if z.cells.size = i.size ∧ 0 < i.bytes then match P.underlying tx with
        | some (.slice _) => some (i.size, i.bytes)
        | some .string => some (i.size, i.bytes)
        | _ => none
        else none
      | none => none
    | none => none
  | _ => none

theorem appT_ok {ts tx : TypeId} {sz bytes : Nat} (h : appT P ts tx = some (sz, bytes)) : ∃ te i z, AppT P ts tx te i z ∧ i.size = sz ∧ i.bytes = bytes := by
  unfold appT at h
  split at h
  · rename_i te hu
    split at h
    · rename_i i hi
      split at h
      · rename_i z hz
        split at h
        · rename_i hc
          split at h
          · rename_i e hx; cases h; exact ⟨te, i, z, ⟨hu, hi, hz, hc.1, hc.2, .inl ⟨e, hx⟩⟩, rfl, rfl⟩
          · rename_i hx; cases h; exact ⟨te, i, z, ⟨hu, hi, hz, hc.1, hc.2, .inr hx⟩, rfl, rfl⟩
          · cases h
        · cases h
      · cases h
    · cases h
  · cases h

theorem run_append_fits [Glob] {ts tx te : TypeId} {i : TypeInfo} {z : Value} {ty len cap n : Nat} (A : AppT P ts tx te i z) {base : Option Addr} {x : Value} {arr : Array Value} (hlen : ∀ w, (Builtin.lenOf x).run P w = .ok n w)
    (hc : (Builtin.firstCells i.size n x).run P w = .ok arr w) (hfit : len + n ≤ cap) :
    (Builtin.append_ #[ts, tx] ty #[.slice base len cap, x]).run P w =
      (match base with | some ad => (storeCells (ad.add (len * i.size)) arr.toList).run P w | none => .ok () w).andThen fun _ w => .ok (.slice base (len + n) cap) w := by
  obtain ⟨us, info, zero, zsz, pos, ux⟩ := A
  rcases ux with ⟨e, ux⟩ | ux <;> cases base <;> simp [Builtin.append_, run_underlying' us, run_underlying' ux, sizeOf, typeInfo, info, hlen, hfit, hc]

theorem run_append_grows [Glob] {ts tx te : TypeId} {i : TypeInfo} {z : Value} {ty len cap n : Nat} (A : AppT P ts tx te i z) {base : Option Addr} {x : Value} {arr old : Array Value} (hlen : ∀ w, (Builtin.lenOf x).run P w = .ok n w)
    (hc : (Builtin.firstCells i.size n x).run P w.drew = .ok arr w.drew) (hold : (Builtin.firstCells i.size len (.slice base len cap)).run P w.drew = .ok old w.drew) (hfit : cap < len + n) (hb : (len + n) * i.bytes ≤ 140737488355328) :
    (Builtin.append_ #[ts, tx] ty #[.slice base len cap, x]).run P w =
      .ok (.slice (some ⟨w.heap.size, 0, none⟩) (len + n) (grownCap w (len + n) cap te)) (w.drew.alloc (.cells (old ++ arr ++ Builtin.zeroCells z.cells (grownCap w (len + n) cap te - (len + n))) te)) := by
  obtain ⟨us, info, zero, zsz, pos, ux⟩ := A
  have hn : ¬ (len + n ≤ cap) := by omega
  have h1 : len + n ≤ (len + n) * i.bytes := Nat.le_mul_of_pos_right _ pos
  have h63 : ¬ (9223372036854775807 < ((len : Int) + (n : Int))) := by omega
  have h48 : ¬ (281474976710656 < Builtin.nextslicecap (len + n) cap * i.bytes) := by have := growslice_fits hfit hb; omega
  rcases ux with ⟨e, ux⟩ | ux <;> simp [Builtin.append_, run_underlying' us, run_underlying' ux, sizeOf, typeInfo, zeroValue, info, zero, hlen, hn, h63, h48, hc, hold, Question.forced, newRow, grownCap]

theorem grownCap_le (w : World) (need old : Nat) (e : TypeId) (_h : need ≤ 140737488355328) : need ≤ grownCap w need old e := by
  unfold grownCap Question.cut; simp

theorem zeroCells_size (z : Array Value) (n : Nat) : (Builtin.zeroCells z n).size = n * z.size := by simp [Builtin.zeroCells]

theorem s_append [Glob] {ts tx : TypeId} {s x : Operand} {s' x' : VA} {id0 sz bytes : Nat} (ho : o.op = .call { callee := .builtin .append, args := #[s, x], argTypes := #[ts, tx] }) (hA : appT P ts tx = some (sz, bytes))
    (hs' : cA s = some s') (hx' : cA x = some x') (hf : FrameRep w σ β env a) (hs : Sim σ β w) (hk : vAppend id0 sz bytes (va env s') (va env x') σ K) : OpS P o a σ β w K := by
  obtain ⟨te, i, z, A, rfl, rfl⟩ := appT_ok hA
  have h1 := own_rep (hf.eval hs')
  have h2 := hf.eval hx'
  have hd := same_sim (w' := w.drew) hs rfl rfl rfl rfl
  unfold vAppend at hk
  split at hk
  case h_2 => exact hk.elim
  rename_i new hnew
  obtain ⟨hok, hk⟩ := hk
  obtain ⟨hlen, hcells⟩ := rdA_rep (P := P) hs h2 hnew (fun e he => (hok e he).1)
  obtain ⟨_, hcellsD⟩ := rdA_rep (P := P) hd.2 (h2.step hd.1) hnew (fun e he => (hok e he).1)
  have grow : ∀ {id g : Nat} {o0 : VObj} {es : List (List PV)} {fz : Bool} {base : Option Addr} {cap : Nat} {old : Array Value}, σ[id]? = some (g, o0) → a.eval s = .slice base es.length cap → cap < es.length + new.length →
      (es.length + new.length) * i.bytes ≤ 140737488355328 → (∀ e, e ∈ es → e.length = i.size) → (Builtin.firstCells i.size es.length (.slice base es.length cap)).run P w.drew = .ok old w.drew → old.size = es.length * i.size →
      RowRep w σ β i.size es old 0 → K (.row id (g + 1)) (σ.set id (g + 1, .row i.size (es ++ new) fz)) → OpS P o a σ β w K := by
    intro id g o0 es fz base cap old hid he hcap hb hel hold holds hre hk
    obtain ⟨arr, c1, c2, c3, _⟩ := hcellsD new.length (Nat.le_refl _)
    have c3' : RowRep w.drew σ β i.size new arr 0 := by rw [List.take_length] at c3; exact c3
    have hn47 : es.length + new.length ≤ 140737488355328 := Nat.le_trans (Nat.le_mul_of_pos_right _ A.pos) hb
    have hgc := grownCap_le w (es.length + new.length) cap te hn47
    have hblk : (w.drew.alloc (.cells (old ++ arr ++ Builtin.zeroCells z.cells (grownCap w (es.length + new.length) cap te - (es.length + new.length))) te)).heap[w.heap.size]? =
        some (.cells (old ++ arr ++ Builtin.zeroCells z.cells (grownCap w (es.length + new.length) cap te - (es.length + new.length))) te) := heap_alloc_new w.drew _
    have hsize : (old ++ arr ++ Builtin.zeroCells z.cells (grownCap w (es.length + new.length) cap te - (es.length + new.length))).size = grownCap w (es.length + new.length) cap te * i.size := by
      simp only [Array.size_append, zeroCells_size, holds, c2, A.zsz]
      rw [← Nat.add_mul, ← Nat.add_mul]; congr 1; omega
    have hle : (es ++ new).length * i.size ≤ (old ++ arr ++ Builtin.zeroCells z.cells (grownCap w (es.length + new.length) cap te - (es.length + new.length))).size := by
      rw [hsize, List.length_append]; exact Nat.mul_le_mul_right _ hgc
    have h3 := alloc_sim (w' := w.drew.alloc (.cells (old ++ arr ++ Builtin.zeroCells z.cells (grownCap w (es.length + new.length) cap te - (es.length + new.length))) te)) (obj := .cells _ te) (o := .row i.size (es ++ new) fz) hs hid rfl rfl rfl rfl fun hst => by
      refine .inr ⟨w.heap.size, _, rfl, ⟨te, (0, 0), hblk, by simp⟩, hle, ?_, fun q e j c v h1 h2 h3 => ?_⟩
      · intro e he
        rcases List.mem_append.1 he with h | h
        · exact hel e h
        · exact (hok e h).1
      · rw [Array.append_assoc] at h3
        by_cases hq : q < es.length
        · rw [List.getElem?_append_left hq] at h1
          have h5 : j < i.size := by rw [← hel e (List.mem_of_getElem? h1)]; exact (List.getElem?_eq_some_iff.1 h2).1
          have := mul_in hq h5
          rw [Array.getElem?_append_left (by omega)] at h3
          exact (hre q e j c v h1 h2 (by simpa using h3)).step hst
        · rw [List.getElem?_append_right (by omega)] at h1
          have h5 : j < i.size := by rw [← (hok e (List.mem_of_getElem? h1)).1]; exact (List.getElem?_eq_some_iff.1 h2).1
          have h6 := mul_in (List.getElem?_eq_some_iff.1 h1).1 h5
          have h7 : q * i.size = es.length * i.size + (q - es.length) * i.size := by rw [← Nat.add_mul]; congr 1; omega
          rw [Array.getElem?_append_right (by omega), Array.getElem?_append_left (by omega)] at h3
          have h8 : q * i.size + j - old.size = 0 + (q - es.length) * i.size + j := by omega
          rw [h8] at h3
          refine Rep.step (Step.trans ?_ hst) (c3' _ e j c v h1 h2 h3)
          exact (same_sim (w := w.drew) (w' := w) hd.2 rfl rfl rfl rfl).1
    refine OpS.value (v := .slice (some ⟨w.heap.size, 0, none⟩) (es ++ new).length (grownCap w (es.length + new.length) cap te)) (run_call_builtin ho ?_) hk ?_ h3.2 h3.1
    · simp only [builtin, List.map_toArray, List.map_cons, List.map_nil, Sem.run_bind, he]
      rw [run_append_grows A hlen c1 hold hcap hb, List.length_append]; rfl
    · exact .row id (g + 1) w.heap.size i.size _ _ fz _ te (0, 0) (set_same hid) (upd_same _ _ _) hblk (by rw [List.length_append]; exact hgc) (by rw [hsize]; exact Nat.le_refl _)
  split at hk
  · rename_i id g heq
    rw [heq] at h1
    split at hk
    · rename_i s0 es fz hg
      obtain ⟨rfl, hb, hk⟩ := hk
      have hg' := vGet_some hg
      generalize he : a.eval s = ex at *
      cases h1 with
      | stalerow _ _ g' o' p n c h5 h6 => rw [hg'] at h5; cases h5; omega
      | rownil _ _ sz fz' ad h5 hb' =>
        rw [hg'] at h5; cases h5
        by_cases hnil : new = []
        · subst hnil
          obtain ⟨arr, c1, c2, c3, _⟩ := hcells 0 (Nat.le_refl _)
          have h3 := nil_sim (sz := i.size) (fz := fz) hs hg'
          refine OpS.value (v := .slice ad 0 0) (w' := w) (run_call_builtin ho ?_) hk (.rownil id (g + 1) i.size fz ad (set_same hg') (upd_same _ _ _)) h3.2 h3.1
          simp only [builtin, List.map_toArray, List.map_cons, List.map_nil, Sem.run_bind, he]
          have ha : arr = #[] := Array.eq_empty_of_size_eq_zero (by rw [c2]; simp)
          subst ha
          rw [run_append_fits (n := 0) A hlen c1 (Nat.le_refl _)]; cases ad <;> rfl
        · have h0 : 0 < new.length := List.length_pos_iff.2 hnil
          refine grow (es := []) (old := #[]) hg' rfl (by simpa using h0) hb (by simp) (by cases ad <;> simp [Builtin.firstCells, loadCells, loadCellsFrom]) (by simp) (fun q e j c v h1 => by simp at h1) hk
      | row _ _ b sz cap es2 fz' arr0 ty fr h5 hb' hh hc hsz =>
        rw [hg'] at h5; cases h5
        rcases hs.obj id g _ hg' with ⟨e, _⟩ | ⟨b', arr', e, hcl, hle, hel, hre⟩
        · rw [hb'] at e; cases e
        · rw [hb'] at e; cases e
          obtain ⟨ty', fr', hh', hfr⟩ := hcl
          rw [hh] at hh'; cases hh'
          by_cases hfit : es.length + new.length ≤ cap
          · obtain ⟨arr, c1, c2, c3, c4⟩ := hcells new.length (Nat.le_refl _)
            rw [List.take_length] at c3
            have hin : es.length * i.size + arr.size ≤ arr0.size := by
              rw [c2, ← Nat.add_mul]; exact Nat.le_trans (Nat.mul_le_mul_right _ hfit) hsz
            have hrun := run_storeCells (P := P) arr.toList w arr0 (es.length * i.size) 0 hh (by simpa using hin) hfr (fun v hv => c4 (fun e he => (hok e he).2) v (by simpa using hv))
            have hwb : World.setBlock w b (.cells (wset arr0 (es.length * i.size) arr.toList) ty fr) = if arr.toList = [] then World.setBlock w b (.cells arr0 ty fr) else World.setBlock w b (.cells (wset arr0 (es.length * i.size) arr.toList) ty fr) := by
              split
              · rename_i e; rw [e]; rfl
              · rfl
            have hself : World.setBlock w b (.cells arr0 ty fr) = w := by
              unfold World.setBlock
              have : w.heap.setIfInBounds b (.cells arr0 ty fr) = w.heap := by
                apply Array.ext_getElem?; intro j; rw [Array.getElem?_setIfInBounds]
                split
                · rename_i e; subst e; rw [if_pos (Array.getElem?_eq_some_iff.1 hh).1, hh]
                · rfl
              rw [this]
            rw [hself] at hwb
            have hrun' : (storeCells ⟨b, es.length * i.size, none⟩ arr.toList 0).run P w = .ok () (World.setBlock w b (.cells (wset arr0 (es.length * i.size) arr.toList) ty fr)) := by
              rw [hrun, hwb, Nat.add_zero]
            have hlt := (Array.getElem?_eq_some_iff.1 hh).1
            have hblk : (World.setBlock w b (.cells (wset arr0 (es.length * i.size) arr.toList) ty fr)).heap[b]? = some (.cells (wset arr0 (es.length * i.size) arr.toList) ty fr) := by simp [World.setBlock, hlt]
            have h3 := put_sim' (g' := g + 1) (w' := World.setBlock w b (.cells (wset arr0 (es.length * i.size) arr.toList) ty fr)) (o' := .row i.size (es ++ new) fz) (obj := .cells arr0 ty fr) (obj' := .cells (wset arr0 (es.length * i.size) arr.toList) ty fr) hs hg' trivial hb' rfl rfl rfl hh rfl
              (by omega) (fun e => by omega) (fun q hq hz => by have := hq hz; rw [List.length_append, Nat.add_mul] at this; omega) (by
                intro j u hj hm
                simp only [World.cell?, hh, hblk] at hj ⊢
                simp at hj ⊢
                have hj2 := (Array.getElem?_eq_some_iff.1 hj).1
                have hjl : j < es.length * i.size := by
                  simp only [VObj.may] at hm
                  omega
                rw [wset_get _ _ _ _ (by simpa using hin), if_neg (by omega)]
                exact hj) (fun arr' ty' fr' e => by cases e; exact ⟨_, rfl, wset_size _ _ _⟩)
              (fun hst => by
                refine .inr ⟨b, _, rfl, ⟨ty, fr, hblk, by rw [wset_size]; exact hfr⟩, by rw [wset_size, List.length_append, Nat.add_mul, ← c2]; exact hin, ?_, fun q e j c v h1 h2 h3 => ?_⟩
                · intro e he
                  rcases List.mem_append.1 he with h | h
                  · exact hel e h
                  · exact (hok e h).1
                · rw [wset_get _ _ _ _ (by simpa using hin)] at h3
                  by_cases hq : q < es.length
                  · rw [List.getElem?_append_left hq] at h1
                    have h5 : j < i.size := by rw [← hel e (List.mem_of_getElem? h1)]; exact (List.getElem?_eq_some_iff.1 h2).1
                    have := mul_in hq h5
                    rw [if_neg (by omega)] at h3
                    exact (hre q e j c v h1 h2 h3).step hst
                  · rw [List.getElem?_append_right (by omega)] at h1
                    have h5 : j < i.size := by rw [← (hok e (List.mem_of_getElem? h1)).1]; exact (List.getElem?_eq_some_iff.1 h2).1
                    have h6 := mul_in (List.getElem?_eq_some_iff.1 h1).1 h5
                    have h7 : q * i.size = es.length * i.size + (q - es.length) * i.size := by rw [← Nat.add_mul]; congr 1; omega
                    rw [if_pos (by simp; omega)] at h3
                    have h8 : q * i.size + j - es.length * i.size = 0 + (q - es.length) * i.size + j := by omega
                    rw [h8] at h3
                    exact (c3 _ e j c v h1 h2 (by simpa using h3)).step hst)
            refine OpS.value (v := .slice (some ⟨b, 0, none⟩) (es ++ new).length cap) (run_call_builtin ho ?_) hk ?_ h3.2 h3.1
            · simp only [builtin, List.map_toArray, List.map_cons, List.map_nil, Sem.run_bind, he]
              rw [run_append_fits A hlen c1 hfit]
              simp only [add_mk, Nat.zero_add, hrun', List.length_append, Result.andThen_ok, Sem.run_pure]
            · exact .row id (g + 1) b i.size cap _ fz _ ty fr (set_same hg') hb' hblk (by rw [List.length_append]; exact hfit) (by rw [wset_size]; exact hsz)
          · have hrd : rdA σ (.row id g) = some es := by simp [rdA, rd, hg]
            obtain ⟨_, ho'⟩ := rdA_rep (P := P) hd.2 (Rep.step hd.1 (Rep.row id g b i.size cap es fz arr0 ty fr hg' hb' hh hc hsz)) hrd hel
            obtain ⟨old, q1, q2, q3, _⟩ := ho' es.length (Nat.le_refl _)
            rw [List.take_length] at q3
            exact grow hg' rfl (by omega) hb hel q1 q2 (fun q e j c v h1 h2 h3 => Rep.step (same_sim (w := w.drew) (w' := w) hd.2 rfl rfl rfl rfl).1 (q3 q e j c v h1 h2 h3)) hk
    · exact hk.elim
  · rename_i heq
    rw [heq] at h1
    obtain ⟨hb, hk⟩ := hk
    unfold vNew at hk
    split at hk
    · rename_i g o0 hid
      generalize he : a.eval s = ex at *
      cases h1
      by_cases hnil : new = []
      · subst hnil
        obtain ⟨arr, c1, c2, c3, _⟩ := hcells 0 (Nat.le_refl _)
        have h3 := nil_sim (sz := i.size) (fz := false) hs hid
        refine OpS.value (v := .slice none 0 0) (w' := w) (run_call_builtin ho ?_) hk (.rownil id0 (g + 1) i.size false none (set_same hid) (upd_same _ _ _)) h3.2 h3.1
        simp only [builtin, List.map_toArray, List.map_cons, List.map_nil, Sem.run_bind, he]
        rw [run_append_fits (n := 0) A hlen c1 (Nat.le_refl _)]; rfl
      · have h0 : 0 < new.length := List.length_pos_iff.2 hnil
        exact grow (es := []) (old := #[]) hid rfl (by simpa using h0) (by simpa using hb) (by simp) (by simp [Builtin.firstCells]) (by simp) (fun q e j c v h1 => by simp at h1) hk
    · exact hk.elim
  · exact hk.elim

theorem s_buildSlice [Glob] {t e : TypeId} {len id sz : Nat} {parts : Array (Nat × Operand)} {parts' : List (Nat × VA)} {zero : List PV} (ho : o.op = .buildSlice t len parts) (hu : P.underlying t = some (.slice e)) (hsz : sizeT P e = some sz)
    (hz : zeroPV P e = some zero) (hzl : zero.length = sz) (hsmall : len * sz ≤ 16777216)
    (hl : parts.toList.length = parts'.length) (hp : ∀ (i : Nat) (p : Nat × Operand) (q : Nat × VA), parts.toList[i]? = some p → parts'[i]? = some q → p.1 = q.1 ∧ cA p.2 = some q.2)
    (hf : FrameRep w σ β env a) (hs : Sim σ β w) (hk : vBuildSlice id sz len zero (parts'.map fun q => (q.1, va env q.2)) σ K) : OpS P o a σ β w K := by
  unfold vBuildSlice at hk
  split at hk
  case h_2 => exact hk.elim
  rename_i es' hfill
  obtain ⟨z, z1, z2, z3⟩ := run_zeroValue hz w
  have hzs : z.cells.size = sz := by omega
  -- the row of zeros
  have main : ∀ (ps : List (Nat × Operand)) (ps' : List (Nat × VA)) (es : List (List PV)) (arr : Array Value) (es' : List (List PV)), ps.length = ps'.length →
      (∀ (i : Nat) (p : Nat × Operand) (q : Nat × VA), ps[i]? = some p → ps'[i]? = some q → p.1 = q.1 ∧ cA p.2 = some q.2) → arr.size = es.length * sz → (∀ e, e ∈ es → e.length = sz) → RowRep w σ β sz es arr 0 →
      vFillRow sz es (ps'.map fun q => (q.1, va env q.2)) = some es' → ∃ arr', Instr.fill (fun i => some (i * sz, sz)) arr (ps.map fun p => (p.1, a.eval p.2)) = some arr' ∧ es'.length = es.length ∧ arr'.size = es'.length * sz ∧ (∀ e, e ∈ es' → e.length = sz) ∧ RowRep w σ β sz es' arr' 0 := by
    intro ps
    induction ps with
    | nil =>
      intro ps' es arr es' hl _ h1 h2 h3 h
      have : ps' = [] := List.length_eq_zero_iff.1 hl.symm
      subst this
      simp [vFillRow] at h; subst h
      exact ⟨arr, rfl, rfl, h1, h2, h3⟩
    | cons p ps ih =>
      intro ps' es arr es' hl hp h1 h2 h3 h
      cases ps' with
      | nil => simp at hl
      | cons q ps' =>
        obtain ⟨e1, e2⟩ := hp 0 p q rfl rfl
        have hr := hf.eval e2
        simp only [List.map_cons, vFillRow] at h
        split at h
        · rename_i hcond
          obtain ⟨c1, c2, c3⟩ := hcond
          obtain ⟨f1, f2, f3⟩ := pcells_rep hr c2
          have hmul : q.1 * sz + sz ≤ es.length * sz := by
            have : (q.1 + 1) * sz ≤ es.length * sz := Nat.mul_le_mul_right _ c3
            rw [Nat.add_mul] at this; omega
          have hlen : (a.eval p.2).cells.toList.length = sz := by simp; omega
          obtain ⟨arr', g1, g2, g3, g4, g5⟩ := ih ps' (es.set q.1 (pcells (va env q.2))) (wset arr (q.1 * sz) (a.eval p.2).cells.toList) es' (by simpa using hl)
            (fun i p' q' h3 h4 => hp (i + 1) p' q' (by simpa using h3) (by simpa using h4)) (by rw [wset_size, List.length_set, h1])
            (fun e he => by rcases List.mem_or_eq_of_mem_set he with h | h; · exact h2 e h
                            · rw [h, c1])
            (fun i e j c v h4 h5 h6 => by
              rw [wset_get _ _ _ _ (by rw [hlen, h1]; exact hmul)] at h6
              by_cases hi : i = q.1
              · subst hi
                rw [List.getElem?_set_self c3] at h4; cases h4
                have hj := (List.getElem?_eq_some_iff.1 h5).1
                rw [if_pos (by rw [hlen]; omega)] at h6
                have : 0 + q.1 * sz + j - q.1 * sz = j := by omega
                rw [this] at h6
                exact f3 j c v h5 (by simpa using h6)
              · rw [List.getElem?_set_ne (Ne.symm hi)] at h4
                have hj : j < sz := by rw [← h2 e (List.mem_of_getElem? h4)]; exact (List.getElem?_eq_some_iff.1 h5).1
                rw [if_neg] at h6
                · exact h3 i e j c v h4 h5 h6
                · rw [hlen]
                  rcases Nat.lt_or_gt_of_ne hi with hlt | hgt
                  · have : (i + 1) * sz ≤ q.1 * sz := Nat.mul_le_mul_right _ hlt
                    rw [Nat.add_mul] at this; omega
                  · have : (q.1 + 1) * sz ≤ i * sz := Nat.mul_le_mul_right _ hgt
                    rw [Nat.add_mul] at this; omega) h
          refine ⟨arr', ?_, by rw [g2, List.length_set], g3, g4, g5⟩
          rw [← g1]
          simp only [List.map_cons, Instr.fill]
          rw [if_neg]
          · congr 1
            rw [← Array.foldl_toList, Array.toList_zipIdx, e1]
            exact fold_set _ _ _ _
          · rw [e1]; simp at hlen ⊢; omega
        · cases h
  by_cases h0 : len * sz = 0
  · obtain ⟨arr', g1, g2, g3, g4, g5⟩ := main parts.toList parts' (List.replicate len zero) #[] es' hl hp (by simp [h0]) (by intro e he; rw [List.eq_of_mem_replicate he, hzl]) (fun i e j c v _ _ h => by simp at h) hfill
    refine s_newBlock (ty := e) (fr := (0, 0)) (w' := w.alloc (.cells arr' e)) (n := len) (c := len) ?_ (by rw [g2]; simp) (Nat.le_refl _) (by rw [g3, g2]; simp) rfl rfl rfl rfl (by simp) g4 (fun i e j c v h1 h2 h3 => g5 i e j c v h1 h2 (by simpa using h3)) hs hk
    have e5 : (Array.map (fun x => match x with | (i, x) => (i, a.eval x)) parts).toList = parts.toList.map fun p => (p.1, a.eval p.2) := by simp
    have e6 : ∀ (f : Nat → Value), (Array.range 0).map f = #[] := fun f => by apply Array.ext'; simp
    simp only [execOp, ho, Instr.buildSlice, Sem.run_bind, run_underlying' hu, Result.andThen_ok, run_sizeOf hsz, h0, e5]
    simp only [e6, g1]
    simp [newRow, newObj, Sem.run]
  · have hsz0 : 0 < sz := by rcases Nat.eq_zero_or_pos sz with h | h; · simp [h] at h0
                             · exact h
    obtain ⟨arr', g1, g2, g3, g4, g5⟩ := main parts.toList parts' (List.replicate len zero) ((Array.range (len * sz)).map fun i => z.cells[i % z.cells.size]!) es' hl hp (by simp) (by intro e he; rw [List.eq_of_mem_replicate he, hzl]) (fun i e j c v h1 h2 h3 => by
      rw [List.getElem?_replicate] at h1
      split at h1
      · rename_i hi
        cases h1
        have hj : j < sz := by rw [← hzl]; exact (List.getElem?_eq_some_iff.1 h2).1
        have := mul_in hi hj
        have hmod : (i * sz + j) % z.cells.size = j := by rw [hzs, Nat.mul_comm, Nat.mul_add_mod, Nat.mod_eq_of_lt hj]
        rw [Nat.zero_add, Array.getElem?_map] at h3
        have h7 : (Array.range (len * sz))[i * sz + j]? = some (i * sz + j) := by rw [Array.getElem?_eq_getElem (by simpa using this), Array.getElem_range]
        rw [h7, Option.map_some, hmod, getElem!_pos z.cells j (by omega)] at h3
        cases h3
        exact z3 σ β j c _ h2 (Array.getElem?_eq_getElem (by omega))
      · cases h1) hfill
    refine s_newBlock (ty := e) (fr := (0, 0)) (w' := w.alloc (.cells arr' e)) (n := len) (c := len) ?_ (by rw [g2]; simp) (Nat.le_refl _) (by rw [g3, g2]; simp) rfl rfl rfl rfl (by simp) g4 (fun i e j c v h1 h2 h3 => g5 i e j c v h1 h2 (by simpa using h3)) hs hk
    have e5 : (Array.map (fun x => match x with | (i, x) => (i, a.eval x)) parts).toList = parts.toList.map fun p => (p.1, a.eval p.2) := by simp
    have h24 : ¬ (16777216 < len * sz) := by omega
    simp only [execOp, ho, Instr.buildSlice, Sem.run_bind, run_underlying' hu, Result.andThen_ok, run_sizeOf hsz, e5]
    simp [h0, z1, g1, newRow, newObj, Sem.run, h24]

end
end Go.V
