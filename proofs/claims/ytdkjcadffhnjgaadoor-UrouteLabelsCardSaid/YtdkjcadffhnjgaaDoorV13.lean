/- More on maps; ranging; copy. -/
import Derived.Test.YtdkjcadffhnjgaaDoorV12
namespace Go.V
open Go

def vRangeMap (id : Nat) (x : PV) (σ : VHeap) (K : KP) : Prop :=
  withMap x σ fun m g _ clock => vNew id (.miter m g clock clock []) σ fun g' σ => K (.iter id g') σ
/-- Which entries may come next: 'none' is the end. -/
def nexts (es : Ents) (since : Nat) (seen : List Nat) : List (Option (PV × PV × Nat)) :=
  let left := es.filter fun e => !seen.contains e.2.2
  (if left.all (fun e => decide (since ≤ e.2.2)) then [none] else []) ++ left.map some
def vNextMap (x : PV) (σ : VHeap) (K : KP) : Prop :=
  match x with
  | .iter id g => match vGet σ id g with
    | some (.miter m mg since last seen) => match vGet σ m mg with
      | some (.map es clock) => ¬ (seen ≠ [] ∧ es ≠ [] ∧ ∀ e, e ∈ es → last ≤ e.2.2) ∧
        ∀ c, c ∈ nexts es since seen → match c with
          | some (k, v, b) => K (.tup [.bool true, k, v]) (σ.set id (g, .miter m mg since clock (seen ++ [b])))
          | none => K (.tup [.bool false]) σ
      | _ => False
    | _ => False
  | _ => False
def vEntry (x : PV) (σ : VHeap) (K : KP) : Prop :=
  match x with
  | .iter id g => match vGet σ id g with
    | some (.miter m mg _ last seen) => match vGet σ m mg with
      | some (.map es clock) => last = clock ∧ match seen.getLast? with
        | some b => match es.find? (fun e => e.2.2 == b) with
          | some (k, v, _) => K (.tup [k, v]) σ
          | none => False
        | none => False
      | _ => False
    | _ => False
  | _ => False
def vRangeStr (id : Nat) (x : PV) (σ : VHeap) (K : KP) : Prop :=
  match x with
  | .str s => vNew id (.siter s 0) σ fun g' σ => K (.iter id g') σ
  | _ => False
def vNextStr (x : PV) (σ : VHeap) (K : KP) : Prop :=
  match x with
  | .iter id g => match vGet σ id g with
    | some (.siter s pos) => if pos < s.length then
        K (.tup [.bool true, .int .i64 pos, .int .i32 (Utf8.decode ⟨s.toArray⟩ pos).1]) (σ.set id (g, .siter s (pos + (Utf8.decode ⟨s.toArray⟩ pos).2)))
      else K (.tup [.bool false]) σ
    | _ => False
  | _ => False

section
variable {P : Program} {o : Oper} {a : Act} {σ : VHeap} {β : Beta} {w : World} {env : Env} {K : KP}

theorem s_mapLen [Glob] {x : Operand} {x' : VA} {t k e : TypeId} (ho : o.op = .call { callee := .builtin .len, args := #[x], argTypes := #[t] }) (hu : P.underlying t = some (.map k e)) (hx : cA x = some x')
    (hf : FrameRep w σ β env a) (hs : Sim σ β w) (hk : vMapLen (va env x') σ K) : OpS P o a σ β w K := by
  have h1 := hf.eval hx
  unfold vMapLen withMap at hk
  generalize hc0 : va env x' = c0 at *
  split at hk
  · split at hk
    · rename_i es clock hg
      obtain ⟨bb, ms, e1, hb, hh, he⟩ := map_at hs hg h1
      have hl : es.length = ms.size := by simpa using he.1
      refine OpS.value (v := .int .i64 es.length) (w' := w) (run_call_builtin ho ?_) hk (.int _ _) hs (Step.refl _ _ _)
      simp [builtin, Builtin.len_, e1, run_underlying' hu, run_getObj' hh, goInt, hl]
    · exact hk.elim
  · exact hk.elim

theorem s_mapClear [Glob] {x : Operand} {x' : VA} {t k e : TypeId} (ho : o.op = .call { callee := .builtin .clear, args := #[x], argTypes := #[t] }) (hu : P.underlying t = some (.map k e)) (hx : cA x = some x')
    (hf : FrameRep w σ β env a) (hs : Sim σ β w) (hk : vMapClear (va env x') σ K) : OpS P o a σ β w K := by
  have h1 := hf.eval hx
  unfold vMapClear withMap at hk
  generalize hc0 : va env x' = c0 at *
  split at hk
  · split at hk
    · rename_i es clock hg
      obtain ⟨bb, ms, e1, hb, hh, he⟩ := map_at hs hg h1
      have hp := map_put (es' := []) (ms' := #[]) (clock' := clock) hs hg hb hh ⟨rfl, fun i e m h => by simp at h⟩
      refine OpS.value (v := .tuple #[]) (run_call_builtin ho ?_) hk (.tup [] #[] rfl (by simp)) hp.2 hp.1
      simp [builtin, Builtin.clear_, e1, run_underlying' hu, run_getObj' hh, run_setObj hh]
    · exact hk.elim
  · exact hk.elim

theorem s_delete [Glob] {x k : Operand} {x' k' : VA} {t u e : TypeId} {b : Bool} (ho : o.op = .call { callee := .builtin .delete, args := #[x, k], argTypes := #[t, u] }) (ht : keyT P t = some (b, e)) (hx : cA x = some x') (hk' : cA k = some k')
    (hf : FrameRep w σ β env a) (hs : Sim σ β w) (hk : vDelete b (va env x') (va env k') σ K) : OpS P o a σ β w K := by
  have h1 := hf.eval hx
  have h2 := hf.eval hk'
  obtain ⟨kt, kind, hu, hku, hkind⟩ := keyT_ok ht
  obtain ⟨hkv, hk⟩ := hk
  unfold withMap at hk
  generalize hc0 : va env x' = c0 at *
  split at hk
  · rename_i id g
    split at hk
    · rename_i es clock hg
      obtain ⟨bb, ms, e1, hb, hh, he⟩ := map_at hs hg h1
      cases hl : look (va env k') es with
      | none => rw [hl] at hk; exact hk.elim
      | some r =>
        rw [hl] at hk
        have hfnd := find_rep hkind hkv h2 es ms.toList 0 r he hl
        cases r with
        | none =>
          simp only [] at hfnd
          have hp := map_put (es' := es) (ms' := ms) (clock' := clock) hs hg hb hh he
          refine OpS.value (v := .tuple #[]) (run_call_builtin ho ?_) hk (.tup [] #[] rfl (by simp)) hp.2 hp.1
          simp [builtin, Builtin.delete_, e1, run_underlying' hu, run_getObj' hh, run_checkKey hku hkind, run_findKey hku hfnd, run_setObj hh]
        | some p =>
          obtain ⟨i, v, bn⟩ := p
          obtain ⟨m, g1, g2, g3, g4, e0, g5, g6⟩ := hfnd
          have hi : i < ms.size := by have := (List.getElem?_eq_some_iff.1 g1).1; simpa using this
          have hp := map_put (es' := es.eraseIdx i) (ms' := ms.eraseIdx i hi) (clock' := clock) hs hg hb hh (by
            have hl' := he.1
            refine ⟨by have hl2 : es.length = ms.size := by simpa using hl'
                       rw [Array.toList_eraseIdx, List.length_eraseIdx, List.length_eraseIdx]; simp [hl2], fun j e' m' h3 h4 => ?_⟩
            rw [Array.toList_eraseIdx] at h4
            rw [List.getElem?_eraseIdx] at h3 h4
            split at h3
            · rename_i hj; rw [if_pos hj] at h4; exact he.2 j e' m' h3 h4
            · rename_i hj; rw [if_neg hj] at h4; exact he.2 (j + 1) e' m' h3 h4)
          refine OpS.value (v := .tuple #[]) (run_call_builtin ho ?_) hk (.tup [] #[] rfl (by simp)) hp.2 hp.1
          have h9 : ms.eraseIdxIfInBounds i = ms.eraseIdx i hi := by simp [Array.eraseIdxIfInBounds, hi]
          simp [builtin, Builtin.delete_, e1, run_underlying' hu, run_getObj' hh, run_checkKey hku hkind, run_findKey hku g2, run_setObj hh, h9]
    · exact hk.elim
  · exact hk.elim

theorem s_rangeMap [Glob] {t k e : TypeId} {x : Operand} {x' : VA} {id : Nat} (ho : o.op = .range t x) (hu : P.underlying t = some (.map k e)) (hx : cA x = some x') (hf : FrameRep w σ β env a) (hs : Sim σ β w)
    (hk : vRangeMap id (va env x') σ K) : OpS P o a σ β w K := by
  have h1 := hf.eval hx
  unfold vRangeMap withMap at hk
  generalize hc0 : va env x' = c0 at *
  split at hk
  · rename_i m g
    split at hk
    · rename_i es clock hg
      obtain ⟨bb, ms, e1, hb, hh, he⟩ := map_at hs hg h1
      unfold vNew at hk
      split at hk
      · rename_i g0 o0 hid
        have h2 := alloc_sim (w' := w.alloc (.mapIter (some bb) clock #[] clock)) (obj := .mapIter (some bb) clock #[] clock) (o := .miter m g clock clock []) hs hid rfl rfl rfl rfl fun hst =>
          ⟨w.heap.size, rfl, bb, (Rep.map m g bb es clock (vGet_some hg) hb).step hst, heap_alloc_new w _⟩
        refine OpS.value (v := .pointer (some ⟨w.heap.size, 0, none⟩)) (w' := w.alloc (.mapIter (some bb) clock #[] clock)) ?_ hk (.miter id (g0 + 1) w.heap.size m g clock clock [] (set_same hid) (upd_same _ _ _)) h2.2 h2.1
        simp [execOp, ho, e1, Instr.range, run_underlying' hu, run_getObj' hh, newObj, Sem.run]
      · exact hk.elim
    · exact hk.elim
  · exact hk.elim

theorem s_rangeStr [Glob] {t : TypeId} {x : Operand} {x' : VA} {id : Nat} (ho : o.op = .range t x) (hu : P.underlying t = some .string) (hx : cA x = some x') (hf : FrameRep w σ β env a) (hs : Sim σ β w)
    (hk : vRangeStr id (va env x') σ K) : OpS P o a σ β w K := by
  have h1 := hf.eval hx
  unfold vRangeStr at hk
  generalize hc0 : va env x' = c0 at *
  split at hk
  · rename_i l
    obtain ⟨s, e1, e2⟩ := str_inv h1
    unfold vNew at hk
    split at hk
    · rename_i g0 o0 hid
      have h2 := alloc_sim (w' := w.alloc (.stringIter s 0)) (obj := .stringIter s 0) (o := .siter l 0) hs hid rfl rfl rfl rfl fun hst => ⟨w.heap.size, rfl, s, e2, heap_alloc_new w _⟩
      refine OpS.value (v := .pointer (some ⟨w.heap.size, 0, none⟩)) (w' := w.alloc (.stringIter s 0)) ?_ hk (.siter id (g0 + 1) w.heap.size l 0 (set_same hid) (upd_same _ _ _)) h2.2 h2.1
      simp [execOp, ho, e1, Instr.range, run_underlying' hu, newObj, Sem.run]
    · exact hk.elim
  · exact hk.elim

theorem tup1 (b : Bool) : Rep w σ β (.tup [.bool b]) (.tuple #[.bool b]) := by
  refine .tup _ _ rfl fun i c v h1 h2 => ?_
  match i with
  | 0 => cases h1; cases h2; exact .bool _
  | n + 1 => simp at h1
theorem tup3 {b : Bool} {c d : PV} {u v : Value} (h1 : Rep w σ β c u) (h2 : Rep w σ β d v) : Rep w σ β (.tup [.bool b, c, d]) (.tuple #[.bool b, u, v]) := by
  refine .tup _ _ rfl fun i c v h1 h2 => ?_
  match i with
  | 0 => cases h1; cases h2; exact .bool _
  | 1 => cases h1; cases h2; assumption
  | 2 => cases h1; cases h2; assumption
  | n + 3 => simp at h1
theorem tup2 {c d : PV} {u v : Value} (h1 : Rep w σ β c u) (h2 : Rep w σ β d v) : Rep w σ β (.tup [c, d]) (.tuple #[u, v]) := by
  refine .tup _ _ rfl fun i c v h1 h2 => ?_
  match i with
  | 0 => cases h1; cases h2; assumption
  | 1 => cases h1; cases h2; assumption
  | n + 2 => simp at h1

theorem setBlock_live {id g b : Nat} {ob ob' : VObj} {obj obj' : Obj} (hs : Sim σ β w) (hg : vGet σ id g = some ob) (hl : ob.live) (hb : β id = some b) (hobj : w.heap[b]? = some obj) (hnc : ∀ arr ty fr, obj ≠ .cells arr ty fr) (hal : ob.alike ob') (hmay : ∀ i, ¬ ob'.may i)
    (ho : Step σ β w (σ.set id (g, ob')) β (World.setBlock w b obj') → ORep (World.setBlock w b obj') (σ.set id (g, ob')) β (some b) ob') :
    Step σ β w (σ.set id (g, ob')) β (World.setBlock w b obj') ∧ Sim (σ.set id (g, ob')) β (World.setBlock w b obj') := by
  refine put_sim (obj := obj) (obj' := obj') hs (vGet_some hg) hl hb rfl rfl rfl hobj rfl hal (fun i h => (hmay i h).elim) (fun i v hc => ?_) (fun arr ty fr e => (hnc _ _ _ e).elim) ho
  unfold World.cell? at hc
  rw [show w.heap[(⟨b, i, none⟩ : Addr).block]? = some obj from hobj] at hc
  cases obj <;> first | (exact (hnc _ _ _ rfl).elim) | (simp at hc)

theorem s_nextStr [Glob] {x : Operand} {x' : VA} (ho : o.op = .next x true) (hx : cA x = some x') (hf : FrameRep w σ β env a) (hs : Sim σ β w) (hk : vNextStr (va env x') σ K) : OpS P o a σ β w K := by
  have h1 := hf.eval hx
  unfold vNextStr at hk
  generalize hc0 : va env x' = c0 at *
  generalize he : a.eval x = ex at *
  split at hk
  · rename_i id g
    split at hk
    · rename_i l pos hg
      have hg' := vGet_some hg
      cases h1 with
      | staleit _ _ g' o' p h5 h6 => rw [hg'] at h5; cases h5; omega
      | miter _ _ b m mg since stepped seen h5 hb => rw [hg'] at h5; cases h5
      | siter _ _ b s0 pos0 h5 hb =>
        rw [hg'] at h5; cases h5
        obtain ⟨b', e, bs, e2, hh⟩ := hs.obj id g _ hg'
        rw [hb] at e; cases e
        have hlt := (Array.getElem?_eq_some_iff.1 hh).1
        have hbs : (⟨l.toArray⟩ : ByteArray) = bs := by rw [← e2]
        have hlen : l.length = bs.size := by rw [← e2]; simp
        rw [hbs, hlen] at hk
        have hget : (getObj b).run P w = .ok (.stringIter bs pos) w := by simp [getObj, Sem.run, hh]
        have hset : ∀ o', (setObj b o').run P w = .ok () (World.setBlock w b o') := fun o' => by simp [setObj, Sem.run, hh, World.setBlock]
        split at hk
        · rename_i hp
          have h3 := setBlock_live (ob' := .siter l (pos + (Utf8.decode bs pos).2)) (obj' := .stringIter bs (pos + (Utf8.decode bs pos).2)) hs hg trivial hb hh (by simp) rfl (by simp [VObj.may]) (fun _ => ⟨b, rfl, bs, e2, by simp [World.setBlock, hlt]⟩)
          refine OpS.value (v := .tuple #[.bool true, .int .i64 pos, .int .i32 (Utf8.decode bs pos).1]) ?_ hk (tup3 (.int _ _) (.int _ _)) h3.2 h3.1
          simp [execOp, ho, he, Instr.next, hget, hp, hset, goInt]
        · rename_i hp
          refine OpS.value (v := .tuple #[.bool false]) (w' := w) ?_ hk (tup1 _) hs (Step.refl _ _ _)
          simp [execOp, ho, he, Instr.next, hget, hp]
    · exact hk.elim
  · exact hk.elim

theorem run_choose_lt {n : Nat} (h : 0 < n) (w : World) : ∃ i w', (choose (.mapNext n)).run P w = .ok i w' ∧ i < n ∧ w'.os = w.os ∧ w'.tape = w.tape ∧ w'.output = w.output ∧ w'.heap = w.heap := by
  by_cases h1 : n ≤ 1
  · exact ⟨0, w, by simp [choose, Sem.run, Question.forced, h1], h, rfl, rfl, rfl, rfl⟩
  · exact ⟨(Question.mapNext n).cut (w.tape w.drawn (.mapNext n)), { w with drawn := w.drawn + 1 }, by simp [choose, Sem.run, Question.forced, h1], Nat.mod_lt _ h, rfl, rfl, rfl, rfl⟩

/-- What may come next in the machine may come next here. -/
theorem nexts_rep {es : Ents} {ms : List MapEntry} (he : EntsRep w σ β es ms) {since : Nat} {seen : List Nat} {c : Option MapEntry}
    (hc : c ∈ (if (ms.filter fun e => !seen.contains e.born).filter (fun e => decide (e.born < since)) = [] then [none] else []) ++ (((ms.filter fun e => !seen.contains e.born).filter fun e => decide (e.born < since)) ++ ((ms.filter fun e => !seen.contains e.born).filter fun e => decide (e.born ≥ since))).map some) :
    match c with
    | none => none ∈ nexts es since seen
    | some m => ∃ e, some e ∈ nexts es since seen ∧ Rep w σ β e.1 m.key ∧ Rep w σ β e.2.1 m.val ∧ e.2.2 = m.born := by
  obtain ⟨hl, hr⟩ := he
  cases c with
  | none =>
    simp only [List.mem_append, List.mem_map] at hc
    rcases hc with hc | ⟨m, _, h⟩
    · split at hc
      · rename_i hold
        simp only [nexts, List.mem_append]
        left
        rw [if_pos]
        · simp
        · rw [List.all_eq_true]
          intro e hem
          obtain ⟨h1, h2⟩ := List.mem_filter.1 hem
          obtain ⟨i, hi, rfl⟩ := List.mem_iff_getElem.1 h1
          have hi2 : i < ms.length := by omega
          obtain ⟨_, _, h3⟩ := hr i _ _ (List.getElem?_eq_getElem hi) (List.getElem?_eq_getElem hi2)
          rw [List.filter_eq_nil_iff] at hold
          have := hold ms[i] (List.mem_filter.2 ⟨List.getElem_mem hi2, by rw [← h3]; exact h2⟩)
          simp at this ⊢
          omega
      · simp at hc
    · cases h
  | some m =>
    have hm : m ∈ ms ∧ (!seen.contains m.born) = true := by
      simp only [List.mem_append, List.mem_map] at hc
      rcases hc with hc | ⟨m', h1, h2⟩
      · split at hc <;> simp at hc
      · cases h2
        rcases h1 with h1 | h1 <;> exact List.mem_filter.1 (List.mem_filter.1 h1).1
    obtain ⟨i, hi, rfl⟩ := List.mem_iff_getElem.1 hm.1
    have hi2 : i < es.length := by omega
    obtain ⟨r1, r2, r3⟩ := hr i _ _ (List.getElem?_eq_getElem hi2) (List.getElem?_eq_getElem hi)
    exact ⟨es[i], List.mem_append.2 (.inr (List.mem_map.2 ⟨_, List.mem_filter.2 ⟨List.getElem_mem hi2, by rw [r3]; exact hm.2⟩, rfl⟩)), r1, r2, r3⟩

theorem s_nextMap [Glob] {x : Operand} {x' : VA} (ho : o.op = .next x false) (hx : cA x = some x') (hf : FrameRep w σ β env a) (hs : Sim σ β w) (hk : vNextMap (va env x') σ K) : OpS P o a σ β w K := by
  have h1 := hf.eval hx
  unfold vNextMap at hk
  generalize hc0 : va env x' = c0 at *
  generalize he : a.eval x = ex at *
  split at hk
  · rename_i id g
    split at hk
    · rename_i m mg since last seen hg
      have hg' := vGet_some hg
      split at hk
      · rename_i es clock hgm
        obtain ⟨hno, hk⟩ := hk
        cases h1 with
        | staleit _ _ g' o' p h5 h6 => rw [hg'] at h5; cases h5; omega
        | siter _ _ b s0 pos0 h5 hb => rw [hg'] at h5; cases h5
        | miter _ _ b m' mg' since' stepped' seen' h5 hb =>
          rw [hg'] at h5; cases h5
          obtain ⟨b', e, mb, hrm, hh⟩ := hs.obj id g _ hg'
          rw [hb] at e; cases e
          obtain ⟨bb, ms, e1, hbm, hhm, hents⟩ := map_at hs hgm hrm
          cases e1
          have hlt := (Array.getElem?_eq_some_iff.1 hh).1
          have hget : (getObj b).run P w = .ok (.mapIter (some mb) since seen.toArray last) w := by simp [getObj, Sem.run, hh]
          have hgetm : (getObj mb).run P w = .ok (.map ms clock) w := run_getObj' hhm
          have hcond : (!seen.toArray.isEmpty && !ms.isEmpty && ms.all (fun e => decide (e.born ≥ last))) = false := by
            rw [Bool.eq_false_iff]
            intro hall
            simp at hall
            obtain ⟨⟨q1, q2⟩, q3⟩ := hall
            refine hno ⟨by simpa using q1, ?_, ?_⟩
            · intro h0; apply q2; have := hents.1; rw [h0] at this; simpa using this.symm
            · intro e hem
              obtain ⟨i, hi, rfl⟩ := List.mem_iff_getElem.1 hem
              have hi2 : i < ms.size := by have := hents.1; simp at this; omega
              obtain ⟨_, _, r3⟩ := hents.2 i _ ms[i] (List.getElem?_eq_getElem hi) (by simp [hi2])
              rw [r3]; exact q3 i hi2
          obtain ⟨cands, hcands⟩ : ∃ c : Array (Option MapEntry), c = (if ((ms.filter fun e => !seen.toArray.contains e.born).filter (fun e => decide (e.born < since))).isEmpty = true then #[none] else #[]) ++ (((ms.filter fun e => !seen.toArray.contains e.born).filter fun e => decide (e.born < since)) ++ ((ms.filter fun e => !seen.toArray.contains e.born).filter fun e => decide (e.born ≥ since))).map some := ⟨_, rfl⟩
          have hlist : cands.toList = (if (ms.toList.filter fun e => !seen.contains e.born).filter (fun e => decide (e.born < since)) = [] then [none] else []) ++ (((ms.toList.filter fun e => !seen.contains e.born).filter fun e => decide (e.born < since)) ++ ((ms.toList.filter fun e => !seen.contains e.born).filter fun e => decide (e.born ≥ since))).map some := by
            simp only [hcands, Array.toList_append, Array.toList_map, Array.toList_filter, List.contains_toArray]
            congr 1
            have : (Array.filter (fun e => decide (e.born < since)) (Array.filter (fun e => !seen.contains e.born) ms)).isEmpty = true ↔ List.filter (fun e => decide (e.born < since)) (List.filter (fun e => !seen.contains e.born) ms.toList) = [] := by
              rw [Array.isEmpty_iff, ← Array.toList_eq_nil_iff, Array.toList_filter, Array.toList_filter]
            by_cases hq : List.filter (fun e => decide (e.born < since)) (List.filter (fun e => !seen.contains e.born) ms.toList) = []
            · rw [if_pos hq, if_pos (this.2 hq)]
            · rw [if_neg hq, if_neg (fun h => hq (this.1 h))]
          have hpos : 0 < cands.size := by
            rw [← Array.length_toList, hlist]
            by_cases hq : List.filter (fun e => decide (e.born < since)) (List.filter (fun e => !seen.contains e.born) ms.toList) = []
            · rw [if_pos hq]; simp
            · rw [if_neg hq]
              have := List.length_pos_iff.2 hq
              simp only [List.nil_append, List.length_map, List.length_append]; omega
          obtain ⟨i, w1, c1, c2, c3, c4, c5, c6⟩ := run_choose_lt (P := P) hpos w
          have hd := same_sim hs c3 c4 c5 c6
          obtain ⟨cc, hci, hmem⟩ : ∃ cc, cands[i]? = some cc ∧ cc ∈ cands.toList := ⟨cands[i], Array.getElem?_eq_getElem c2, by rw [Array.mem_toList_iff]; exact Array.getElem_mem c2⟩
          have hn := nexts_rep hents (c := cc) (by rw [← hlist]; exact hmem)
          have hset : ∀ o', (setObj b o').run P w1 = .ok () (World.setBlock w1 b o') := fun o' => by simp [setObj, Sem.run, c6, hh, World.setBlock]
          have hrun : ∀ {r : Result Next}, ((match cands[i]? with
              | some (some e) => (do setObj b (.mapIter (some mb) since (seen.toArray.push e.born) clock); pure (.value (.tuple #[.bool true, e.key, e.val])))
              | some none => pure (.value (.tuple #[.bool false]))
              | none => stuck "Next: no such candidate") : Sem Next).run P w1 = r → (execOp a.eval o).run P w = r := by
            intro r hr
            rw [← hr]
            simp only [execOp, ho, he, Instr.next, Sem.run_bind, hget, hgetm, Result.andThen_ok, hcond, Bool.false_eq_true, if_false]
            rw [← hcands]
            simp only [c1, Result.andThen_ok, hci]
            cases cc <;> simp [hset]
          cases cc with
          | none =>
            have hk := hk none hn
            refine OpS.value (v := .tuple #[.bool false]) (w' := w1) (hrun ?_) hk (tup1 _) hd.2 hd.1
            rw [hci]; rfl
          | some e =>
            obtain ⟨⟨k, v, bn⟩, q1, q2, q3, q4⟩ := hn
            have hk := hk (some (k, v, bn)) q1
            simp only [] at hk q2 q3 q4
            have hg1 : w1.heap[b]? = some (.mapIter (some mb) since seen.toArray last) := by rw [c6]; exact hh
            have h3 := setBlock_live (w := w1) (ob' := .miter m mg since clock (seen ++ [bn])) (obj' := .mapIter (some mb) since (seen.toArray.push e.born) clock) hd.2 hg trivial hb hg1 (by simp) ⟨rfl, rfl, rfl⟩ (by simp [VObj.may])
              (fun hst => ⟨b, rfl, mb, (hrm.step hd.1).step hst, by simp [World.setBlock, c6, hlt, q4]⟩)
            refine OpS.value (v := .tuple #[.bool true, e.key, e.val]) (hrun ?_) hk (tup3 ((q2.step hd.1).step h3.1) ((q3.step hd.1).step h3.1)) h3.2 (hd.1.trans h3.1)
            rw [hci]; simp [hset]
      · exact hk.elim
    · exact hk.elim
  · exact hk.elim

theorem s_entry [Glob] {x : Operand} {x' : VA} (ho : o.op = .entry x) (hx : cA x = some x') (hf : FrameRep w σ β env a) (hs : Sim σ β w) (hk : vEntry (va env x') σ K) : OpS P o a σ β w K := by
  have h1 := hf.eval hx
  unfold vEntry at hk
  generalize hc0 : va env x' = c0 at *
  generalize he : a.eval x = ex at *
  split at hk
  · rename_i id g
    split at hk
    · rename_i m mg since last seen hg
      have hg' := vGet_some hg
      split at hk
      · rename_i es clock hgm
        obtain ⟨rfl, hk⟩ := hk
        split at hk
        · rename_i bn hbn
          split at hk
          · rename_i k v bq hfd
            cases h1 with
            | staleit _ _ g' o' p h5 h6 => rw [hg'] at h5; cases h5; omega
            | siter _ _ b s0 pos0 h5 hb => rw [hg'] at h5; cases h5
            | miter _ _ b m' mg' since' stepped' seen' h5 hb =>
              rw [hg'] at h5; cases h5
              obtain ⟨b', e, mb, hrm, hh⟩ := hs.obj id g _ hg'
              rw [hb] at e; cases e
              obtain ⟨bb, ms, e1, hbm, hhm, hents⟩ := map_at hs hgm hrm
              cases e1
              have hget : (getObj b).run P w = .ok (.mapIter (some mb) since seen.toArray last) w := by simp [getObj, Sem.run, hh]
              have hgetm : (getObj mb).run P w = .ok (.map ms last) w := run_getObj' hhm
              have key : ∀ (es : Ents) (ms : List MapEntry), EntsRep w σ β es ms → es.find? (fun e => e.2.2 == bn) = some (k, v, bq) → ∃ m, ms.find? (fun e => e.born == bn) = some m ∧ Rep w σ β k m.key ∧ Rep w σ β v m.val := by
                intro es
                induction es with
                | nil => intro ms _ h; cases h
                | cons e es ih =>
                  intro ms hr h
                  cases ms with
                  | nil => simp [EntsRep] at hr
                  | cons m ms =>
                    obtain ⟨r1, r2, r3⟩ := hr.2 0 e m rfl rfl
                    by_cases hq : (m.born == bn) = true
                    · have hq' : (e.2.2 == bn) = true := by rw [r3]; exact hq
                      rw [List.find?_cons, hq'] at h
                      cases h
                      exact ⟨m, by rw [List.find?_cons, hq], r1, r2⟩
                    · have hq1 : (m.born == bn) = false := by simpa using hq
                      have hq' : (e.2.2 == bn) = false := by rw [r3]; exact hq1
                      rw [List.find?_cons, hq'] at h
                      obtain ⟨m', q1, q2⟩ := ih ms ⟨by simpa using hr.1, fun i e' m' h3 h4 => hr.2 (i + 1) e' m' (by simpa using h3) (by simpa using h4)⟩ h
                      exact ⟨m', by rw [List.find?_cons, hq1]; exact q1, q2⟩
              obtain ⟨me, q1, q2, q3⟩ := key es ms.toList hents hfd
              have hbk : seen.toArray.back? = some bn := by simpa using hbn
              have hq : ms.find? (fun e => e.born == bn) = some me := by rw [← Array.find?_toList]; exact q1
              refine OpS.value (v := .tuple #[me.key, me.val]) (w' := w) ?_ hk (tup2 q2 q3) hs (Step.refl _ _ _)
              simp only [execOp, ho, he, Instr.entry, Sem.run_bind, hget, Result.andThen_ok, hbk, hgetm, hq]
              simp
          · exact hk.elim
        · exact hk.elim
      · exact hk.elim
    · exact hk.elim
  · exact hk.elim

end
end Go.V
