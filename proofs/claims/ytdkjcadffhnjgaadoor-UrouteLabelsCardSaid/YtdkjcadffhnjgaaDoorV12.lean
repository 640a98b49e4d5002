/- Maps. -/
import Derived.Test.YtdkjcadffhnjgaaDoorV11
import Derived.Laws.StructEq
namespace Go.V
open Go

abbrev Ents := List (PV × PV × Nat)
def keyEq : PV → PV → Option Bool
  | .str a, .str b => some (a == b)
  | .int k a, .int k' b => if k = k' then some (a == b) else none
  | _, _ => none
/-- Where a key is, and what is there. -/
def look (k : PV) : Ents → Option (Option (Nat × PV × Nat))
  | [] => some none
  | e :: es => match keyEq k e.1 with
    | some true => some (some (0, e.2.1, e.2.2))
    | some false => (look k es).map fun r => r.map fun x => (x.1 + 1, x.2)
    | none => none
/-- A map's keys are texts (true) or numbers; its elements' type. -/
def keyT (P : Program) (t : TypeId) : Option (Bool × TypeId) :=
  match P.underlying t with
  | some (.map k e) => match P.underlying k with
    | some .string => some (true, e)
    | some (.int _) => some (false, e)
    | _ => none
  | _ => none
def keyV (b : Bool) : PV → Bool
  | .str _ => b
  | .int _ _ => !b
  | _ => false
def zeroV (P : Program) (t : TypeId) : Option PV :=
  match (P.info? t).bind (·.zero) with
  | some (.agg cs) => (cs.toList.mapM cpv).map .agg
  | some z => cpv z
  | none => none

def vMakeMap (id : Nat) (σ : VHeap) (K : KP) : Prop := vNew id (.map [] 0) σ fun g σ => K (.map id g) σ
def withMap (x : PV) (σ : VHeap) (K : Nat → Nat → Ents → Nat → Prop) : Prop :=
  match x with
  | .map id g => match vGet σ id g with
    | some (.map es clock) => K id g es clock
    | _ => False
  | _ => False
def vLookup (b : Bool) (zero : PV) (ok : Bool) (x k : PV) (σ : VHeap) (K : KP) : Prop :=
  keyV b k = true ∧ withMap x σ fun _ _ es _ => match look k es with
    | some (some (_, v, _)) => K (if ok then .tup [v, .bool true] else v) σ
    | some none => K (if ok then .tup [zero, .bool false] else zero) σ
    | none => False
def vMapUpdate (b : Bool) (x k v : PV) (σ : VHeap) (K : KP) : Prop :=
  keyV b k = true ∧ withMap x (frz σ v) fun id g es clock => match look k es with
    | some (some (i, _, born)) => K .undef ((frz σ v).set id (g, .map (es.set i (k, inl σ v, born)) clock))
    | some none => K .undef ((frz σ v).set id (g, .map (es ++ [(k, inl σ v, clock)]) (clock + 1)))
    | none => False
def vDelete (b : Bool) (x k : PV) (σ : VHeap) (K : KP) : Prop :=
  keyV b k = true ∧ withMap x σ fun id g es clock => match look k es with
    | some (some (i, _, _)) => K (.tup []) (σ.set id (g, .map (es.eraseIdx i) clock))
    | some none => K (.tup []) (σ.set id (g, .map es clock))
    | none => False
def vMapLen (x : PV) (σ : VHeap) (K : KP) : Prop := withMap x σ fun _ _ es _ => K (.int .i64 es.length) σ
def vMapClear (x : PV) (σ : VHeap) (K : KP) : Prop := withMap x σ fun id g _ clock => K (.tup []) (σ.set id (g, .map [] clock))

section
variable {P : Program} {o : Oper} {a : Act} {σ : VHeap} {β : Beta} {w : World} {env : Env} {K : KP}

theorem zeroV_ok [Glob] {t : TypeId} {c : PV} (h : zeroV P t = some c) : ∃ z, (∀ w, (zeroValue t).run P w = .ok z w) ∧ ∀ w σ β, Rep w σ β c z := by
  unfold zeroV at h
  cases hi : P.info? t with
  | none => rw [hi] at h; simp at h
  | some i =>
    rw [hi] at h
    cases hz : i.zero with
    | none => simp [hz] at h
    | some z =>
      have hrun : ∀ w, (zeroValue t).run P w = .ok z w := fun w => by simp [zeroValue, typeInfo, program, Sem.run, hi, hz]
      simp only [hz, Option.bind_some] at h
      refine ⟨z, hrun, fun w σ β => ?_⟩
      split at h
      · rename_i cs heq
        cases heq
        cases hm : cs.toList.mapM cpv with
        | none => rw [hm] at h; cases h
        | some l =>
          rw [hm] at h; cases h
          obtain ⟨h1, h2⟩ := mapM_some hm
          exact .agg _ _ (by simpa using h1) fun i c v h3 h4 => cpv_rep (h2 i v c (by simpa using h4) h3)
      · rename_i heq
        cases heq
        exact cpv_rep h
      · cases ‹some z = none›

/-- Entries that are represented. -/
def EntsRep (w : World) (σ : VHeap) (β : Beta) (es : Ents) (ms : List MapEntry) : Prop :=
  es.length = ms.length ∧ ∀ (i : Nat) (e : PV × PV × Nat) (m : MapEntry), es[i]? = some e → ms[i]? = some m → Rep w σ β e.1 m.key ∧ Rep w σ β e.2.1 m.val ∧ e.2.2 = m.born

theorem str_inv {l : List UInt8} {v : Value} (h : Rep w σ β (.str l) v) : ∃ s : ByteArray, v = .string s ∧ s.data.toList = l := by
  generalize hc : PV.str l = c at h
  cases h <;> cases hc
  exact ⟨_, rfl, rfl⟩

theorem keyEq_rep {b : Bool} {kind : TypeDesc} (hk : kind = .string ∧ b = true ∨ ∃ j, kind = .int j ∧ b = false) {c d : PV} {u v : Value} (hb : keyV b c = true) (h1 : Rep w σ β c u) (h2 : Rep w σ β d v) {r : Bool} (h : keyEq c d = some r) :
    Instr.sameNow kind u v = some r := by
  unfold keyEq at h
  split at h
  · cases h1; cases h2
    rename_i s1 s2
    rcases hk with ⟨rfl, rfl⟩ | ⟨j, rfl, rfl⟩
    · cases h
      simp only [Instr.sameNow, beq_toListBytes, ByteArray.toList_eq]
    · simp [keyV] at hb
  · cases h1; cases h2
    split at h
    · rename_i hkk
      cases h
      rcases hk with ⟨rfl, rfl⟩ | ⟨j, rfl, rfl⟩
      · simp [keyV] at hb
      · simp [Instr.sameNow, hkk]
    · cases h
  · cases h

theorem find_rep [Glob] {b : Bool} {kind : TypeDesc} (hk : kind = .string ∧ b = true ∨ ∃ j, kind = .int j ∧ b = false) {c : PV} {u : Value} (hb : keyV b c = true) (h1 : Rep w σ β c u) : ∀ (es : Ents) (ms : List MapEntry) (i0 : Nat) (r : Option (Nat × PV × Nat)),
    EntsRep w σ β es ms → look c es = some r → match r with
      | none => Instr.findNow kind u ms i0 = some none
      | some (i, v, bn) => ∃ m, ms[i]? = some m ∧ Instr.findNow kind u ms i0 = some (some (i0 + i, m.val)) ∧ Rep w σ β v m.val ∧ m.born = bn ∧ (∃ e, es[i]? = some e ∧ keyEq c e.1 = some true) := by
  intro es
  induction es with
  | nil =>
    intro ms i0 r he h
    cases h
    have : ms = [] := List.length_eq_zero_iff.1 he.1.symm
    subst this; rfl
  | cons e es ih =>
    intro ms i0 r he h
    cases ms with
    | nil => simp [EntsRep] at he
    | cons m ms =>
      obtain ⟨r1, r2, r3⟩ := he.2 0 e m rfl rfl
      have he' : EntsRep w σ β es ms := ⟨by simpa using he.1, fun i e' m' h3 h4 => he.2 (i + 1) e' m' (by simpa using h3) (by simpa using h4)⟩
      simp only [look] at h
      cases hq : keyEq c e.1 with
      | none => rw [hq] at h; cases h
      | some q =>
        have hs := keyEq_rep hk hb h1 r1 hq
        rw [hq] at h
        cases q with
        | true =>
          cases h
          exact ⟨m, rfl, by simp [Instr.findNow, hs], r2, r3.symm, e, rfl, hq⟩
        | false =>
          simp only [] at h
          cases hl : look c es with
          | none => rw [hl] at h; cases h
          | some r' =>
            have hi := ih ms (i0 + 1) r' he' hl
            rw [hl] at h
            cases r' with
            | none => cases h; simpa [Instr.findNow, hs] using hi
            | some x =>
              obtain ⟨i, v, bn⟩ := x
              cases h
              obtain ⟨m', g1, g2, g3, g4, e', g5, g6⟩ := hi
              refine ⟨m', by simpa using g1, ?_, g3, g4, e', by simpa using g5, g6⟩
              simp only [Instr.findNow, hs, g2]
              congr 3; omega

theorem keyT_ok {t e : TypeId} {b : Bool} (h : keyT P t = some (b, e)) : ∃ k kind, P.underlying t = some (.map k e) ∧ P.underlying k = some kind ∧ (kind = .string ∧ b = true ∨ ∃ j, kind = .int j ∧ b = false) := by
  unfold keyT at h
  split at h
  · rename_i k e' hu
    split at h
    · rename_i hk; cases h; exact ⟨k, _, hu, hk, .inl ⟨rfl, rfl⟩⟩
    · rename_i j hk; cases h; exact ⟨k, _, hu, hk, .inr ⟨j, rfl, rfl⟩⟩
    · cases h
  · cases h

theorem run_checkKey [Glob] {k : TypeId} {kind : TypeDesc} (h : P.underlying k = some kind) {b : Bool} (hk : kind = .string ∧ b = true ∨ ∃ j, kind = .int j ∧ b = false) (em : Bool) (n : Nat) (v : Value) (w : World) : (Instr.checkKey em (n + 1) k v).run P w = .ok () w := by
  rcases hk with ⟨rfl, rfl⟩ | ⟨j, rfl, rfl⟩ <;> simp [Instr.checkKey, run_underlying' h]

theorem run_findKey [Glob] {k : TypeId} {kind : TypeDesc} (h : P.underlying k = some kind) {v : Value} {ms : List MapEntry} {r : Option (Nat × Value)} (hf : Instr.findNow kind v ms 0 = some r) (w : World) : (Instr.findKey k v ms).run P w = .ok r w := by
  simp [Instr.findKey, run_underlying' h, hf]

/-- A map that is at hand. -/
theorem map_at (hs : Sim σ β w) {id g clock : Nat} {es : Ents} {v : Value} (hg : vGet σ id g = some (.map es clock)) (hr : Rep w σ β (.map id g) v) :
    ∃ b ms, v = .map (some b) ∧ β id = some b ∧ w.heap[b]? = some (.map ms clock) ∧ EntsRep w σ β es ms.toList := by
  have hg' := vGet_some hg
  cases hr with
  | stalemap _ _ g' o' p h5 h6 => rw [hg'] at h5; cases h5; omega
  | map _ _ b es' clock' h5 hb =>
    obtain ⟨b', ms, e, hh, hl, hre⟩ := hs.obj id g _ hg'
    rw [hb] at e; cases e
    exact ⟨b, ms, rfl, hb, hh, by simpa using hl, fun i e m h1 h2 => hre i e m h1 (by simpa using h2)⟩

theorem map_put (hs : Sim σ β w) {id g b clock clock' : Nat} {es es' : Ents} {ms ms' : Array MapEntry} (hg : vGet σ id g = some (.map es clock)) (hb : β id = some b) (hh : w.heap[b]? = some (.map ms clock)) (he : EntsRep w σ β es' ms'.toList) :
    Step σ β w (σ.set id (g, .map es' clock')) β (World.setBlock w b (.map ms' clock')) ∧ Sim (σ.set id (g, .map es' clock')) β (World.setBlock w b (.map ms' clock')) := by
  have hlt := (Array.getElem?_eq_some_iff.1 hh).1
  refine put_sim (o' := .map es' clock') (obj := .map ms clock) (obj' := .map ms' clock') hs (vGet_some hg) trivial hb rfl rfl rfl hh rfl trivial (fun i h => h) (fun i v hc => ?_) (fun arr ty fr e => by cases e) (fun hst => ?_)
  · simp [World.cell?, hh] at hc
  · refine ⟨b, ms', rfl, by simp [World.setBlock, hlt], by simpa using he.1, fun i e m h1 h2 => ?_⟩
    obtain ⟨r1, r2, r3⟩ := he.2 i e m h1 (by simpa using h2)
    exact ⟨r1.step hst, r2.step hst, r3⟩

theorem run_setObj {w : World} {b : Nat} {ms : Array MapEntry} {c : Nat} (hh : w.heap[b]? = some (.map ms c)) (o' : Obj) : (setObj b o').run P w = .ok () (World.setBlock w b o') := by
  simp [setObj, Sem.run, hh, World.setBlock]
theorem run_getObj' {w : World} {b : Nat} {ms : Array MapEntry} {c : Nat} (hh : w.heap[b]? = some (.map ms c)) : (getObj b).run P w = .ok (.map ms c) w := by
  simp [getObj, Sem.run, hh]

theorem s_makeMap [Glob] {t : TypeId} {id : Nat} (ho : o.op = .makeMap t none) (hs : Sim σ β w) (hk : vMakeMap id σ K) : OpS P o a σ β w K := by
  unfold vMakeMap vNew at hk
  split at hk
  · rename_i g o0 hid
    have h2 := alloc_sim (w' := w.alloc (.map #[] 0)) (obj := .map #[] 0) (o := .map [] 0) hs hid rfl rfl rfl rfl fun hst =>
      ⟨w.heap.size, #[], rfl, heap_alloc_new w _, rfl, fun i e m h => by simp at h⟩
    refine OpS.value (v := .map (some w.heap.size)) (w' := w.alloc (.map #[] 0)) (by simp [execOp, ho, Instr.makeMap, newObj, Sem.run]) hk (.map id (g + 1) w.heap.size [] 0 (set_same hid) (upd_same _ _ _)) h2.2 h2.1
  · exact hk.elim

theorem s_lookup [Glob] {t e : TypeId} {x k : Operand} {x' k' : VA} {b ok : Bool} {zero : PV} (ho : o.op = .lookup t x k ok) (ht : keyT P t = some (b, e)) (hz : zeroV P e = some zero) (hx : cA x = some x') (hk' : cA k = some k')
    (hf : FrameRep w σ β env a) (hs : Sim σ β w) (hk : vLookup b zero ok (va env x') (va env k') σ K) : OpS P o a σ β w K := by
  have h1 := hf.eval hx
  have h2 := hf.eval hk'
  obtain ⟨kt, kind, hu, hku, hkind⟩ := keyT_ok ht
  obtain ⟨z, z1, z2⟩ := zeroV_ok hz
  obtain ⟨hkv, hk⟩ := hk
  unfold withMap at hk
  generalize hc0 : va env x' = c0 at *
  split at hk
  · rename_i id g
    split at hk
    · rename_i es clock hg
      obtain ⟨bb, ms, e1, hb, hh, he⟩ := map_at hs hg h1
      cases hl : look (va env k') es with
      | none => rw [hl] at hk; exact hk.elim
      | some r =>
        rw [hl] at hk
        have hfnd := find_rep hkind hkv h2 es ms.toList 0 r he hl
        have tup : ∀ {c : PV} {v : Value} (q : Bool), Rep w σ β c v → Rep w σ β (.tup [c, .bool q]) (.tuple #[v, .bool q]) := by
          intro c v q hr
          refine .tup _ _ rfl fun i c' v' h3 h4 => ?_
          match i with
          | 0 => cases h3; cases h4; exact hr
          | 1 => cases h3; cases h4; exact .bool _
          | n + 2 => simp at h3
        cases r with
        | none =>
          simp only [] at hfnd
          refine OpS.value (v := if ok then .tuple #[z, .bool false] else z) (w' := w) ?_ hk ?_ hs (Step.refl _ _ _)
          · simp [execOp, ho, e1, Instr.lookup, run_underlying' hu, run_getObj' hh, run_checkKey hku hkind, run_findKey hku hfnd, z1]
          · cases ok
            · exact z2 w σ β
            · exact tup false (z2 w σ β)
        | some p =>
          obtain ⟨i, v, bn⟩ := p
          obtain ⟨m, g1, g2, g3, _⟩ := hfnd
          refine OpS.value (v := if ok then .tuple #[m.val, .bool true] else m.val) (w' := w) ?_ hk ?_ hs (Step.refl _ _ _)
          · simp [execOp, ho, e1, Instr.lookup, run_underlying' hu, run_getObj' hh, run_checkKey hku hkind, run_findKey hku g2]
          · cases ok
            · exact g3
            · exact tup true g3
    · exact hk.elim
  · exact hk.elim

theorem s_mapUpdate [Glob] {t e : TypeId} {x k v : Operand} {x' k' v' : VA} {b : Bool} (ho : o.op = .mapUpdate t x k v) (ht : keyT P t = some (b, e)) (hx : cA x = some x') (hk' : cA k = some k') (hv : cA v = some v')
    (hf : FrameRep w σ β env a) (hs : Sim σ β w) (hk : vMapUpdate b (va env x') (va env k') (va env v') σ K) : OpS P o a σ β w K := by
  obtain ⟨f1, f2, f3⟩ := frz_rep hs (hf.eval hv)
  refine OpS.pre f3 ?_
  have h1 := (hf.eval hx).step f3
  have h2 := (hf.eval hk').step f3
  obtain ⟨kt, kind, hu, hku, hkind⟩ := keyT_ok ht
  obtain ⟨hkv, hk⟩ := hk
  unfold withMap at hk
  generalize hc0 : va env x' = c0 at *
  split at hk
  · rename_i id g
    split at hk
    · rename_i es clock hg
      obtain ⟨bb, ms, e1, hb, hh, he⟩ := map_at f2 hg h1
      cases hl : look (va env k') es with
      | none => rw [hl] at hk; exact hk.elim
      | some r =>
        rw [hl] at hk
        have hfnd := find_rep hkind hkv h2 es ms.toList 0 r he hl
        cases r with
        | none =>
          simp only [] at hfnd
          have hp := map_put (es' := es ++ [(va env k', inl σ (va env v'), clock)]) (clock' := clock + 1) (ms' := ms.push { key := a.eval k, val := a.eval v, born := clock }) f2 hg hb hh (by
            refine ⟨by simp [he.1], fun i e' m h3 h4 => ?_⟩
            have hl' := he.1
            by_cases hi : i < es.length
            · rw [List.getElem?_append_left hi] at h3
              rw [Array.toList_push, List.getElem?_append_left (by omega)] at h4
              exact he.2 i e' m h3 h4
            · have hi2 : i = es.length := by
                have := (List.getElem?_eq_some_iff.1 h3).1
                simp at this; omega
              subst hi2
              rw [List.getElem?_append_right (Nat.le_refl _), Nat.sub_self] at h3
              rw [Array.toList_push, List.getElem?_append_right (by omega), hl', Nat.sub_self] at h4
              cases h3; cases h4
              exact ⟨h2, f1, rfl⟩)
          refine OpS.skip ?_ hk hp.2 hp.1
          simp [execOp, ho, e1, Instr.mapUpdate, run_underlying' hu, run_getObj' hh, run_checkKey hku hkind, run_findKey hku hfnd, run_setObj hh]
        | some p =>
          obtain ⟨i, v0, bn⟩ := p
          obtain ⟨m, g1, g2, g3, g4, e0, g5, g6⟩ := hfnd
          have hm : ms[i]? = some m := by simpa using g1
          have hkey : Rep w (frz σ (va env v')) β (va env k') m.key := by
            have := (he.2 i e0 m g5 g1).1
            unfold keyEq at g6
            split at g6
            · rename_i s1 s2 hq1 hq2
              rw [hq2] at this; rw [hq1]
              have e2 : s1 = s2 := by simpa using g6
              rw [e2]; exact this
            · rename_i k1 n1 k2 n2 hq1 hq2
              rw [hq2] at this; rw [hq1]
              split at g6
              · rename_i hkk
                have e2 : n1 = n2 := by simpa using g6
                rw [e2, hkk]; exact this
              · cases g6
            · cases g6
          have hstay : ∀ w, (Instr.keyThatStays m.key (a.eval k)).run P w = .ok (a.eval k) w := by
            intro w'
            have : Instr.sameBits 10000 m.key (a.eval k) = true := by
              generalize m.key = mk at hkey
              generalize a.eval k = ek at h2
              generalize va env k' = ck at hkey h2 hkv
              cases ck with
              | str l =>
                obtain ⟨s1, rfl, e1⟩ := str_inv hkey
                obtain ⟨s2, rfl, e2⟩ := str_inv h2
                simp [Instr.sameBits, beq_toListBytes, ByteArray.toList_eq, e1, e2]
              | int kk n => cases hkey; cases h2; simp [Instr.sameBits]
              | _ => simp [keyV] at hkv
            simp [Instr.keyThatStays, this]
          have hp := map_put (es' := es.set i (va env k', inl σ (va env v'), bn)) (clock' := clock) (ms' := ms.modify i fun e => { e with key := a.eval k, val := a.eval v }) f2 hg hb hh (by
            have hl' := he.1
            refine ⟨by simp at hl' ⊢; exact hl', fun j e' m' h3 h4 => ?_⟩
            rw [Array.getElem?_toList, Array.getElem?_modify] at h4
            by_cases hj : j = i
            · subst hj
              rw [List.getElem?_set_self (List.getElem?_eq_some_iff.1 g5).1] at h3
              rw [if_pos rfl, hm] at h4
              cases h3; cases h4
              exact ⟨h2, f1, g4.symm⟩
            · rw [List.getElem?_set_ne (Ne.symm hj)] at h3
              rw [if_neg (Ne.symm hj)] at h4
              exact he.2 j e' m' h3 (by simpa using h4))
          refine OpS.skip ?_ hk hp.2 hp.1
          simp [execOp, ho, e1, Instr.mapUpdate, run_underlying' hu, run_getObj' hh, run_checkKey hku hkind, run_findKey hku g2, hm, hstay, run_setObj hh]
    · exact hk.elim
  · exact hk.elim

end
end Go.V
