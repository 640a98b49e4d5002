/- Slices: read, indexed, cut; lengths. -/
import Derived.Test.YtdkjcadffhnjgaaDoorV6
namespace Go.V
open Go

/-- The elements that a slice shows. -/
def rd (σ : VHeap) : PV → Option (List (List PV))
  | .sl es => some es
  | .nils => some []
  | .row id g => match vGet σ id g with
    | some (.row _ es _) => some es
    | _ => none
  | .bview id g off len => match vGet σ id g with
    | some (.box cs _) => some (((cs.drop off).take len).map fun c => [c])
    | _ => none
  | .rview id g lo len => match vGet σ id g with
    | some (.row _ es _) => some ((es.drop lo).take len)
    | _ => none
  | .slr es _ _ => some es
  | _ => none

def vLen (x : PV) (σ : VHeap) (K : KP) : Prop :=
  match rd σ x with
  | some es => K (.int .i64 es.length) σ
  | none => False
def vLenStr (x : PV) (σ : VHeap) (K : KP) : Prop :=
  match x with
  | .str s => K (.int .i64 s.length) σ
  | _ => False
def vIndex (sz : Nat) (x i : PV) (σ : VHeap) (K : KP) : Prop :=
  match x, i with
  | .sl es, .int _ i => 0 ≤ i ∧ match es[i.toNat]? with | some e => e.length = sz ∧ K (.iptr e 0) σ | none => False
  | .row id g, .int _ i => match vGet σ id g with
    | some (.row s es _) => s = sz ∧ 0 ≤ i ∧ i < es.length ∧ K (.rptr id g i.toNat 0) σ
    | _ => False
  | .bview id g off len, .int _ i => sz = 1 ∧ (∃ o, vGet σ id g = some o) ∧ 0 ≤ i ∧ i < len ∧ K (.ptr id g (off + i.toNat)) σ
  | _, _ => False
def vIndexArr (n sz : Nat) (x i : PV) (σ : VHeap) (K : KP) : Prop :=
  match i with
  | .int _ i => 0 ≤ i ∧ i < n ∧ vField (i.toNat * sz) x σ K
  | _ => False
def vIndexStr (x i : PV) (σ : VHeap) (K : KP) : Prop :=
  match x, i with
  | .str s, .int _ i => 0 ≤ i ∧ match s[i.toNat]? with | some b => K (.int .u8 b.toNat) σ | none => False
  | _, _ => False
def vIndexAgg (n sz : Nat) (r : Option Nat) (x i : PV) (σ : VHeap) (K : KP) : Prop :=
  match x, i with
  | .agg cs, .int _ i => 0 ≤ i ∧ i < n ∧ match cut cs (i.toNat * sz) r with | some c => K c σ | none => False
  | _, _ => False
def vFieldVal (off : Nat) (r : Option Nat) (x : PV) (σ : VHeap) (K : KP) : Prop :=
  match x with
  | .agg cs => match cut cs off r with | some c => K c σ | none => False
  | _ => False

section
variable {P : Program} {o : Oper} {a : Act} {σ : VHeap} {β : Beta} {w : World} {env : Env} {K : KP}

theorem arr_getD {arr : Array Value} {i : Nat} (h : i < arr.size) : arr[i]? = some (arr.getD i default) := by
  rw [Array.getElem?_eq_getElem h, Array.getD_eq_getD_getElem?, Array.getElem?_eq_getElem h]; rfl
theorem mul_in {i j n s : Nat} (hi : i < n) (hj : j < s) : i * s + j < n * s := by
  have : (i + 1) * s ≤ n * s := Nat.mul_le_mul_right _ hi
  rw [Nat.add_mul] at this; omega

/-- What is read lies there. -/
theorem rd_rep [Glob] (hs : Sim σ β w) {x : PV} {v : Value} (hr : Rep w σ β x v) {es : List (List PV)} (h : rd σ x = some es) :
    ∃ (ad : Option Addr) (c sz : Nat) (f : Nat → Value), v = .slice ad es.length c ∧ es.length ≤ c ∧ (∀ e, e ∈ es → e.length = sz) ∧ (0 < es.length → ∃ a0, ad = some a0 ∧ ∀ j, j < es.length * sz → w.cell? (a0.add j) = some (f j)) ∧
      ∀ (i : Nat) (e : List PV) (j : Nat) (c : PV), es[i]? = some e → e[j]? = some c → Rep w σ β c (f (i * sz + j)) := by
  cases x <;> simp only [rd] at h <;> first | (cases h; done) | skip
  · cases h
    cases hr with
    | sl _ sz n cap ad f hn hcap hsz ha hr =>
      subst hn
      exact ⟨ad, cap, sz, f, rfl, hcap, hsz, fun h0 => let ⟨a0, e0, hst⟩ := ha h0; ⟨a0, e0, fun j hj => (hst j hj).1⟩, hr⟩
  · cases h
    cases hr
    exact ⟨none, 0, 0, fun _ => default, rfl, Nat.le_refl _, by simp, by simp, by simp⟩
  · rename_i id g
    split at h
    · rename_i s es' fz hg
      cases h
      have hg' := vGet_some hg
      cases hr with
      | stalerow _ _ g' o' p n c h5 h6 => rw [hg'] at h5; cases h5; omega
      | rownil _ _ sz fz' ad h5 hb =>
        rw [hg'] at h5; cases h5
        exact ⟨ad, 0, 0, fun _ => default, rfl, Nat.le_refl _, by simp, by simp, by simp⟩
      | row _ _ b sz cap es2 fz' arr ty fr h5 hb hh hc hsz =>
        rw [hg'] at h5; cases h5
        rcases hs.obj id g _ hg' with ⟨e, _⟩ | ⟨b', arr', e, hcl, hle, hel, hre⟩
        · rw [hb] at e; cases e
        · rw [hb] at e; cases e
          refine ⟨_, cap, s, fun j => arr'.getD j default, rfl, hc, hel, fun _ => ⟨_, rfl, fun j hj => ?_⟩, fun i e j c h2 h3 => ?_⟩
          · rw [add_mk, Nat.zero_add, hcl.cell, arr_getD (by omega)]
          · have h5 : j < s := by rw [← hel e (List.mem_of_getElem? h2)]; exact (List.getElem?_eq_some_iff.1 h3).1
            have := mul_in (List.getElem?_eq_some_iff.1 h2).1 h5
            exact hre i e j c _ h2 h3 (arr_getD (by omega))
    · cases h
  · rename_i id g off len
    split at h
    · rename_i cs fz hg
      cases h
      have hg' := vGet_some hg
      cases hr with
      | stalebv _ _ _ _ g' o' p n c h5 h6 => rw [hg'] at h5; cases h5; omega
      | bview _ _ _ _ b cap ad cs' fz' h5 hb hl hc ha =>
        rw [hg'] at h5; cases h5
        obtain ⟨b', arr, e, hcl, hle, hre⟩ := hs.obj id g _ hg'
        rw [hb] at e; cases e
        have hlen : (((cs.drop off).take len).map fun c => [c]).length = len := by simp; omega
        refine ⟨ad, cap, 1, fun j => arr.getD (off + j) default, by rw [hlen], by omega, (by intro e he; obtain ⟨c, _, rfl⟩ := List.mem_map.1 he; rfl), fun h0 => ⟨_, ha (by omega), fun j hj => ?_⟩, fun i e j c h2 h3 => ?_⟩
        · rw [add_mk, hcl.cell, arr_getD (by omega)]
        · rw [List.getElem?_map, List.getElem?_take] at h2
          split at h2
          · rw [List.getElem?_drop] at h2
            cases h4 : cs[off + i]? with
            | none => rw [h4] at h2; cases h2
            | some c0 =>
              rw [h4] at h2; cases h2
              have hj0 : j = 0 := by
                have := (List.getElem?_eq_some_iff.1 h3).1
                simp at this; omega
              subst hj0
              cases h3
              simp only [Nat.mul_one, Nat.add_zero]
              exact hre (off + i) _ _ h4 (arr_getD (by rw [← hle]; exact (List.getElem?_eq_some_iff.1 h4).1))
          · cases h2
    · cases h
  · rename_i id g lo len
    split at h
    · rename_i s es' fz hg
      cases h
      have hg' := vGet_some hg
      cases hr with
      | stalerv _ _ _ _ g' o' p n c h5 h6 => rw [hg'] at h5; cases h5; omega
      | rview _ _ _ _ cap sz ad es2 fz' h5 hl hc ha =>
        rw [hg'] at h5; cases h5
        by_cases h00 : len = 0
        · subst h00
          exact ⟨ad, cap, 0, fun _ => default, by simp, by simp, by simp, by simp, by simp⟩
        obtain ⟨b, hb, ha⟩ := ha (by omega)
        rcases hs.obj id g _ hg' with ⟨e, _⟩ | ⟨b', arr', e, hcl, hle, hel, hre⟩
        · rw [hb] at e; cases e
        · rw [hb] at e; cases e
          have hlen : ((es'.drop lo).take len).length = len := by simp; omega
          have hle2 : (lo + len) * s ≤ es'.length * s := Nat.mul_le_mul_right _ hl
          rw [Nat.add_mul] at hle2
          refine ⟨ad, cap, s, fun j => arr'.getD (lo * s + j) default, by rw [hlen], by omega, fun e he => hel e (List.mem_of_mem_drop (List.mem_of_mem_take he)), fun h0 => ⟨_, ha, fun j hj => ?_⟩, fun i e j c h2 h3 => ?_⟩
          · rw [hlen] at hj
            rw [add_mk, hcl.cell, arr_getD (by omega)]
          · rw [List.getElem?_take] at h2
            split at h2
            · rename_i hi
              rw [List.getElem?_drop] at h2
              have h5 : j < s := by rw [← hel e (List.mem_of_getElem? h2)]; exact (List.getElem?_eq_some_iff.1 h3).1
              have h6 := mul_in hi h5
              refine hre (lo + i) e j c _ h2 h3 ?_
              rw [Nat.add_mul, Nat.add_assoc]
              exact arr_getD (by omega)
            · cases h2
    · cases h
  · cases h
    cases hr with
    | slr _ _ _ _ h1 h2 =>
      cases h1 with
      | sl _ sz n cap ad f hn hcap hsz ha hr =>
        subst hn
        exact ⟨ad, cap, sz, f, rfl, hcap, hsz, fun h0 => let ⟨a0, e0, hst⟩ := ha h0; ⟨a0, e0, fun j hj => (hst j hj).1⟩, hr⟩

theorem run_underlying' {t : TypeId} {d : TypeDesc} (h : P.underlying t = some d) (w : World) : (underlying t).run P w = .ok d w := by simp [underlying, program, Sem.run, h]

theorem run_call_builtin {b : Builtin} {args : Array Operand} {ts : Array TypeId} (ho : o.op = .call { callee := .builtin b, args, argTypes := ts }) {r : Result Next}
    (h : (builtin b ts o.type (args.map fun | .const _ => true | _ => false) (args.map a.eval)).run P w = r) : (execOp a.eval o).run P w = r := by
  rw [← h]; simp [execOp, ho, resolve, invoke]; rfl

theorem s_len [Glob] {x : Operand} {x' : VA} {t e : TypeId} (ho : o.op = .call { callee := .builtin .len, args := #[x], argTypes := #[t] }) (hu : P.underlying t = some (.slice e)) (hx : cA x = some x')
    (hf : FrameRep w σ β env a) (hs : Sim σ β w) (hk : vLen (va env x') σ K) : OpS P o a σ β w K := by
  have h1 := hf.eval hx
  unfold vLen at hk
  split at hk
  · rename_i es hes
    obtain ⟨ad, c, sz, f, hv, _⟩ := rd_rep hs h1 hes
    refine OpS.value (v := .int .i64 es.length) (w' := w) (run_call_builtin ho ?_) hk (.int _ _) hs (Step.refl _ _ _)
    simp [builtin, Builtin.len_, hv, run_underlying' hu, goInt]
  · exact hk.elim

theorem s_lenStr [Glob] {x : Operand} {x' : VA} {t : TypeId} (ho : o.op = .call { callee := .builtin .len, args := #[x], argTypes := #[t] }) (hu : P.underlying t = some .string) (hx : cA x = some x')
    (hf : FrameRep w σ β env a) (hs : Sim σ β w) (hk : vLenStr (va env x') σ K) : OpS P o a σ β w K := by
  have h1 := hf.eval hx
  generalize he : a.eval x = ex at *
  unfold vLenStr at hk
  split at hk
  · rename_i s hes
    rw [hes] at h1
    cases h1 with
    | str s =>
      refine OpS.value (v := .int .i64 s.size) (w' := w) (run_call_builtin ho ?_) hk ?_ hs (Step.refl _ _ _)
      · simp [builtin, Builtin.len_, he, run_underlying' hu, goInt]
      · have : s.data.toList.length = s.size := by simp
        rw [this]; exact .int _ _
  · exact hk.elim

theorem run_sizeOf {t : TypeId} {sz : Nat} (h : sizeT P t = some sz) (w : World) : (sizeOf t).run P w = .ok sz w := by
  unfold sizeT at h
  cases hi : P.info? t with
  | none => rw [hi] at h; simp at h
  | some i => rw [hi] at h; simp at h; simp [sizeOf, typeInfo, program, Sem.run, hi, h]

theorem s_index [Glob] {t e : TypeId} {x i : Operand} {x' i' : VA} {sz : Nat} (ho : o.op = .indexAddr t x i) (hu : P.underlying t = some (.slice e)) (hsz : sizeT P e = some sz) (hx : cA x = some x') (hi : cA i = some i')
    (hf : FrameRep w σ β env a) (hs : Sim σ β w) (hk : vIndex sz (va env x') (va env i') σ K) : OpS P o a σ β w K := by
  have h1 := hf.eval hx
  have h2 := hf.eval hi
  have run : ∀ {ad : Addr} {n c : Nat} {k : IntKind} {j : Int}, a.eval x = .slice (some ad) n c → a.eval i = .int k j → 0 ≤ j → j < n →
      (execOp a.eval o).run P w = .ok (.value (.pointer (some (ad.add (j.toNat * sz))))) w := by
    intro ad n c k j e1 e2 h0 h1
    simp [execOp, ho, e1, e2, Instr.indexAt, asIntOf, run_underlying' hu, h0, h1, run_sizeOf hsz]
  generalize hc0 : va env x' = c0 at *
  generalize hc1 : va env i' = c1 at *
  generalize he : a.eval x = ex at *
  generalize hei : a.eval i = ei at *
  unfold vIndex at hk
  split at hk
  · rename_i es k j
    obtain ⟨hj0, hk⟩ := hk
    split at hk
    · rename_i el hel
      obtain ⟨hl, hk⟩ := hk
      cases h2
      have hlt := (List.getElem?_eq_some_iff.1 hel).1
      cases h1 with
      | sl _ sz' n cap ad f hn hcap hsz' ha hr =>
        obtain ⟨a0, rfl, hst⟩ := ha (by omega)
        have hss : sz = sz' := by rw [← hl]; exact hsz' el (List.mem_of_getElem? hel)
        subst hss
        refine OpS.value (run rfl rfl hj0 (by omega)) hk (.iptr el 0 _ (a0.add (j.toNat * sz)) (fun q => f (j.toNat * sz + q)) (by rw [add_zero]) (fun q hq => ?_) (fun q c hq => hr _ el q c hel hq)) hs (Step.refl _ _ _)
        rw [add_add, add_block]
        exact hst _ (mul_in (by omega) (by omega))
    · exact hk.elim
  · rename_i id g k j
    split at hk
    · rename_i s es fz hg
      obtain ⟨hss, hj0, hlt, hk⟩ := hk
      subst hss
      have hg' := vGet_some hg
      cases h2
      cases h1 with
      | stalerow _ _ g' o' p n c h5 h6 => rw [hg'] at h5; cases h5; omega
      | rownil _ _ sz fz' ad h5 hb => rw [hg'] at h5; cases h5; simp at hlt; omega
      | row _ _ b sz cap es2 fz' arr ty fr h5 hb hh hc hsz =>
        rw [hg'] at h5; cases h5
        refine OpS.value (run rfl rfl hj0 hlt) hk ?_ hs (Step.refl _ _ _)
        rw [add_mk, Nat.zero_add]
        exact .rptr id g j.toNat 0 b s es fz hg' hb
    · exact hk.elim
  · rename_i id g off len k j
    obtain ⟨hss, ⟨o', hg⟩, hj0, hlt, hk⟩ := hk
    subst hss
    have hg' := vGet_some hg
    cases h2
    cases h1 with
    | stalebv _ _ _ _ g' o' p n c h5 h6 => rw [hg'] at h5; cases h5; omega
    | bview _ _ _ _ b cap ad cs' fz' h5 hb hl hc ha =>
      have := ha (by omega)
      subst this
      refine OpS.value (run rfl rfl hj0 hlt) hk ?_ hs (Step.refl _ _ _)
      rw [add_mk, Nat.mul_one]
      exact .ptr id g _ b cs' fz' h5 hb
  · exact hk.elim

theorem s_indexArr [Glob] {t e : TypeId} {x i : Operand} {x' i' : VA} {n sz : Nat} (ho : o.op = .indexAddr t x i) (hu : P.underlying t = some (.array n e)) (hsz : sizeT P e = some sz) (hx : cA x = some x') (hi : cA i = some i')
    (hf : FrameRep w σ β env a) (hs : Sim σ β w) (hk : vIndexArr n sz (va env x') (va env i') σ K) : OpS P o a σ β w K := by
  have h1 := hf.eval hx
  have h2 := hf.eval hi
  generalize hc1 : va env i' = c1 at *
  generalize hei : a.eval i = ei at *
  unfold vIndexArr at hk
  split at hk
  · rename_i k j
    obtain ⟨h0, hlt, hk⟩ := hk
    cases h2
    have run : ∀ {ad : Addr}, a.eval x = .pointer (some ad) → (execOp a.eval o).run P w = .ok (.value (.pointer (some (ad.add (j.toNat * sz))))) w := by
      intro ad e1
      simp [execOp, ho, e1, hei, Instr.indexAt, asIntOf, run_underlying' hu, h0, hlt, run_sizeOf hsz, Instr.sureAddr]
    generalize hc0 : va env x' = c0 at *
    generalize he : a.eval x = ex at *
    unfold vField at hk
    split at hk
    · rename_i id g o0
      obtain ⟨⟨o', hg⟩, hk⟩ := hk
      cases h1 with
      | stalep _ _ _ g' o' p h5 h6 => rw [vGet_some hg] at h5; cases h5; omega
      | ptr _ _ _ b cs' fz' h5 hb => exact OpS.value (run rfl) hk (by rw [add_mk]; exact .ptr id g _ b cs' fz' h5 hb) hs (Step.refl _ _ _)
    · rename_i id g i o0
      obtain ⟨⟨o', hg⟩, hk⟩ := hk
      cases h1 with
      | stalerp _ _ _ _ g' o' p h5 h6 => rw [vGet_some hg] at h5; cases h5; omega
      | rptr _ _ _ _ b sz' es' fz' h5 hb => exact OpS.value (run rfl) hk (by rw [add_mk, Nat.add_assoc]; exact .rptr id g i _ b sz' es' fz' h5 hb) hs (Step.refl _ _ _)
    · rename_i cs o0
      cases h1 with
      | iptr _ _ ad a0 f ha hst hr => exact OpS.value (run rfl) hk (.iptr cs _ _ a0 f (by rw [ha, add_add]) hst hr) hs (Step.refl _ _ _)
    · exact hk.elim
  · exact hk.elim

theorem s_indexStr [Glob] {t : TypeId} {x i : Operand} {x' i' : VA} (ho : o.op = .index t x i) (hu : P.underlying t = some .string) (hx : cA x = some x') (hi : cA i = some i')
    (hf : FrameRep w σ β env a) (hs : Sim σ β w) (hk : vIndexStr (va env x') (va env i') σ K) : OpS P o a σ β w K := by
  have h1 := hf.eval hx
  have h2 := hf.eval hi
  generalize hc0 : va env x' = c0 at *
  generalize hc1 : va env i' = c1 at *
  generalize he : a.eval x = ex at *
  generalize hei : a.eval i = ei at *
  unfold vIndexStr at hk
  split at hk
  · rename_i s k j
    obtain ⟨h0, hk⟩ := hk
    split at hk
    · rename_i b hb
      cases h1 with
      | str s =>
        cases h2
        have hlt : j.toNat < s.size := by have := (List.getElem?_eq_some_iff.1 hb).1; simpa using this
        have hb2 : s[j.toNat]? = some b := by
          rw [getElem?_pos s j.toNat hlt]
          have := (List.getElem?_eq_some_iff.1 hb).2
          rw [← this]; simp; rfl
        refine OpS.value (v := .int .u8 b.toNat) (w' := w) ?_ hk (.int _ _) hs (Step.refl _ _ _)
        simp [execOp, ho, he, hei, Instr.index, asIntOf, run_underlying' hu, h0, hb2]
    · exact hk.elim
  · exact hk.elim

theorem run_part [Glob] {t : TypeId} {r : Option Nat} (h : loadSz P t = some r) {cs : List PV} {vs : Array Value} (hl : cs.length = vs.size) (hr : ∀ (i : Nat) (c : PV) (v : Value), cs[i]? = some c → vs[i]? = some v → Rep w σ β c v)
    {off : Nat} {c : PV} (hc : cut cs off r = some c) : ∃ v, (∀ w, (part t vs off).run P w = .ok v w) ∧ Rep w σ β c v := by
  unfold loadSz at h
  cases hb : isAggT P t with
  | none => rw [hb] at h; simp at h
  | some b =>
    rw [hb] at h
    have hra := run_isAgg hb
    cases b with
    | false =>
      simp at h; subst h
      simp only [cut] at hc
      have hlt : off < vs.size := by rw [← hl]; exact (List.getElem?_eq_some_iff.1 hc).1
      have h3 : vs[off]? = some vs[off] := Array.getElem?_eq_getElem hlt
      exact ⟨vs[off], fun w => by simp [part, hra, hlt], hr off c _ hc h3⟩
    | true =>
      simp at h
      obtain ⟨i, hi, h⟩ := h; subst h
      simp only [cut] at hc
      split at hc
      · rename_i hle
        cases hc
        refine ⟨.agg (vs.extract off (off + i.size)), fun w => by simp [part, hra, run_sizeOf (P := P) (t := t) (sz := i.size) (by simp [sizeT, hi])], .agg _ _ (by simp; omega) fun j c v h1 h2 => ?_⟩
        rw [List.getElem?_take] at h1
        split at h1
        · rename_i hj
          rw [List.getElem?_drop] at h1
          rw [Array.getElem?_extract] at h2
          split at h2
          · exact hr _ c v h1 h2
          · cases h2
        · cases h1
      · cases hc

theorem s_indexAgg [Glob] {t e : TypeId} {x i : Operand} {x' i' : VA} {n sz : Nat} {r : Option Nat} (ho : o.op = .index t x i) (hu : P.underlying t = some (.array n e)) (hsz : sizeT P e = some sz) (hld : loadSz P e = some r)
    (hx : cA x = some x') (hi : cA i = some i') (hf : FrameRep w σ β env a) (hs : Sim σ β w) (hk : vIndexAgg n sz r (va env x') (va env i') σ K) : OpS P o a σ β w K := by
  have h1 := hf.eval hx
  have h2 := hf.eval hi
  generalize hc0 : va env x' = c0 at *
  generalize hc1 : va env i' = c1 at *
  generalize he : a.eval x = ex at *
  generalize hei : a.eval i = ei at *
  unfold vIndexAgg at hk
  split at hk
  · rename_i cs k j
    obtain ⟨h0, hlt, hk⟩ := hk
    split at hk
    · rename_i c hc
      cases h1 with
      | agg _ vs hl hr =>
        cases h2
        obtain ⟨v, hv, hrv⟩ := run_part hld hl hr hc
        refine OpS.value (v := v) (w' := w) ?_ hk hrv hs (Step.refl _ _ _)
        simp [execOp, ho, he, hei, Instr.index, asIntOf, run_underlying' hu, h0, hlt, run_sizeOf hsz, hv]
    · exact hk.elim
  · exact hk.elim

def fieldVal (P : Program) (s : TypeId) (k : Nat) : Option (Nat × Option Nat) :=
  match P.underlying s with
  | some (.struct fs) => match fs[k]? with
    | some f => (loadSz P f.type).map fun r => (f.offset, r)
    | none => none
  | _ => none

theorem s_fieldVal [Glob] {t : TypeId} {x : Operand} {x' : VA} {k off : Nat} {r : Option Nat} (ho : o.op = .field t x k) (hfv : fieldVal P t k = some (off, r)) (hx : cA x = some x') (hf : FrameRep w σ β env a) (hs : Sim σ β w)
    (hk : vFieldVal off r (va env x') σ K) : OpS P o a σ β w K := by
  have h1 := hf.eval hx
  generalize hc0 : va env x' = c0 at *
  generalize he : a.eval x = ex at *
  unfold fieldVal at hfv
  split at hfv
  · rename_i fs hu
    split at hfv
    · rename_i f hfk
      cases hld : loadSz P f.type with
      | none => rw [hld] at hfv; simp at hfv
      | some r' =>
        rw [hld] at hfv; simp at hfv
        obtain ⟨rfl, rfl⟩ := hfv
        unfold vFieldVal at hk
        split at hk
        · rename_i cs
          split at hk
          · rename_i c hc
            cases h1 with
            | agg _ vs hl hr =>
              obtain ⟨v, hv, hrv⟩ := run_part hld hl hr hc
              refine OpS.value (v := v) (w' := w) ?_ hk hrv hs (Step.refl _ _ _)
              simp [execOp, ho, he, Instr.field, run_underlying' hu, hfk, asAgg, hv]
          · exact hk.elim
        · exact hk.elim
    · cases hfv
  · cases hfv

end
end Go.V
