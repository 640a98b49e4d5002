/- More operations: views of rows, copy, make, the cut to nothing, cap, comparing bytes. -/
import Derived.Test.YtdkjcadffhnjgaaDoorVE
import Derived.Laws.MakeOwn
namespace Go.V
open Go

/-- A slice of a row of ours that may be written through. -/
def vSliceV (sz : Nat) (x : PV) (lo hi : Option PV) (σ : VHeap) (K : KP) : Prop :=
  match x with
  | .row id g => match vGet σ id g with
    | some (.row s es _) => match bound lo 0, bound hi es.length with
      | some l, some h => s = sz ∧ l ≤ h ∧ h ≤ es.length ∧ K (.rview id g l (h - l)) σ
      | _, _ => False
    | _ => False
  | .rview id g l0 len => match vGet σ id g with
    | some (.row s _ _) => match bound lo 0, bound hi len with
      | some l, some h => s = sz ∧ l ≤ h ∧ h ≤ len ∧ K (.rview id g (l0 + l) (h - l)) σ
      | _, _ => False
    | _ => False
  | _ => False
/-- A row over part of which another one is laid. -/
def ovl (es : List (List PV)) (lo len : Nat) (new : List (List PV)) : List (List PV) := es.take lo ++ new.take len ++ es.drop (lo + min new.length len)
def vCopyTo (sz : Nat) (d x : PV) (σ : VHeap) (K : KP) : Prop :=
  match rdA σ x with
  | some new => RowOk sz new ∧
    match d with
    | .bview id g off len => match vGet σ id g with
      | some (.box cs false) => sz = 1 ∧ off + len ≤ cs.length ∧ K (.int .i64 (min new.length len : Nat)) (σ.set id (g, .box (splice cs off ((new.take len).flatten)) false))
      | _ => False
    | .row id g => match vGet σ id g with
      | some (.row s es false) => s = sz ∧ K (.int .i64 (min new.length es.length : Nat)) (σ.set id (g, .row sz (ovl es 0 es.length new) false))
      | _ => False
    | .rview id g lo len => match vGet σ id g with
      | some (.row s es false) => s = sz ∧ lo + len ≤ es.length ∧ K (.int .i64 (min new.length len : Nat)) (σ.set id (g, .row sz (ovl es lo len new) false))
      | _ => False
    | .nils => K (.int .i64 0) σ
    | _ => False
  | none => False
def vMakeSlice (id sz bytes : Nat) (zero : List PV) (len cap : PV) (σ : VHeap) (K : KP) : Prop :=
  match len, cap with
  | .int _ l, .int _ c => 0 ≤ l ∧ l ≤ c ∧ c * bytes ≤ 140737488355328 ∧ c ≤ 140737488355328 ∧ vNew id (.row sz (List.replicate l.toNat zero) false) σ fun g σ => K (.row id g) σ
  | _, _ => False
/-- 's[:0:0]'. -/
def vClip (id sz : Nat) (x : PV) (σ : VHeap) (K : KP) : Prop := (∃ es, rd σ x = some es) ∧ vNew id (.row sz [] false) σ fun g σ => K (.row id g) σ

theorem flatten_get (sz : Nat) : ∀ (es : List (List PV)) (k : Nat), (∀ e, e ∈ es → e.length = sz) → k < es.length * sz → es.flatten[k]? = (es[k / sz]?).bind fun e => e[k % sz]? := by
  intro es
  induction es with
  | nil => intro k _ h; simp at h
  | cons e es ih =>
    intro k hel hk
    have h0 : e.length = sz := hel e (by simp)
    have hsz : 0 < sz := by
      rcases Nat.eq_zero_or_pos sz with h | h
      · subst h; simp at hk
      · exact h
    rw [List.flatten_cons]
    by_cases h : k < sz
    · rw [List.getElem?_append_left (by omega), Nat.div_eq_of_lt h, Nat.mod_eq_of_lt h]; rfl
    · rw [List.getElem?_append_right (by omega), h0, ih (k - sz) (fun e he => hel e (by simp [he])) (by simp [Nat.add_mul] at hk; omega)]
      have e1 : k / sz = (k - sz) / sz + 1 := by rw [← Nat.sub_add_cancel (Nat.not_lt.1 h), Nat.add_div_right _ hsz, Nat.sub_add_cancel (Nat.not_lt.1 h)]
      have e2 : k % sz = (k - sz) % sz := Nat.mod_eq_sub_mod (by omega)
      rw [e1, e2, List.getElem?_cons_succ]

section
variable {P : Program} {o : Oper} {a : Act} {σ : VHeap} {β : Beta} {w : World} {env : Env} {K : KP}

theorem s_sliceV [Glob] {t e : TypeId} {x : Operand} {x' : VA} {lo hi : Option Operand} {lo' hi' : Option VA} {sz : Nat} (ho : o.op = .slice t x lo hi none) (hu : P.underlying t = some (.slice e)) (hsz : sizeT P e = some sz) (hx : cA x = some x')
    (hlo : cAo lo = some lo') (hhi : cAo hi = some hi') (hf : FrameRep w σ β env a) (hs : Sim σ β w) (hk : vSliceV sz (va env x') (lo'.map (va env)) (hi'.map (va env)) σ K) : OpS P o a σ β w K := by
  have h1 := hf.eval hx
  have run : ∀ {ad : Option Addr} {n c l h : Nat}, a.eval x = .slice ad n c → n ≤ c → bound (lo'.map (va env)) 0 = some l → bound (hi'.map (va env)) n = some h → l ≤ h → h ≤ n →
      (execOp a.eval o).run P w = .ok (.value (.slice (if c = l then ad else ad.map (·.add (l * sz))) (h - l) (c - l))) w := by
    intro ad n c l h e0 hnc hl hh hlh hhn
    simp [execOp, ho, e0, Instr.sliceAt, Instr.slice, run_underlying' hu, run_bounds (P := P) (bound_eval hf hhi hh) (bound_eval hf hlo hl) hlh (by omega : h ≤ c), run_sizeOf hsz]
  generalize hc0 : va env x' = c0 at *
  generalize he : a.eval x = ex at *
  unfold vSliceV at hk
  split at hk
  · rename_i id g
    split at hk
    · rename_i s es fz hg
      split at hk
      · rename_i l h hl hh
        obtain ⟨hss, hlh, hhl, hk⟩ := hk
        subst hss
        have hg' := vGet_some hg
        cases h1 with
        | stalerow _ _ g' o' p n c h5 h6 => rw [hg'] at h5; cases h5; omega
        | rownil _ _ sz fz' ad h5 hb =>
          rw [hg'] at h5; cases h5
          simp only [List.length_nil] at hh hhl
          have hl0 : l = 0 := by omega
          have hh0 : h = 0 := by omega
          subst hl0; subst hh0
          refine OpS.value (v := .slice ad 0 0) (w' := w) (by rw [run rfl (Nat.le_refl _) hl hh (Nat.le_refl _) (Nat.le_refl _)]; simp) hk ?_ hs (Step.refl _ _ _)
          exact .rview id g 0 0 0 s ad [] fz hg' (by simp) (Nat.le_refl _) (by omega)
        | row _ _ b _ cap es2 fz' arr ty fr h5 hb hh' hc hsz =>
          rw [hg'] at h5; cases h5
          refine OpS.value (run rfl hc hl hh hlh hhl) hk (.rview id g l (h - l) _ s _ es fz hg' (by omega) (by omega) (fun h0 => ⟨b, hb, ?_⟩)) hs (Step.refl _ _ _)
          rw [if_neg (by omega), Option.map_some, add_mk, Nat.zero_add]
      · exact hk.elim
    · exact hk.elim
  · rename_i id g l0 len
    split at hk
    · rename_i s es fz hg
      split at hk
      · rename_i l h hl hh
        obtain ⟨hss, hlh, hhl, hk⟩ := hk
        subst hss
        have hg' := vGet_some hg
        cases h1 with
        | stalerv _ _ _ _ g' o' p n c h5 h6 => rw [hg'] at h5; cases h5; omega
        | rview _ _ _ _ cap _ ad es2 fz' h5 hle hc ha =>
          rw [hg'] at h5; cases h5
          refine OpS.value (run rfl hc hl hh hlh hhl) hk (.rview id g (l0 + l) (h - l) _ s _ es fz hg' (by omega) (by omega) (fun h0 => ?_)) hs (Step.refl _ _ _)
          obtain ⟨b, hb, ha⟩ := ha (by omega)
          refine ⟨b, hb, ?_⟩
          rw [if_neg (by omega), ha, Option.map_some, add_mk, Nat.add_mul]
      · exact hk.elim
    · exact hk.elim
  · exact hk.elim

theorem set_self {σ : VHeap} {id : Nat} {x : Nat × VObj} (h : σ[id]? = some x) : σ.set id x = σ := by
  apply List.ext_getElem?
  intro j
  rw [List.getElem?_set]
  split
  · rename_i e; subst e
    rw [if_pos (List.getElem?_eq_some_iff.1 h).1, h]
  · rfl
theorem setBlock_self {w : World} {b : Nat} {ob : Obj} (h : w.heap[b]? = some ob) : World.setBlock w b ob = w := by
  unfold World.setBlock
  have : w.heap.setIfInBounds b ob = w.heap := by
    apply Array.ext_getElem?; intro j; rw [Array.getElem?_setIfInBounds]
    split
    · rename_i e; subst e; rw [if_pos (Array.getElem?_eq_some_iff.1 h).1, h]
    · rfl
  rw [this]

/-- Cells of an object of ours are written. -/
theorem write_sim {id g b off : Nat} {ob ob' : VObj} {arr : Array Value} {us : List Value} (hs : Sim σ β w) (hid : σ[id]? = some (g, ob)) (hl : ob.live) (hb : β id = some b) (hcl : Cells w b arr) (hle : off + us.length ≤ arr.size) (hus : ∀ v, v ∈ us → celly v = true)
    (hal : ob.alike ob') (hmay : ∀ i, ob'.may i → ob.may i) (hno : ∀ j, j < arr.size → ¬ ob.may j → ¬ (off ≤ j ∧ j < off + us.length))
    (hor : ∀ w', Step σ β w (σ.set id (g, ob')) β w' → Cells w' b (wset arr off us) → ORep w' (σ.set id (g, ob')) β (some b) ob') :
    ∃ w', (storeCells ⟨b, off, none⟩ us 0).run P w = .ok () w' ∧ Step σ β w (σ.set id (g, ob')) β w' ∧ Sim (σ.set id (g, ob')) β w' := by
  obtain ⟨ty, fr, hc1, hc2⟩ := hcl
  have hrun := run_storeCells (P := P) us w arr off 0 hc1 (by omega) hc2 hus
  have hw : (if us = [] then w else World.setBlock w b (.cells (wset arr (off + 0) us) ty fr)) = World.setBlock w b (.cells (wset arr off us) ty fr) := by
    split
    · rename_i e; subst e; exact (setBlock_self hc1).symm
    · rfl
  rw [hw] at hrun
  have hlt := (Array.getElem?_eq_some_iff.1 hc1).1
  have hp := put_sim (w' := World.setBlock w b (.cells (wset arr off us) ty fr)) (o' := ob') (obj := .cells arr ty fr) (obj' := .cells (wset arr off us) ty fr) hs hid hl hb rfl rfl rfl hc1 rfl hal hmay (by
    intro j u hj hm
    simp only [World.cell?, hc1, World.setBlock, Array.getElem?_setIfInBounds_self_of_lt hlt] at hj ⊢
    simp at hj ⊢
    have hj2 := (Array.getElem?_eq_some_iff.1 hj).1
    rw [wset_get _ _ _ _ hle, if_neg (hno j hj2 hm)]
    exact hj) (fun arr' ty' fr' e => by cases e; exact ⟨_, rfl, wset_size _ _ _⟩)
    (fun hst => hor _ hst ⟨ty, fr, by simp [World.setBlock, hlt], by rw [wset_size]; exact hc2⟩)
  exact ⟨_, hrun, hp.1, hp.2⟩

theorem s_copy [Glob] {dt xt e : TypeId} {d x : Operand} {d' x' : VA} {sz : Nat} (ho : o.op = .call { callee := .builtin .copy, args := #[d, x], argTypes := #[dt, xt] }) (hu : P.underlying dt = some (.slice e)) (hsz : sizeT P e = some sz)
    (hd : cA d = some d') (hx : cA x = some x') (hf : FrameRep w σ β env a) (hs : Sim σ β w) (hk : vCopyTo sz (va env d') (va env x') σ K) : OpS P o a σ β w K := by
  have h1 := hf.eval hd
  have h2 := hf.eval hx
  unfold vCopyTo at hk
  split at hk
  case h_2 => exact hk.elim
  rename_i new hnew
  obtain ⟨hok, hk⟩ := hk
  obtain ⟨hlen, hcells⟩ := rdA_rep (P := P) hs h2 hnew (fun e he => (hok e he).1)
  have run : ∀ {ad : Option Addr} {n c : Nat} {arr : Array Value} {w' : World}, a.eval d = .slice ad n c → (Builtin.firstCells sz (min new.length n) (a.eval x)).run P w = .ok arr w →
      ((match ad with | some p => storeCells p arr.toList 0 | none => pure ()) : Sem Unit).run P w = .ok () w' → (execOp a.eval o).run P w = .ok (.value (.int .i64 (min new.length n : Nat))) w' := by
    intro ad n c arr w' he hc hst
    refine run_call_builtin ho ?_
    simp only [builtin, List.map_toArray, List.map_cons, List.map_nil, Sem.run_bind, he]
    have hm : Nat.min new.length n = min new.length n := rfl
    cases ad with
    | none =>
      simp at hst; subst hst
      simp [Builtin.copy_, run_underlying' hu, run_sizeOf hsz, hlen, hm, hc, goInt]
    | some p =>
      simp only [] at hst
      simp [Builtin.copy_, run_underlying' hu, run_sizeOf hsz, hlen, hm, hc, goInt, hst]
  have row : ∀ {id g lo len s cap : Nat} {es : List (List PV)} {ad : Option Addr}, vGet σ id g = some (.row s es false) → s = sz → lo + len ≤ es.length → a.eval d = .slice ad len cap → (0 < len → ∃ b, β id = some b ∧ ad = some ⟨b, lo * s, none⟩) →
      K (.int .i64 (min new.length len : Nat)) (σ.set id (g, .row sz (ovl es lo len new) false)) → OpS P o a σ β w K := by
    intro id g lo len s cap es ad hg hss hle he ha hk
    subst hss
    have hg' := vGet_some hg
    obtain ⟨arr, c1, c2, c3, c4⟩ := hcells (min new.length len) (Nat.min_le_left _ _)
    have c4 := c4 fun e he => (hok e he).2
    by_cases h0 : min new.length len = 0
    · have hov : ovl es lo len new = es := by
        unfold ovl
        have : new.take len = [] := by
          rcases Nat.eq_zero_or_pos len with h | h
          · rw [h, List.take_zero]
          · have : new = [] := List.length_eq_zero_iff.1 (by omega)
            rw [this, List.take_nil]
        rw [this, h0, List.append_nil, Nat.add_zero, List.take_append_drop]
      rw [hov, set_self hg', h0] at hk
      rw [h0] at c2
      have ha0 : arr = #[] := Array.eq_empty_of_size_eq_zero (by rw [c2]; simp)
      subst ha0
      refine OpS.value (v := .int .i64 ((0 : Nat) : Int)) (w' := w) ?_ hk (.int _ _) hs (Step.refl _ _ _)
      have := run (w' := w) he c1 (by cases ad <;> rfl)
      rw [h0] at this; exact this
    · obtain ⟨b, hb, rfl⟩ := ha (by omega)
      rcases hs.obj id g _ hg' with ⟨e, _⟩ | ⟨b', arr0, e, hcl, hle0, hel, hre⟩
      · rw [hb] at e; cases e
      · rw [hb] at e; cases e
        have hm1 : (lo + min new.length len) * s ≤ es.length * s := Nat.mul_le_mul_right _ (by omega)
        rw [Nat.add_mul] at hm1
        have hlen' : (ovl es lo len new).length = es.length := by unfold ovl; simp; omega
        have hl1 : (es.take lo).length = lo := by simp; omega
        have hl2 : (new.take len).length = min new.length len := by simp; omega
        obtain ⟨w', q1, q2, q3⟩ := write_sim (P := P) (ob' := .row s (ovl es lo len new) false) (us := arr.toList) (off := lo * s) hs hg' trivial hb hcl (by simp [c2]; omega) (by simpa using c4) ⟨rfl, hlen'.symm⟩ (fun i _ h => by cases h) (fun j _ h => absurd (fun h => by cases h) h) (fun w' hst hcl' => by
          refine .inr ⟨b, _, rfl, hcl', by rw [wset_size, hlen']; exact hle0, ?_, fun q e j c v h1 h2 h3 => ?_⟩
          · intro e he
            unfold ovl at he
            rcases List.mem_append.1 he with h | h
            · rcases List.mem_append.1 h with h | h
              · exact hel e (List.mem_of_mem_take h)
              · exact (hok e (List.mem_of_mem_take h)).1
            · exact hel e (List.mem_of_mem_drop h)
          · rw [wset_get _ _ _ _ (by simp [c2]; omega)] at h3
            unfold ovl at h1
            by_cases hq1 : q < lo
            · rw [List.append_assoc, List.getElem?_append_left (by omega), List.getElem?_take, if_pos hq1] at h1
              have h5 : j < s := by rw [← hel e (List.mem_of_getElem? h1)]; exact (List.getElem?_eq_some_iff.1 h2).1
              have := mul_in hq1 h5
              rw [if_neg (by omega)] at h3
              exact (hre q e j c v h1 h2 h3).step hst
            · by_cases hq2 : q < lo + min new.length len
              · rw [List.append_assoc, List.getElem?_append_right (by omega), List.getElem?_append_left (by omega), hl1, List.getElem?_take, if_pos (by omega)] at h1
                have h5 : j < s := by rw [← (hok e (List.mem_of_getElem? h1)).1]; exact (List.getElem?_eq_some_iff.1 h2).1
                have h6 := mul_in (show q - lo < min new.length len by omega) h5
                have h7 : q * s = lo * s + (q - lo) * s := by rw [← Nat.add_mul]; congr 1; omega
                rw [if_pos (by simp [c2]; omega)] at h3
                have h8 : q * s + j - lo * s = 0 + (q - lo) * s + j := by omega
                rw [h8] at h3
                exact (c3 (q - lo) e j c v (by rw [List.getElem?_take, if_pos (by omega)]; exact h1) h2 (by simpa using h3)).step hst
              · rw [List.getElem?_append_right (by simp; omega), List.length_append, hl1, hl2, List.getElem?_drop] at h1
                have hqq : lo + min new.length len + (q - (lo + min new.length len)) = q := by omega
                rw [hqq] at h1
                have h7 : (lo + min new.length len) * s ≤ q * s := Nat.mul_le_mul_right _ (by omega)
                rw [Nat.add_mul] at h7
                rw [if_neg (by simp [c2]; omega)] at h3
                exact (hre q e j c v h1 h2 h3).step hst)
        exact OpS.value (run he c1 q1) hk (.int _ _) q3 q2
  generalize hc0 : va env d' = c0 at *
  split at hk
  · rename_i id g off len
    split at hk
    case h_2 => exact hk.elim
    rename_i cs hg
    obtain ⟨hss, hle, hk⟩ := hk
    subst hss
    have hg' := vGet_some hg
    generalize he : a.eval d = ed at *
    cases h1 with
    | stalebv _ _ _ _ g' o' p n c h5 h6 => rw [hg'] at h5; cases h5; omega
    | bview _ _ _ _ b cap ad cs' fz' h5 hb hl hc ha =>
      rw [hg'] at h5; cases h5
      obtain ⟨arr, c1, c2, c3, c4⟩ := hcells (min new.length len) (Nat.min_le_left _ _)
      have c4 := c4 fun e he => (hok e he).2
      have hfl : ((new.take len).flatten).length = min new.length len := by
        rw [List.length_flatten]
        have : (List.map List.length (new.take len)) = List.replicate (new.take len).length 1 := by
          apply List.eq_replicate_iff.2
          refine ⟨by simp, fun b hb => ?_⟩
          obtain ⟨e, he, rfl⟩ := List.mem_map.1 hb
          exact (hok e (List.mem_of_mem_take he)).1
        rw [this]; simp; omega
      by_cases h0 : min new.length len = 0
      · have hfn : (new.take len).flatten = [] := List.length_eq_zero_iff.1 (by omega)
        have hsp : splice cs off (new.take len).flatten = cs := by rw [hfn]; unfold splice; simp
        rw [hsp, set_self hg', h0] at hk
        rw [h0] at c2
        have ha0 : arr = #[] := Array.eq_empty_of_size_eq_zero (by rw [c2])
        subst ha0
        refine OpS.value (v := .int .i64 ((0 : Nat) : Int)) (w' := w) ?_ hk (.int _ _) hs (Step.refl _ _ _)
        have := run (w' := w) rfl c1 (by cases ad <;> rfl)
        rw [h0] at this; exact this
      · have ha := ha (by omega)
        subst ha
        obtain ⟨b', arr0, e, hcl, hlen0, hre⟩ := hs.obj id g _ hg'
        rw [hb] at e; cases e
        obtain ⟨w', q1, q2, q3⟩ := write_sim (P := P) (ob' := .box (splice cs off (new.take len).flatten) false) (us := arr.toList) (off := off) hs hg' trivial hb hcl (by simp [c2]; omega) (by simpa using c4) (by rw [VObj.alike, splice_length _ _ _ (by omega)]) (fun i h1 => h1) (fun j _ h => absurd rfl h) (fun w' hst hcl' => by
          refine ⟨b, _, rfl, hcl', by rw [splice_length _ _ _ (by omega), wset_size, hlen0], fun i c u h6 h7 => ?_⟩
          rw [splice_get _ _ _ _ (by omega)] at h6
          rw [wset_get _ _ _ _ (by simp [c2]; omega)] at h7
          split at h6
          · rename_i hin
            rw [if_pos (by simp [c2]; omega)] at h7
            rw [flatten_get 1 _ _ (fun e he => (hok e (List.mem_of_mem_take he)).1) (by rw [List.length_take]; omega)] at h6
            rw [Nat.div_one, Nat.mod_one] at h6
            simp only [Option.bind_eq_some_iff] at h6
            obtain ⟨e, h8, h9⟩ := h6
            rw [List.getElem?_take] at h8
            split at h8
            · exact (c3 (i - off) e 0 c u (by rw [List.getElem?_take, if_pos (by omega)]; exact h8) h9 (by simpa using h7)).step hst
            · cases h8
          · rename_i hout
            rw [if_neg (by simp [c2]; omega)] at h7
            exact (hre i c u h6 h7).step hst)
        exact OpS.value (run rfl c1 q1) hk (.int _ _) q3 q2
  · rename_i id g
    split at hk
    case h_2 => exact hk.elim
    rename_i s es hg
    obtain ⟨hss, hk⟩ := hk
    have hg' := vGet_some hg
    generalize he : a.eval d = ed at *
    cases h1 with
    | stalerow _ _ g' o' p n c h5 h6 => rw [hg'] at h5; cases h5; omega
    | rownil _ _ sz fz' ad h5 hb =>
      rw [hg'] at h5; cases h5
      exact row (lo := 0) (len := 0) hg hss (by simp) rfl (by omega) hk
    | row _ _ b sz' cap es2 fz' arr ty fr h5 hb hh hc hsz =>
      rw [hg'] at h5; cases h5
      exact row (lo := 0) (len := es.length) hg hss (by simp) rfl (fun _ => ⟨b, hb, by rw [Nat.zero_mul]⟩) hk
  · rename_i id g lo len
    split at hk
    case h_2 => exact hk.elim
    rename_i s es hg
    obtain ⟨hss, hle, hk⟩ := hk
    have hg' := vGet_some hg
    generalize he : a.eval d = ed at *
    cases h1 with
    | stalerv _ _ _ _ g' o' p n c h5 h6 => rw [hg'] at h5; cases h5; omega
    | rview _ _ _ _ cap sz' ad es2 fz' h5 hl hc ha =>
      rw [hg'] at h5; cases h5
      exact row hg hss hle rfl ha hk
  · generalize he : a.eval d = ed at *
    cases h1
    obtain ⟨arr, c1, c2, c3, c4⟩ := hcells 0 (Nat.zero_le _)
    have hm0 : min new.length 0 = 0 := by omega
    refine OpS.value (v := .int .i64 ((min new.length 0 : Nat) : Int)) (w' := w) (run (arr := arr) rfl (by rw [hm0]; exact c1) rfl) (by rw [hm0]; exact hk) (.int _ _) hs (Step.refl _ _ _)
  · exact hk.elim

theorem s_makeSlice [Glob] {t e : TypeId} {x y : Operand} {x' y' : VA} {id sz bytes : Nat} {zero : List PV} (ho : o.op = .makeSlice t x y) (hu : P.underlying t = some (.slice e)) (hi : (P.info? e).map (fun i => (i.size, i.bytes)) = some (sz, bytes)) (hz : zeroPV P e = some zero) (hzl : zero.length = sz)
    (hx : cA x = some x') (hy : cA y = some y') (hf : FrameRep w σ β env a) (hs : Sim σ β w) (hk : vMakeSlice id sz bytes zero (va env x') (va env y') σ K) : OpS P o a σ β w K := by
  have h1 := hf.eval hx
  have h2 := hf.eval hy
  unfold vMakeSlice at hk
  generalize hc0 : va env x' = c0 at *
  generalize hc1 : va env y' = c1 at *
  split at hk
  · rename_i k1 l k2 c
    obtain ⟨hl0, hlc, hb, hc47, hk⟩ := hk
    generalize he : a.eval x = ex at *
    generalize hey : a.eval y = ey at *
    cases h1; cases h2
    simp only [Option.map_eq_some_iff] at hi
    obtain ⟨i, hi, hie⟩ := hi
    simp only [Prod.mk.injEq] at hie
    obtain ⟨rfl, rfl⟩ := hie
    obtain ⟨z, z1, z2, z3⟩ := run_zeroValue hz w
    have hzero : i.zero = some z := by
      have := z1
      simp [zeroValue, typeInfo, hi] at this
      cases hzz : i.zero with
      | none => rw [hzz] at this; simp [unsupported] at this
      | some z' => rw [hzz] at this; simp at this; rw [this]
    have hrun := run_make (P := P) w t e i z hu hi hzero k1 k2 l c hl0 hlc (by rw [Int.mul_comm]; omega) (by omega)
    refine s_newBlock (w' := w.alloc (.cells (madeCells z.cells (c.toNat * i.size)) e)) (ty := e) (fr := (0, 0)) (n := l.toNat) (c := c.toNat) (sz := i.size) (es := List.replicate l.toNat zero) (arr := madeCells z.cells (c.toNat * i.size)) (by simp [execOp, ho, he, hey, hrun]) (by simp) (by omega) (by rw [size_madeCells]; exact Nat.le_refl _) rfl rfl rfl rfl (by simp) (fun e he => by rw [(List.mem_replicate.1 he).2, hzl]) (fun q e j c0 v h1 h2 h3 => ?_) hs hk
    have hq : q < l.toNat := by simpa using (List.getElem?_eq_some_iff.1 h1).1
    have he0 : e = zero := by rw [List.getElem?_replicate] at h1; split at h1 <;> simp_all
    subst he0
    have hj : j < e.length := (List.getElem?_eq_some_iff.1 h2).1
    unfold madeCells at h3
    rw [Array.getElem?_map, Array.getElem?_range] at h3
    split at h3
    · simp only [Option.map_some, Option.some.injEq] at h3
      have hzs : z.cells.size = i.size := by rw [← z2, hzl]
      have hmod : (q * i.size + j) % z.cells.size = j := by
        rw [hzs, Nat.mul_comm, Nat.mul_add_mod, Nat.mod_eq_of_lt (by omega)]
      rw [hmod] at h3
      refine z3 σ β j c0 v h2 ?_
      rw [← h3, getElem!_pos z.cells j (by omega), Array.getElem?_eq_getElem (by omega)]
    · simp at h3
  · exact hk.elim

theorem s_clip [Glob] {t e : TypeId} {x : Operand} {x' : VA} {lo hi mx : Option Operand} {id sz : Nat} (ho : o.op = .slice t x lo hi mx) (hb : (lo = none ∨ lo = some (.const (.int .i64 0))) ∧ hi = some (.const (.int .i64 0)) ∧ mx = some (.const (.int .i64 0))) (hu : P.underlying t = some (.slice e)) (hsz : (sizeT P e).isSome = true) (hx : cA x = some x')
    (hf : FrameRep w σ β env a) (hs : Sim σ β w) (hk : vClip id sz (va env x') σ K) : OpS P o a σ β w K := by
  have h1 := hf.eval hx
  obtain ⟨⟨es, hes⟩, hk⟩ := hk
  obtain ⟨ad, c, sz', f, he, hc, _, _, _⟩ := rd_rep hs h1 hes
  obtain ⟨s0, hs0⟩ := Option.isSome_iff_exists.1 hsz
  unfold vNew at hk
  split at hk
  · rename_i g o0 hid
    have h := nil_sim (sz := sz) (fz := false) hs hid
    refine OpS.value (v := .slice ad 0 0) (w' := w) ?_ hk (.rownil id (g + 1) sz false ad (set_same hid) (upd_same _ _ _)) h.2 h.1
    obtain ⟨hlo, rfl, rfl⟩ := hb
    have e0 : a.eval (.const (.int .i64 0)) = .int .i64 0 := rfl
    rcases hlo with rfl | rfl <;> simp [execOp, ho, he, Instr.sliceAt, Instr.slice, e0, Instr.sliceBounds, Instr.sliceBound, asIntOf, run_underlying' hu, run_sizeOf hs0]
  · exact hk.elim
end
end Go.V
