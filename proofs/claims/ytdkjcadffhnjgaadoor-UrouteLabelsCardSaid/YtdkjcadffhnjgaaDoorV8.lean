/- Cuts of slices and texts; boxes and literals. -/
import Derived.Test.YtdkjcadffhnjgaaDoorV7
import Derived.Lib.Strings
namespace Go.V
open Go

def cAo [Glob] : Option Operand → Option (Option VA)
  | none => some none
  | some x => (cA x).map some
def bound (x : Option PV) (d : Nat) : Option Nat :=
  match x with
  | none => some d
  | some (.int _ i) => if 0 ≤ i then some i.toNat else none
  | some _ => none
def vSliceStr (x : PV) (lo hi : Option PV) (σ : VHeap) (K : KP) : Prop :=
  match x with
  | .str s => match bound lo 0, bound hi s.length with
    | some l, some h => l ≤ h ∧ h ≤ s.length ∧ K (.str ((s.drop l).take (h - l))) σ
    | _, _ => False
  | _ => False
def vSlice (sz : Nat) (x : PV) (lo hi : Option PV) (σ : VHeap) (K : KP) : Prop :=
  match x with
  | .sl es => match bound lo 0, bound hi es.length with
    | some l, some h => l ≤ h ∧ h ≤ es.length ∧ (∀ e, e ∈ es → e.length = sz) ∧ K (.sl ((es.drop l).take (h - l))) σ
    | _, _ => False
  | .nils => match bound lo 0, bound hi 0 with
    | some 0, some 0 => K .nils σ
    | _, _ => False
  | .row id g => match vGet σ id g with
    | some (.row s es _) => match bound lo 0, bound hi es.length with
      | some l, some h => s = sz ∧ l ≤ h ∧ h ≤ es.length ∧ K (.sl ((es.drop l).take (h - l))) (frzId σ id)
      | _, _ => False
    | _ => False
  | .bview id g off len => match bound lo 0, bound hi len with
    | some l, some h => sz = 1 ∧ (∃ o, vGet σ id g = some o) ∧ l ≤ h ∧ h ≤ len ∧ K (.bview id g (off + l) (h - l)) σ
    | _, _ => False
  | _ => False
def vSliceArr (n sz : Nat) (x : PV) (lo hi : Option PV) (σ : VHeap) (K : KP) : Prop :=
  match x with
  | .ptr id g off => match vGet σ id g with
    | some (.box cs _) => match bound lo 0, bound hi n with
      | some l, some h => sz = 1 ∧ off + n ≤ cs.length ∧ l ≤ h ∧ h ≤ n ∧ K (.bview id g (off + l) (h - l)) σ
      | _, _ => False
    | _ => False
  | _ => False

section
variable {P : Program} {o : Oper} {a : Act} {σ : VHeap} {β : Beta} {w : World} {env : Env} {K : KP}

theorem bound_int {c : PV} {d n : Nat} (h : bound (some c) d = some n) : ∃ k, c = .int k n := by
  cases c <;> simp only [bound] at h <;> first | (cases h; done) | skip
  split at h
  · cases h; rename_i k i h0; exact ⟨k, by rw [Int.toNat_of_nonneg h0]⟩
  · cases h

theorem bound_eval [Glob] (hf : FrameRep w σ β env a) {x : Option Operand} {x' : Option VA} (hx : cAo x = some x') {d n : Nat} (h : bound (x'.map (va env)) d = some n) :
    (x.map a.eval = none ∧ n = d) ∨ ∃ k, x.map a.eval = some (.int k n) := by
  cases x with
  | none => cases hx; simp [bound] at h; exact .inl ⟨rfl, h.symm⟩
  | some x =>
    simp [cAo] at hx
    obtain ⟨y, hy, rfl⟩ := hx
    have h1 := hf.eval hy
    simp only [Option.map_some] at h ⊢
    obtain ⟨k, e⟩ := bound_int h
    rw [e] at h1
    generalize a.eval x = v at h1
    cases h1
    exact .inr ⟨k, rfl⟩

theorem run_bounds {isS : Bool} {len cap l h : Nat} {lo hi : Option Value} (hh : (hi = none ∧ h = len) ∨ ∃ k, hi = some (.int k h)) (hl : (lo = none ∧ l = 0) ∨ ∃ k, lo = some (.int k l)) (h1 : l ≤ h) (h2 : h ≤ cap) (w : World) :
    (Instr.sliceBounds isS len cap lo hi none).run P w = .ok (l, h, cap) w := by
  rcases hh with ⟨rfl, rfl⟩ | ⟨k, rfl⟩ <;> rcases hl with ⟨rfl, rfl⟩ | ⟨k', rfl⟩
  · simp [Instr.sliceBounds]
  · simp [Instr.sliceBounds, Instr.sliceBound, asIntOf, h1]
  · simp [Instr.sliceBounds, Instr.sliceBound, asIntOf, h2]
  · simp [Instr.sliceBounds, Instr.sliceBound, asIntOf, h1, h2]

theorem s_sliceStr [Glob] {t : TypeId} {x : Operand} {x' : VA} {lo hi : Option Operand} {lo' hi' : Option VA} (ho : o.op = .slice t x lo hi none) (hu : P.underlying t = some .string) (hx : cA x = some x')
    (hlo : cAo lo = some lo') (hhi : cAo hi = some hi') (hf : FrameRep w σ β env a) (hs : Sim σ β w) (hk : vSliceStr (va env x') (lo'.map (va env)) (hi'.map (va env)) σ K) : OpS P o a σ β w K := by
  have h1 := hf.eval hx
  generalize hc0 : va env x' = c0 at *
  generalize he : a.eval x = ex at *
  unfold vSliceStr at hk
  split at hk
  · rename_i s
    split at hk
    · rename_i l h hl hh
      obtain ⟨hlh, hhl, hk⟩ := hk
      cases h1 with
      | str s =>
        have e0 : s.data.toList.length = s.size := by simp
        have e1 := bound_eval hf hhi hh
        have e2 := bound_eval hf hlo hl
        rw [e0] at e1 hhl
        refine OpS.value (v := .string (s.extract l h)) (w' := w) ?_ hk ?_ hs (Step.refl _ _ _)
        · simp [execOp, ho, he, Instr.sliceAt, Instr.slice, run_underlying' hu, run_bounds (P := P) e1 e2 hlh hhl]
        · have := Rep.str (w := w) (σ := σ) (β := β) (s.extract l h)
          have e3 := Lib.extract_data s l h
          rw [e3] at this; exact this
    · exact hk.elim
  · exact hk.elim

theorem s_slice [Glob] {t e : TypeId} {x : Operand} {x' : VA} {lo hi : Option Operand} {lo' hi' : Option VA} {sz : Nat} (ho : o.op = .slice t x lo hi none) (hu : P.underlying t = some (.slice e)) (hsz : sizeT P e = some sz) (hx : cA x = some x')
    (hlo : cAo lo = some lo') (hhi : cAo hi = some hi') (hf : FrameRep w σ β env a) (hs : Sim σ β w) (hk : vSlice sz (va env x') (lo'.map (va env)) (hi'.map (va env)) σ K) : OpS P o a σ β w K := by
  have h1 := hf.eval hx
  have run : ∀ {ad : Option Addr} {n c l h : Nat}, a.eval x = .slice ad n c → n ≤ c → bound (lo'.map (va env)) 0 = some l → bound (hi'.map (va env)) n = some h → l ≤ h → h ≤ n →
      (execOp a.eval o).run P w = .ok (.value (.slice (if c = l then ad else ad.map (·.add (l * sz))) (h - l) (c - l))) w := by
    intro ad n c l h e0 hnc hl hh hlh hhn
    simp [execOp, ho, e0, Instr.sliceAt, Instr.slice, run_underlying' hu, run_bounds (P := P) (bound_eval hf hhi hh) (bound_eval hf hlo hl) hlh (by omega : h ≤ c), run_sizeOf hsz]
  have cutsl : ∀ {σ' : VHeap} {es : List (List PV)} {n c l h sz' : Nat} {ad : Option Addr} {f : Nat → Value}, es.length = n → n ≤ c → l ≤ h → h ≤ n → (∀ e, e ∈ es → e.length = sz') → (sz' = sz ∨ es = []) →
      (0 < n → ∃ a0, ad = some a0 ∧ Still w σ' β a0 (n * sz') f) → (∀ (i : Nat) (e : List PV) (j : Nat) (c : PV), es[i]? = some e → e[j]? = some c → Rep w σ' β c (f (i * sz' + j))) →
      Rep w σ' β (.sl ((es.drop l).take (h - l))) (.slice (if c = l then ad else ad.map (·.add (l * sz))) (h - l) (c - l)) := by
    intro σ' es n c l h sz' ad f hn hnc hlh hhn hel hss ha hr
    refine .sl _ sz' _ _ _ (fun q => f (l * sz' + q)) (by simp; omega) (by omega) (fun e he => hel e (List.mem_of_mem_drop (List.mem_of_mem_take he))) (fun h0 => ?_) (fun i e j c h2 h3 => ?_)
    · obtain ⟨a0, rfl, hst⟩ := ha (by omega)
      rw [if_neg (by omega)]
      rcases hss with rfl | rfl
      · refine ⟨_, rfl, fun q hq => ?_⟩
        rw [add_add, add_block]
        refine hst _ ?_
        have : (h - l) * sz' + l * sz' = h * sz' := by rw [← Nat.add_mul]; congr 1; omega
        have : h * sz' ≤ n * sz' := Nat.mul_le_mul_right _ hhn
        omega
      · simp at hn; omega
    · rw [List.getElem?_take] at h2
      split at h2
      · rw [List.getElem?_drop] at h2
        have := hr _ e j c h2 h3
        rw [Nat.add_mul, Nat.add_assoc] at this; exact this
      · cases h2
  generalize hc0 : va env x' = c0 at *
  generalize he : a.eval x = ex at *
  unfold vSlice at hk
  split at hk
  · rename_i es
    split at hk
    · rename_i l h hl hh
      obtain ⟨hlh, hhl, hel, hk⟩ := hk
      cases h1 with
      | sl _ sz' n c ad f hn hcap hsz' ha hr =>
        subst hn
        refine OpS.value (run rfl hcap hl hh hlh hhl) hk (cutsl rfl hcap hlh hhl hsz' ?_ ha hr) hs (Step.refl _ _ _)
        cases es with
        | nil => exact .inr rfl
        | cons e es => exact .inl ((hsz' e (by simp)).symm.trans (hel e (by simp)))
    · exact hk.elim
  · split at hk
    · rename_i hl hh
      cases h1
      refine OpS.value (run rfl (Nat.le_refl _) hl hh (Nat.le_refl _) (Nat.le_refl _)) hk ?_ hs (Step.refl _ _ _)
      simp; exact .nils
    · exact hk.elim
  · rename_i id g
    split at hk
    · rename_i s es fz hg
      split at hk
      · rename_i l h hl hh
        obtain ⟨hss, hlh, hhl, hk⟩ := hk
        subst hss
        have hg' := vGet_some hg
        have hfe := frzId_FE σ id
        have hz := frzId_Fz σ id
        cases h1 with
        | stalerow _ _ g' o' p n c h5 h6 => rw [hg'] at h5; cases h5; omega
        | rownil _ _ sz fz' ad h5 hb =>
          rw [hg'] at h5; cases h5
          simp only [List.length_nil] at hh hhl
          have hl0 : l = 0 := by omega
          have hh0 : h = 0 := by omega
          subst hl0; subst hh0
          refine OpS.value (run rfl (Nat.le_refl _) hl hh (Nat.le_refl _) (Nat.le_refl _)) hk ?_ (hfe.sim hs) (hfe.step β w)
          simp; exact .sl [] 0 0 0 _ (fun _ => default) rfl (Nat.le_refl _) (by simp) (by omega) (by simp)
        | row _ _ b _ cap es2 fz' arr ty fr h5 hb hh' hc hsz =>
          rw [hg'] at h5; cases h5
          rcases hs.obj id g _ hg' with ⟨e, _⟩ | ⟨b', arr', e, hcl, hle, hel, hre⟩
          · rw [hb] at e; cases e
          · rw [hb] at e; cases e
            refine OpS.value (run rfl hc hl hh hlh hhl) hk (cutsl (sz' := s) (f := fun j => arr'.getD j default) rfl hc hlh hhl hel (.inl rfl) (fun _ => ⟨_, rfl, fun j hj => ?_⟩) (fun i e j c h2 h3 => ?_)) (hfe.sim hs) (hfe.step β w)
            · have := row_still hs hfe hg' hb hz hcl hj (by omega)
              rw [add_mk, Nat.zero_add]; exact this
            · have h5 : j < s := by rw [← hel e (List.mem_of_getElem? h2)]; exact (List.getElem?_eq_some_iff.1 h3).1
              have := mul_in (List.getElem?_eq_some_iff.1 h2).1 h5
              exact (hre i e j c _ h2 h3 (arr_getD (by omega))).step (hfe.step β w)
      · exact hk.elim
    · exact hk.elim
  · rename_i id g off len
    split at hk
    · rename_i l h hl hh
      obtain ⟨hss, ⟨o', hg⟩, hlh, hhl, hk⟩ := hk
      subst hss
      have hg' := vGet_some hg
      cases h1 with
      | stalebv _ _ _ _ g' o' p n c h5 h6 => rw [hg'] at h5; cases h5; omega
      | bview _ _ _ _ b cap ad cs' fz' h5 hb hle hc ha =>
        refine OpS.value (run rfl hc hl hh hlh hhl) hk (.bview id g _ _ b _ _ cs' fz' h5 hb (by omega) (by omega) (fun h0 => ?_)) hs (Step.refl _ _ _)
        rw [if_neg (by omega), ha (by omega), Option.map_some, add_mk, Nat.mul_one]
    · exact hk.elim
  · exact hk.elim

theorem s_sliceArr [Glob] {t e : TypeId} {x : Operand} {x' : VA} {lo hi : Option Operand} {lo' hi' : Option VA} {n sz : Nat} (ho : o.op = .slice t x lo hi none) (hu : P.underlying t = some (.array n e)) (hsz : sizeT P e = some sz) (hx : cA x = some x')
    (hlo : cAo lo = some lo') (hhi : cAo hi = some hi') (hf : FrameRep w σ β env a) (hs : Sim σ β w) (hk : vSliceArr n sz (va env x') (lo'.map (va env)) (hi'.map (va env)) σ K) : OpS P o a σ β w K := by
  have h1 := hf.eval hx
  generalize hc0 : va env x' = c0 at *
  generalize he : a.eval x = ex at *
  unfold vSliceArr at hk
  split at hk
  · rename_i id g off
    split at hk
    · rename_i cs fz hg
      have hg' := vGet_some hg
      split at hk
      · rename_i l h hl hh
        obtain ⟨hss, hle, hlh, hhn, hk⟩ := hk
        subst hss
        cases h1 with
        | stalep _ _ _ g' o' p h5 h6 => rw [hg'] at h5; cases h5; omega
        | ptr _ _ _ b cs' fz' h5 hb =>
          rw [hg'] at h5; cases h5
          refine OpS.value (v := .slice (some (if n = l then ⟨b, off, none⟩ else ⟨b, off + l * 1, none⟩)) (h - l) (n - l)) (w' := w) ?_ hk (.bview id g _ _ b _ _ cs fz hg' hb (by omega) (by omega) (fun h0 => ?_)) hs (Step.refl _ _ _)
          · simp [execOp, ho, he, Instr.sliceAt, run_underlying' hu, run_bounds (P := P) (isS := false) (len := n) (bound_eval hf hhi hh) (bound_eval hf hlo hl) hlh hhn, run_sizeOf hsz, Instr.sureAddr, add_mk]
          · rw [if_neg (by omega), Nat.mul_one]
      · exact hk.elim
    · exact hk.elim
  · exact hk.elim

end
end Go.V
