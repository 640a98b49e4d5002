/- '==' and '!=' of structs and arrays. -/
import Derived.Test.YtdkjcadffhnjgaaDoorV13
import Derived.ChangeKeysEq
namespace Go.V
open Go

inductive CK where
  | b | i (k : IntKind) | s
  deriving DecidableEq, Inhabited
def eqB : PV → PV → Option Bool
  | .bool a, .bool b => some (a == b)
  | _, _ => none
def eqI (k : IntKind) : PV → PV → Option Bool
  | .int k1 a, .int k2 b => if k1 = k ∧ k2 = k then some (a == b) else none
  | _, _ => none
def eqS : PV → PV → Option Bool
  | .str a, .str b => some (a == b)
  | _, _ => none
def eqCell : CK → PV → PV → Option Bool
  | .b => eqB
  | .i k => eqI k
  | .s => eqS
def eqCells : List CK → List PV → List PV → Option Bool
  | [], [], [] => some true
  | k :: ks, c :: cs, d :: ds => match eqCell k c d, eqCells ks cs ds with
    | some a, some b => some (a && b)
    | _, _ => none
  | _, _, _ => none

def flatFields (P : Program) (fl : TypeId → Option (List CK)) : List Field → Nat → Option (List CK)
  | [], _ => some []
  | f :: fs, off => if f.name ≠ "_" ∧ f.offset = off then match fl f.type with
      | some s => if sizeT P f.type = some s.length then (flatFields P fl fs (off + s.length)).map fun r => s ++ r else none
      | none => none
    else none
def flatT (P : Program) : Nat → TypeId → Option (List CK)
  | 0, _ => none
  | n + 1, t => match P.underlying t with
    | some .bool => some [.b]
    | some (.int k) => some [.i k]
    | some .string => some [.s]
    | some (.struct fs) => if P.stoodInHeld t = false then flatFields P (flatT P n) fs.toList 0 else none
    | some (.array len e) => match flatT P n e with
      | some s => if sizeT P e = some s.length then some (List.replicate len s).flatten else none
      | none => none
    | _ => none

def vEqAgg (ks : List CK) (ne : Bool) (x y : PV) (σ : VHeap) (K : KP) : Prop :=
  match x, y with
  | .agg cs, .agg ds => match eqCells ks cs ds with
    | some r => K (.bool (if ne then !r else r)) σ
    | none => False
  | _, _ => False

theorem eqCells_len : ∀ (ks : List CK) (cs ds : List PV) (r : Bool), eqCells ks cs ds = some r → cs.length = ks.length ∧ ds.length = ks.length
  | [], [], [], _, _ => ⟨rfl, rfl⟩
  | k :: ks, c :: cs, d :: ds, r, h => by
    simp only [eqCells] at h
    split at h
    · rename_i a b h1 h2
      obtain ⟨e1, e2⟩ := eqCells_len ks cs ds b h2
      simp [e1, e2]
    · cases h
  | [], [], _ :: _, _, h => by simp [eqCells] at h
  | [], _ :: _, _, _, h => by simp [eqCells] at h
  | _ :: _, [], _, _, h => by simp [eqCells] at h
  | _ :: _, _ :: _, [], _, h => by simp [eqCells] at h

theorem eqCells_app : ∀ (k1 k2 : List CK) (cs ds : List PV) (r : Bool), eqCells (k1 ++ k2) cs ds = some r →
    ∃ r1 r2, eqCells k1 (cs.take k1.length) (ds.take k1.length) = some r1 ∧ eqCells k2 (cs.drop k1.length) (ds.drop k1.length) = some r2 ∧ r = (r1 && r2)
  | [], k2, cs, ds, r, h => ⟨true, r, by simp [eqCells], by simpa using h, by simp⟩
  | k :: k1, k2, [], ds, r, h => by simp [eqCells] at h
  | k :: k1, k2, _ :: _, [], r, h => by simp [eqCells] at h
  | k :: k1, k2, c :: cs, d :: ds, r, h => by
    simp only [List.cons_append, eqCells] at h
    split at h
    · rename_i a b h1 h2
      cases h
      obtain ⟨r1, r2, e1, e2, rfl⟩ := eqCells_app k1 k2 cs ds b h2
      exact ⟨a && r1, r2, by simp [eqCells, h1, e1], by simpa using e2, by simp [Bool.and_assoc]⟩
    · cases h

def aggD : TypeDesc → Bool
  | .struct _ => true
  | .array _ _ => true
  | _ => false

section
variable {P : Program} {σ : VHeap} {β : Beta} {w : World}

theorem CellsRep.part {xs : List PV} {us : Array Value} (h : CellsRep w σ β xs us) (off n : Nat) : CellsRep w σ β ((xs.drop off).take n) (us.extract off (off + n)) := by
  refine ⟨by simp [h.1]; omega, fun i c v h1 h2 => ?_⟩
  rw [List.getElem?_take] at h1
  split at h1
  · rw [List.getElem?_drop] at h1
    rw [Array.getElem?_extract] at h2
    split at h2
    · exact h.2 _ c v h1 h2
    · cases h2
  · cases h1

/-- A value of a type, as cells. -/
def VB (P : Program) (w : World) (σ : VHeap) (β : Beta) (t : TypeId) (cs : List PV) (v : Value) : Prop :=
  if isAggT P t = some true then ∃ xs, v = .agg xs ∧ CellsRep w σ β cs xs else ∃ c, cs = [c] ∧ Rep w σ β c v

def EqS (P : Program) (w : World) (σ : VHeap) (β : Beta) (n : Nat) (t : TypeId) (ks : List CK) : Prop :=
  ∀ (d : Nat) (x y : Value) (cs ds : List PV) (r : Bool), n ≤ d → VB P w σ β t cs x → VB P w σ β t ds y → eqCells ks cs ds = some r → (Op.equalIn d t x y).run P w = .ok r w

theorem isAggT_some {t : TypeId} {d : TypeDesc} (h : P.underlying t = some d) : isAggT P t = some (aggD d) := by
  unfold isAggT; rw [h]; cases d <;> rfl

theorem part_VB {t : TypeId} {b : Bool} (hb : isAggT P t = some b) {n : Nat} (hsz : sizeT P t = some n) (hn : b = false → n = 1) {cs : List PV} {xs : Array Value} (h : CellsRep w σ β cs xs) {off : Nat} (hle : off + n ≤ cs.length) :
    ∃ v, (Go.part t xs off).run P w = .ok v w ∧ VB P w σ β t ((cs.drop off).take n) v := by
  unfold sizeT at hsz
  simp only [Option.map_eq_some_iff] at hsz
  obtain ⟨i, hi, rfl⟩ := hsz
  have hagg : (isAgg t).run P w = .ok b w := by
    unfold isAggT at hb
    unfold isAgg
    cases hu : P.underlying t with
    | none => rw [hu] at hb; cases hb
    | some d =>
      rw [hu] at hb
      simp only [Sem.run_bind, run_underlying hu, Result.andThen_ok]
      cases d <;> simp at hb <;> subst hb <;> rfl
  have hs : (sizeOf t).run P w = .ok i.size w := by simp [sizeOf, typeInfo, hi]
  unfold Go.part
  simp only [Sem.run_bind, hagg, Result.andThen_ok]
  cases b with
  | true =>
    refine ⟨.agg (xs.extract off (off + i.size)), by simp [hs], ?_⟩
    unfold VB
    rw [if_pos hb]
    exact ⟨_, rfl, h.part off _⟩
  | false =>
    have h1 := hn rfl
    have h2 : off < xs.size := by rw [← h.1]; omega
    have h3 : off < cs.length := by omega
    refine ⟨xs[off], by simp [h2], ?_⟩
    unfold VB
    rw [if_neg (by rw [hb]; simp)]
    refine ⟨cs[off], ?_, h.2 off _ _ (List.getElem?_eq_getElem h3) (Array.getElem?_eq_getElem h2)⟩
    rw [h1, List.take_one, List.head?_drop, List.getElem?_eq_getElem h3]; rfl

theorem flatT_agg {n : Nat} {t : TypeId} {ks : List CK} (h : flatT P n t = some ks) : ∃ b, isAggT P t = some b ∧ (b = false → ks.length = 1) := by
  cases n with
  | zero => cases h
  | succ n =>
    unfold flatT at h
    split at h
    all_goals first | (cases h; done) | skip
    · rename_i hu; cases h; exact ⟨_, isAggT_some hu, fun _ => rfl⟩
    · rename_i hu; cases h; exact ⟨_, isAggT_some hu, fun _ => rfl⟩
    · rename_i hu; cases h; exact ⟨_, isAggT_some hu, fun _ => rfl⟩
    · rename_i hu; exact ⟨_, isAggT_some hu, fun e => by simp [aggD] at e⟩
    · rename_i hu; exact ⟨_, isAggT_some hu, fun e => by simp [aggD] at e⟩

theorem eqFields_flat {fl : TypeId → Option (List CK)} {n d : Nat} (hnd : n ≤ d) (hag : ∀ t s, fl t = some s → ∃ b, isAggT P t = some b ∧ (b = false → s.length = 1)) (ih : ∀ t s, fl t = some s → EqS P w σ β n t s) {cs ds : List PV} {xs ys : Array Value} (hx : CellsRep w σ β cs xs) (hy : CellsRep w σ β ds ys) :
    ∀ (fs : List Field) (off : Nat) (ks : List CK) (r : Bool), off ≤ cs.length → off ≤ ds.length → flatFields P fl fs off = some ks → eqCells ks (cs.drop off) (ds.drop off) = some r → (Op.eqFields d xs ys fs).run P w = .ok r w := by
  intro fs
  induction fs with
  | nil =>
    intro off ks r _ _ h1 h2
    cases h1
    have := eqCells_len _ _ _ _ h2
    have e1 : cs.drop off = [] := List.length_eq_zero_iff.1 this.1
    have e2 : ds.drop off = [] := List.length_eq_zero_iff.1 this.2
    rw [e1, e2] at h2
    cases h2
    rfl
  | cons f fs ihf =>
    intro off ks r hc hd h1 h2
    unfold flatFields at h1
    split at h1
    case isFalse => cases h1
    rename_i hno
    split at h1
    case h_2 => cases h1
    rename_i s hs
    split at h1
    case isFalse => cases h1
    rename_i hsz
    simp only [Option.map_eq_some_iff] at h1
    obtain ⟨r0, hr0, rfl⟩ := h1
    obtain ⟨r1, r2, e1, e2, rfl⟩ := eqCells_app _ _ _ _ _ h2
    rw [List.drop_drop, List.drop_drop] at e2
    have hl := eqCells_len _ _ _ _ h2
    simp at hl
    obtain ⟨b, hb, hb1⟩ := hag _ _ hs
    obtain ⟨u, g1, g2⟩ := part_VB hb hsz hb1 hx (off := f.offset) (by rw [hno.2]; omega)
    obtain ⟨v, g3, g4⟩ := part_VB hb hsz hb1 hy (off := f.offset) (by rw [hno.2]; omega)
    rw [hno.2] at g2 g4
    have g5 := ih _ _ hs d u v _ _ r1 hnd g2 g4 e1
    have g6 := ihf _ _ _ (by omega) (by omega) hr0 e2
    unfold Op.eqFields
    rw [if_pos hno.1]
    simp only [Sem.run_bind, g1, g3, g5, Result.andThen_ok]
    cases r1
    · simp
    · simpa using g6

theorem eqItems_flat {e : TypeId} {s : List CK} {n d : Nat} (hnd : n ≤ d) {b : Bool} (hb : isAggT P e = some b) (hb1 : b = false → s.length = 1) (hsz : sizeT P e = some s.length) (ih : EqS P w σ β n e s) {cs ds : List PV} {xs ys : Array Value} (hx : CellsRep w σ β cs xs) (hy : CellsRep w σ β ds ys) :
    ∀ (len j : Nat) (r : Bool), j * s.length ≤ cs.length → j * s.length ≤ ds.length → eqCells (List.replicate len s).flatten (cs.drop (j * s.length)) (ds.drop (j * s.length)) = some r → (Op.eqItems d e s.length xs ys (List.range' j len)).run P w = .ok r w := by
  intro len
  induction len with
  | zero =>
    intro j r _ _ h2
    have := eqCells_len _ _ _ _ h2
    have e1 : cs.drop (j * s.length) = [] := List.length_eq_zero_iff.1 (by simpa using this.1)
    have e2 : ds.drop (j * s.length) = [] := List.length_eq_zero_iff.1 (by simpa using this.2)
    rw [e1, e2] at h2
    cases h2
    rfl
  | succ len ihl =>
    intro j r hc hd h2
    rw [List.replicate_succ, List.flatten_cons] at h2
    obtain ⟨r1, r2, e1, e2, rfl⟩ := eqCells_app _ _ _ _ _ h2
    rw [List.drop_drop, List.drop_drop] at e2
    have hl := eqCells_len _ _ _ _ h2
    simp at hl
    obtain ⟨u, g1, g2⟩ := part_VB hb hsz hb1 hx (off := j * s.length) (by omega)
    obtain ⟨v, g3, g4⟩ := part_VB hb hsz hb1 hy (off := j * s.length) (by omega)
    have g5 := ih d u v _ _ r1 hnd g2 g4 e1
    have g6 := ihl (j + 1) r2 (by rw [Nat.add_mul, Nat.one_mul]; omega) (by rw [Nat.add_mul, Nat.one_mul]; omega) (by rw [Nat.add_mul, Nat.one_mul]; exact e2)
    rw [List.range'_succ]
    unfold Op.eqItems
    simp only [Sem.run_bind, g1, g3, g5, Result.andThen_ok]
    cases r1
    · simp
    · simpa using g6

theorem flatT_eq : ∀ (n : Nat) (t : TypeId) (ks : List CK), flatT P n t = some ks → EqS P w σ β n t ks := by
  intro n
  induction n with
  | zero => intro t ks h; cases h
  | succ n ih =>
    intro t ks h d x y cs ds r hd hx hy hr
    obtain ⟨d, rfl⟩ : ∃ d', d = d' + 1 := ⟨d - 1, by omega⟩
    unfold flatT at h
    unfold VB at hx hy
    have one : ∀ {k : CK} {cs ds : List PV} {c d : PV}, cs = [c] → ds = [d] → eqCells [k] cs ds = some r → eqCell k c d = some r := by
      intro k cs ds c d e1 e2 h
      subst e1; subst e2
      simp only [eqCells] at h
      split at h
      · rename_i a b h1 h2; cases h2; cases h; simpa using h1
      · cases h
    split at h
    all_goals first | (cases h; done) | skip
    · rename_i hu
      cases h
      rw [if_neg (by rw [isAggT_some hu]; simp [aggD])] at hx hy
      obtain ⟨c, e1, rx⟩ := hx
      obtain ⟨c', e2, ry⟩ := hy
      have this : eqB c c' = some r := one e1 e2 hr
      unfold eqB at this
      split at this
      · cases this
        cases rx; cases ry
        simp [Op.equalIn, run_underlying hu]
      · cases this
    · rename_i k hu
      cases h
      rw [if_neg (by rw [isAggT_some hu]; simp [aggD])] at hx hy
      obtain ⟨c, e1, rx⟩ := hx
      obtain ⟨c', e2, ry⟩ := hy
      have this : eqI k c c' = some r := one e1 e2 hr
      unfold eqI at this
      split at this
      · split at this
        · rename_i hk
          cases this
          obtain ⟨rfl, rfl⟩ := hk
          cases rx; cases ry
          simp [Op.equalIn, run_underlying hu]
        · cases this
      · cases this
    · rename_i hu
      cases h
      rw [if_neg (by rw [isAggT_some hu]; simp [aggD])] at hx hy
      obtain ⟨c, e1, rx⟩ := hx
      obtain ⟨c', e2, ry⟩ := hy
      have this : eqS c c' = some r := one e1 e2 hr
      unfold eqS at this
      split at this
      · cases this
        cases rx; cases ry
        rw [run_equalIn_string w d t _ _ hu]
        simp [ByteArray.toList_eq]
      · cases this
    · rename_i fs hu
      rw [if_pos (by rw [isAggT_some hu]; rfl)] at hx hy
      obtain ⟨xs, rfl, rx⟩ := hx
      obtain ⟨ys, rfl, ry⟩ := hy
      split at h
      case isFalse => cases h
      rename_i hst
      have hfs : P.fieldsOf t = fs := by simp [Program.fieldsOf, hu]
      rw [run_equalIn_struct w d t xs ys (by rw [hfs]; exact hu) hst, hfs]
      exact eqFields_flat (n := n) (by omega) (fun t s h => flatT_agg h) (fun t s h => ih t s h) rx ry _ 0 ks r (by omega) (by omega) h (by simpa using hr)
    · rename_i len e hu
      rw [if_pos (by rw [isAggT_some hu]; rfl)] at hx hy
      obtain ⟨xs, rfl, rx⟩ := hx
      obtain ⟨ys, rfl, ry⟩ := hy
      split at h
      case h_2 => cases h
      rename_i s hs
      split at h
      case isFalse => cases h
      rename_i hsz
      cases h
      obtain ⟨b, hb, hb1⟩ := flatT_agg hs
      have hsz' := hsz
      unfold sizeT at hsz'
      simp only [Option.map_eq_some_iff] at hsz'
      obtain ⟨i, hi, hisz⟩ := hsz'
      rw [run_equalIn_array w d xs ys hu hi]
      have hc : P.cellsOf e = s.length := by simp [Program.cellsOf, hi, hisz]
      rw [hc, List.range_eq_range']
      exact eqItems_flat (n := n) (by omega) hb hb1 hsz (ih e s hs) rx ry len 0 r (by omega) (by omega) (by simpa using hr)

theorem s_eqAgg [Glob] {o : Oper} {a : Act} {env : Env} {K : KP} {op : BinOp} {t t' : TypeId} {x y : Operand} {x' y' : VA} {ks : List CK} {ne : Bool} (ho : o.op = .binOp op t x y t') (hop : op = (if ne then .neq else .eql)) (ht : flatT P 10000 t = some ks) (hag : isAggT P t = some true) (hgd : P.eqGuardType P.depth t = false) (hx : cA x = some x') (hy : cA y = some y')
    (hf : FrameRep w σ β env a) (hs : Sim σ β w) (hk : vEqAgg ks ne (va env x') (va env y') σ K) : OpS P o a σ β w K := by
  have h1 := hf.eval hx
  have h2 := hf.eval hy
  generalize hc0 : va env x' = c0 at *
  generalize hc1 : va env y' = c1 at *
  generalize he : a.eval x = ex at *
  generalize hey : a.eval y = ey at *
  unfold vEqAgg at hk
  split at hk
  case h_2 => exact hk.elim
  rename_i cs ds
  split at hk
  case h_2 => exact hk.elim
  rename_i r hr
  cases h1 with
  | agg _ vs hl hv =>
    cases h2 with
    | agg _ us hl2 hu =>
      have key := flatT_eq (P := P) (w := w) (σ := σ) (β := β) 10000 t ks ht 10000 (.agg vs) (.agg us) cs ds r (Nat.le_refl _) (by unfold VB; rw [if_pos hag]; exact ⟨vs, rfl, hl, hv⟩) (by unfold VB; rw [if_pos hag]; exact ⟨us, rfl, hl2, hu⟩) hr
      refine OpS.value (v := .bool (if ne then !r else r)) (w' := w) ?_ hk (.bool _) hs (Step.refl _ _ _)
      cases ne
      · simp only [Bool.false_eq_true, if_false] at hop
        subst hop
        simp [execOp, ho, he, hey, run_eqGuard_agg w _ t x y vs us hgd, run_eql_struct, key]
      · simp only [if_true] at hop
        subst hop
        simp [execOp, ho, he, hey, run_eqGuard_agg w _ t x y vs us hgd, run_neq_struct, key]
end
end Go.V
