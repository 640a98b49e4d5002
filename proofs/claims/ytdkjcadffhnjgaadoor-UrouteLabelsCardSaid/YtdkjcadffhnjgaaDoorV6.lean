/- Numbers, texts, tests, slices, indexes. -/
import Derived.Test.YtdkjcadffhnjgaaDoorV5
import Derived.Laws.Strings
import Derived.WalkSpells
import Derived.Laws.Pointers
import Derived.Laws.Small
namespace Go.V
open Go

/-- What a test needs to know of its operands' type. -/
inductive BT where
  | num | bool | ptr | slice
  deriving DecidableEq, Inhabited
def btOf (P : Program) (t : TypeId) : Option BT :=
  match P.underlying t with
  | some .bool => some .bool
  | some (.pointer _) => some .ptr
  | some (.slice _) => some .slice
  | some (.int _) => some .num
  | some .string => some .num
  | _ => none

def ibits (op : BinOp) (k : IntKind) (x y : Int) : Option PV :=
  let a := BitVec.ofInt k.bits x
  let b := BitVec.ofInt k.bits y
  match op with
  | .and => some (.int k (k.wrap (a &&& b).toNat))
  | .or => some (.int k (k.wrap (a ||| b).toNat))
  | .xor => some (.int k (k.wrap (a ^^^ b).toNat))
  | .andNot => some (.int k (k.wrap (a &&& ~~~b).toNat))
  | _ => none
def ibin (op : BinOp) (k : IntKind) (a : Int) (k' : IntKind) (b : Int) : Option PV :=
  match op with
  | .shl => if 0 ≤ b then some (.int k (k.wrap (a * 2 ^ (min b.toNat k.bits)))) else none
  | .shr => if 0 ≤ b then some (.int k (a.fdiv (2 ^ (min b.toNat k.bits)))) else none
  | op => if k = k' then match op with
    | .add => some (.int k (k.wrap (a + b)))
    | .sub => some (.int k (k.wrap (a - b)))
    | .mul => some (.int k (k.wrap (a * b)))
    | .quo => if b = 0 then none else some (.int k (k.wrap (a.tdiv b)))
    | .rem => if b = 0 then none else some (.int k (a.tmod b))
    | .eql => some (.bool (a == b))
    | .neq => some (.bool (a != b))
    | .lss => some (.bool (decide (a < b)))
    | .leq => some (.bool (decide (a ≤ b)))
    | .gtr => some (.bool (decide (a > b)))
    | .geq => some (.bool (decide (a ≥ b)))
    | op => ibits op k a b
    else none
def sbin (op : BinOp) (x y : List UInt8) : Option PV :=
  match op with
  | .add => if x.length + y.length ≤ 9223372036854775807 then some (.str (x ++ y)) else none
  | .eql => some (.bool (x == y))
  | .neq => some (.bool !(x == y))
  | .lss => some (.bool (Op.bytesLess x y))
  | .leq => some (.bool (Op.bytesLess x y || x == y))
  | .gtr => some (.bool !(Op.bytesLess x y || x == y))
  | .geq => some (.bool !(Op.bytesLess x y))
  | _ => none

def eqK (op : BinOp) (r : Bool) (σ : VHeap) (K : KP) : Prop :=
  match op with
  | .eql => K (.bool r) σ
  | .neq => K (.bool !r) σ
  | _ => False
/-- Is a slice nil? -/
def nilK (op : BinOp) (x : PV) (σ : VHeap) (K : KP) : Prop :=
  match x with
  | .nils => eqK op true σ K
  | .sl es => eqK op false σ K ∧ (es = [] → eqK op true σ K)
  | _ => False
def vBin (op : BinOp) (t : BT) (x y : PV) (σ : VHeap) (K : KP) : Prop :=
  match x, y with
  | .int k a, .int k' b => match ibin op k a k' b with | some c => K c σ | none => False
  | .str a, .str b => match sbin op a b with | some c => K c σ | none => False
  | .bool a, .bool b => t = .bool ∧ eqK op (a == b) σ K
  | .nilp, .nilp => t = .ptr ∧ eqK op true σ K
  | .ptr id g _, .nilp => t = .ptr ∧ (∃ o, vGet σ id g = some o) ∧ eqK op false σ K
  | x, .nils => t = .slice ∧ nilK op x σ K
  | _, _ => False
def vUn (op : UnOp) (x : PV) (σ : VHeap) (K : KP) : Prop :=
  match op, x with
  | .neg, .int k n => K (.int k (k.wrap (0 - n))) σ
  | .xor, .int k n => match ibits .xor k (if k.signed then -1 else k.max) n with | some c => K c σ | none => False
  | .not, .bool b => K (.bool !b) σ
  | _, _ => False
def vConvInt (k : IntKind) (x : PV) (σ : VHeap) (K : KP) : Prop :=
  match x with
  | .int _ n => K (.int k (k.wrap n)) σ
  | _ => False
def vConvStr (x : PV) (σ : VHeap) (K : KP) : Prop :=
  match x with
  | .str s => K (.str s) σ
  | _ => False

section
variable {P : Program} {o : Oper} {a : Act} {σ : VHeap} {β : Beta} {w : World} {env : Env} {K : KP}

theorem run_intBin {op : BinOp} {t : TypeId} {k k' : IntKind} {x y : Int} {c : PV} (h : ibin op k x k' y = some c) : ∃ v, (∀ w, (binOp op t (.int k x) (.int k' y)).run P w = .ok v w) ∧ ∀ w σ β, Rep w σ β c v := by
  unfold ibin at h
  split at h
  · split at h
    · rename_i h0
      cases h
      exact ⟨_, fun w => by simp only [binOp, Op.shift]; rw [if_neg (by omega)]; rfl, fun _ _ _ => .int _ _⟩
    · cases h
  · split at h
    · rename_i h0
      cases h
      exact ⟨_, fun w => by simp only [binOp, Op.shift]; rw [if_neg (by omega)]; rfl, fun _ _ _ => .int _ _⟩
    · cases h
  · split at h
    · rename_i hk
      subst hk
      split at h
      · cases h; exact ⟨_, fun w => by simp [binOp, Op.intArith], fun _ _ _ => .int _ _⟩
      · cases h; exact ⟨_, fun w => by simp [binOp, Op.intArith], fun _ _ _ => .int _ _⟩
      · cases h; exact ⟨_, fun w => by simp [binOp, Op.intArith], fun _ _ _ => .int _ _⟩
      · split at h
        · cases h
        · rename_i hne
          cases h; exact ⟨_, fun w => by simp [binOp, Op.intDiv, hne], fun _ _ _ => .int _ _⟩
      · split at h
        · cases h
        · rename_i hne
          cases h; exact ⟨_, fun w => by simp [binOp, Op.intDiv, hne], fun _ _ _ => .int _ _⟩
      · cases h; exact ⟨_, fun w => by simp [binOp, Op.intCmp], fun _ _ _ => .bool _⟩
      · cases h; exact ⟨_, fun w => by simp [binOp, Op.intCmp], fun _ _ _ => .bool _⟩
      · cases h; exact ⟨_, fun w => by simp [binOp, Op.intCmp], fun _ _ _ => .bool _⟩
      · cases h; exact ⟨_, fun w => by simp [binOp, Op.intCmp], fun _ _ _ => .bool _⟩
      · cases h; exact ⟨_, fun w => by simp [binOp, Op.intCmp], fun _ _ _ => .bool _⟩
      · cases h; exact ⟨_, fun w => by simp [binOp, Op.intCmp], fun _ _ _ => .bool _⟩
      · unfold ibits at h
        split at h
        · cases h; exact ⟨_, fun w => by simp [binOp, Op.intBits], fun _ _ _ => .int _ _⟩
        · cases h; exact ⟨_, fun w => by simp [binOp, Op.intBits], fun _ _ _ => .int _ _⟩
        · cases h; exact ⟨_, fun w => by simp [binOp, Op.intBits], fun _ _ _ => .int _ _⟩
        · cases h; exact ⟨_, fun w => by simp [binOp, Op.intBits], fun _ _ _ => .int _ _⟩
        · cases h
    · cases h

theorem run_strBin {op : BinOp} {t : TypeId} {x y : ByteArray} {c : PV} (h : sbin op x.data.toList y.data.toList = some c) : ∃ v, (∀ w, (binOp op t (.string x) (.string y)).run P w = .ok v w) ∧ ∀ w σ β, Rep w σ β c v := by
  unfold sbin at h
  split at h
  · split at h
    · rename_i hle
      cases h
      refine ⟨.string (x ++ y), fun w => ?_, fun _ _ _ => ?_⟩
      · simp only [binOp, Op.stringOp]
        have e1 : x.data.toList.length = x.size := by simp
        have e2 : y.data.toList.length = y.size := by simp
        have e3 : IntKind.i64.max = 9223372036854775807 := by decide
        rw [if_neg (by rw [e3]; omega)]; rfl
      · have := Rep.str (w := ‹World›) (σ := ‹VHeap›) (β := ‹Beta›) (x ++ y)
        simpa [ByteArray.data_append] using this
    · cases h
  all_goals first | (cases h; done) | (cases h; exact ⟨_, fun w => by simp [binOp, Op.stringOp, ByteArray.toList_eq], fun _ _ _ => .bool _⟩)

theorem run_eqGuard (op : BinOp) (t : TypeId) (x y : Operand) {u v : Value} (hu : ∀ cs, u ≠ .agg cs) (hi : u ≠ .nilIface) : (eqGuard op t x y u v).run P w = .ok () w := by
  unfold eqGuard
  cases op <;> simp <;> cases u <;> first | rfl | exact (hi rfl).elim | exact (hu _ rfl).elim

theorem s_bin [Glob] {op : BinOp} {t t' : TypeId} {x y : Operand} {x' y' : VA} {bt : BT} (ho : o.op = .binOp op t x y t') (hbt : btOf P t = some bt) (hx : cA x = some x') (hy : cA y = some y')
    (hf : FrameRep w σ β env a) (hs : Sim σ β w) (hk : vBin op bt (va env x') (va env y') σ K) : OpS P o a σ β w K := by
  have h1 := hf.eval hx
  have h2 := hf.eval hy
  have fin : ∀ {v : Value} {c : PV}, (∀ cs, a.eval x ≠ .agg cs) → a.eval x ≠ .nilIface → (binOp op t (a.eval x) (a.eval y)).run P w = .ok v w → Rep w σ β c v → K c σ → OpS P o a σ β w K := by
    intro v c hu hi hrun hrep hk
    refine OpS.value (v := v) (w' := w) ?_ hk hrep hs (Step.refl _ _ _)
    simp [execOp, ho, run_eqGuard op t x y hu hi, hrun]
  have ptee : ∀ {e : TypeId}, P.underlying t = some (.pointer e) → P.underlying t = some (.pointer (P.pointee t)) := by
    intro e h; simp [Program.pointee, h]
  have eqfin : ∀ {r : Bool}, (∀ cs, a.eval x ≠ .agg cs) → a.eval x ≠ .nilIface → (op = .eql → (binOp .eql t (a.eval x) (a.eval y)).run P w = .ok (.bool r) w) →
      (op = .neq → (binOp .neq t (a.eval x) (a.eval y)).run P w = .ok (.bool !r) w) → eqK op r σ K → OpS P o a σ β w K := by
    intro r hu hi he hn hk
    unfold eqK at hk
    split at hk
    · exact fin hu hi (he rfl) (.bool _) hk
    · exact fin hu hi (hn rfl) (.bool _) hk
    · exact hk.elim
  generalize hc0 : va env x' = c0 at *
  generalize hc1 : va env y' = c1 at *
  generalize he : a.eval x = ex at *
  generalize hey : a.eval y = ey at *
  unfold vBin at hk
  split at hk
  · split at hk
    · rename_i c hc
      cases h1; cases h2
      obtain ⟨v, e1, e2⟩ := run_intBin (P := P) (t := t) hc
      exact fin (by simp) (by simp) (e1 w) (e2 w σ β) hk
    · exact hk.elim
  · split at hk
    · rename_i c hc
      cases h1; cases h2
      obtain ⟨v, e1, e2⟩ := run_strBin (P := P) (t := t) hc
      exact fin (by simp) (by simp) (e1 w) (e2 w σ β) hk
    · exact hk.elim
  · obtain ⟨ht, hk⟩ := hk
    subst ht
    cases h1; cases h2
    have hu : P.underlying t = some .bool := by unfold btOf at hbt; split at hbt <;> first | assumption | cases hbt
    exact eqfin (by simp) (by simp) (fun _ => run_eql_bool w t _ _ hu) (fun _ => run_neq_bool w t _ _ hu) hk
  · obtain ⟨ht, hk⟩ := hk
    subst ht
    cases h1; cases h2
    obtain ⟨e, hu⟩ : ∃ e, P.underlying t = some (.pointer e) := by unfold btOf at hbt; split at hbt <;> first | exact ⟨_, by assumption⟩ | cases hbt
    exact eqfin (by simp) (by simp) (fun _ => run_eql_pointer_nil (P := P) w t _ (ptee hu)) (fun _ => run_neq_pointer_nil (P := P) w t _ (ptee hu)) hk
  · obtain ⟨ht, ⟨o', hg⟩, hk⟩ := hk
    subst ht
    cases h2
    obtain ⟨e, hu⟩ : ∃ e, P.underlying t = some (.pointer e) := by unfold btOf at hbt; split at hbt <;> first | exact ⟨_, by assumption⟩ | cases hbt
    cases h1 with
    | stalep _ _ _ g' o' p h5 h6 => rw [vGet_some hg] at h5; cases h5; omega
    | ptr _ _ _ b cs' fz' h5 hb => exact eqfin (by simp) (by simp) (fun _ => run_eql_pointer_nil (P := P) w t _ (ptee hu)) (fun _ => run_neq_pointer_nil (P := P) w t _ (ptee hu)) hk
  · obtain ⟨ht, hk⟩ := hk
    subst ht
    obtain ⟨e, hu⟩ : ∃ e, P.underlying t = some (.slice e) := by unfold btOf at hbt; split at hbt <;> first | exact ⟨_, by assumption⟩ | cases hbt
    cases h2
    unfold nilK at hk
    split at hk
    · cases h1
      exact eqfin (by simp) (by simp) (fun _ => Lib.run_eql_slice_nil (P := P) w t e _ _ _ 0 0 hu) (fun _ => run_neq_slice_nil_any (P := P) w t e _ _ _ 0 0 hu) hk
    · rename_i es
      obtain ⟨hk1, hk2⟩ := hk
      cases h1 with
      | sl _ sz n cap ad f hn hcap hsz ha hr =>
        cases ad with
        | none =>
          have : es = [] := by
            rcases Nat.eq_zero_or_pos n with h | h
            · exact List.length_eq_zero_iff.1 (hn.trans h)
            · obtain ⟨a0, e0, _⟩ := ha h; cases e0
          exact eqfin (by simp) (by simp) (fun _ => Lib.run_eql_slice_nil (P := P) w t e _ _ _ 0 0 hu) (fun _ => run_neq_slice_nil_any (P := P) w t e _ _ _ 0 0 hu) (hk2 this)
        | some ad => exact eqfin (by simp) (by simp) (fun _ => Lib.run_eql_slice_nil (P := P) w t e _ _ _ 0 0 hu) (fun _ => run_neq_slice_nil_any (P := P) w t e _ _ _ 0 0 hu) hk1
    · exact hk.elim
  · exact hk.elim

theorem s_un [Glob] {op : UnOp} {t : TypeId} {x : Operand} {x' : VA} (ho : o.op = .unOp op t x) (hx : cA x = some x') (hf : FrameRep w σ β env a) (hs : Sim σ β w) (hk : vUn op (va env x') σ K) : OpS P o a σ β w K := by
  have h1 := hf.eval hx
  generalize hc0 : va env x' = c0 at *
  generalize he : a.eval x = ex at *
  unfold vUn at hk
  split at hk
  · cases h1
    exact OpS.value (v := .int _ _) (w' := w) (by simp [execOp, ho, he, Op.unary, Op.intArith]) hk (.int _ _) hs (Step.refl _ _ _)
  · cases h1
    split at hk
    · rename_i c hc
      unfold ibits at hc
      simp only [] at hc
      cases hc
      exact OpS.value (v := .int _ _) (w' := w) (by simp [execOp, ho, he, Op.unary, Op.intBits]) hk (.int _ _) hs (Step.refl _ _ _)
    · exact hk.elim
  · cases h1
    exact OpS.value (v := .bool _) (w' := w) (by simp [execOp, ho, he, Op.unary]) hk (.bool _) hs (Step.refl _ _ _)
  · exact hk.elim

theorem s_convInt [Glob] {s t : TypeId} {x : Operand} {x' : VA} {k j : IntKind} (ho : o.op = .convert s t x) (hsu : P.underlying s = some (.int j)) (hu : P.underlying t = some (.int k)) (hx : cA x = some x')
    (hf : FrameRep w σ β env a) (hs : Sim σ β w) (hk : vConvInt k (va env x') σ K) : OpS P o a σ β w K := by
  have h1 := hf.eval hx
  generalize hc0 : va env x' = c0 at *
  generalize he : a.eval x = ex at *
  unfold vConvInt at hk
  split at hk
  · cases h1
    exact OpS.value (v := .int _ _) (w' := w) (by simp [execOp, ho, he, convert, underlying, program, Sem.run, hu, hsu, Conv.intToInt]) hk (.int _ _) hs (Step.refl _ _ _)
  · exact hk.elim

theorem s_convStr [Glob] {s t : TypeId} {x : Operand} {x' : VA} (ho : o.op = .convert s t x) (hsu : P.underlying s = some .string) (hu : P.underlying t = some .string) (hx : cA x = some x')
    (hf : FrameRep w σ β env a) (hs : Sim σ β w) (hk : vConvStr (va env x') σ K) : OpS P o a σ β w K := by
  have h1 := hf.eval hx
  generalize hc0 : va env x' = c0 at *
  generalize he : a.eval x = ex at *
  unfold vConvStr at hk
  split at hk
  · cases h1
    exact OpS.value (v := .string _) (w' := w) (by simp [execOp, ho, he, convert, underlying, program, Sem.run, hu, hsu]) hk (.str _) hs (Step.refl _ _ _)
  · exact hk.elim

end
end Go.V
