/- Code and functions. -/
import Derived.Test.YtdkjcadffhnjgaaDoorV14
import Derived.Orders
namespace Go.V
open Go

structure VO where
  dst : Option Nat
  op : VOp
  guard : Option (Nat × Bool)
  deriving Inhabited

inductive VE where
  | normal
  | exit (id : Nat)
  | ret

inductive VC where
  | skip
  | region (ops : List VO)
  | seq (x y : VC)
  | cond (c : VA) (t e : VC)
  | block (id : Nat) (c : VC)
  | loop (c : VC)
  | exit (id : Nat)
  | ret
  | dreg (ops : List (VO × List Nat)) (ord : List (Nat × Nat)) (bef : List Nat)
  | stuck
  deriving Inhabited

def vrunOps [Glob] (P : Program) (n : Nat) (K : Env → VHeap → Prop) : List VO → Env → VHeap → Prop
  | [], env, σ => K env σ
  | o :: r, env, σ => match o.guard with
    | none => vop P n env σ (fun v σ' => vrunOps P n K r (eput env o.dst v) σ') o.op
    | some (slot, pol) => match env slot with
      | .bool b => if b = pol then vop P n env σ (fun v σ' => vrunOps P n K r (eput env o.dst v) σ') o.op else vrunOps P n K r (eput env o.dst (.tup [])) σ
      | .tup [] => vrunOps P n K r (eput env o.dst (.tup [])) σ
      | _ => False

abbrev QP := VE → Env → VHeap → Prop
def QP.then (Q : QP) (N : Env → VHeap → Prop) : QP
  | .normal, env, σ => N env σ
  | .exit id, env, σ => Q (.exit id) env σ
  | .ret, env, σ => Q .ret env σ
def QP.block (Q : QP) (id : Nat) : QP
  | .exit id', env, σ => if id' = id then Q .normal env σ else Q (.exit id') env σ
  | .normal, env, σ => Q .normal env σ
  | .ret, env, σ => Q .ret env σ
def vcond (x : PV) (t e : Prop) : Prop :=
  match x with
  | .bool true => t
  | .bool false => e
  | _ => False
def vloop (body : Env → VHeap → QP → Prop) (env : Env) (σ : VHeap) (Q : QP) : Prop :=
  ∃ I : Nat → Env → VHeap → Prop, (∃ k, I k env σ) ∧ ∀ k env σ, I k env σ → body env σ (Q.then fun env' σ' => ∃ k', k' < k ∧ I k' env' σ')

/-- The operations that may come next, of those whose order is open. -/
def vready (ops : List (VO × List Nat)) (listed : List Nat) : List Nat :=
  (List.range ops.length).filter fun i => !listed.contains i && ((ops[i]?).map fun q => q.2.all listed.contains).getD false
/-- Whatever the order. -/
def vany [Glob] (P : Program) (n : Nat) (K : Env → VHeap → Prop) (ops : List (VO × List Nat)) : Nat → List Nat → Env → VHeap → Prop
  | 0, listed, env, σ => vready ops listed = [] ∧ K env σ
  | fuel + 1, listed, env, σ => (vready ops listed = [] → K env σ) ∧
    ∀ i q, i ∈ vready ops listed → ops[i]? = some q → vrunOps P n (vany P n K ops fuel (i :: listed)) [q.1] env σ

def vrun [Glob] (P : Program) (n : Nat) : VC → Env → VHeap → QP → Prop
  | .skip, env, σ, Q => Q .normal env σ
  | .region ops, env, σ, Q => vrunOps P n (fun env σ => Q .normal env σ) ops env σ
  | .seq x y, env, σ, Q => vrun P n x env σ (Q.then fun env σ => vrun P n y env σ Q)
  | .cond c t e, env, σ, Q => vcond (va env c) (vrun P n t env σ Q) (vrun P n e env σ Q)
  | .block id c, env, σ, Q => vrun P n c env σ (Q.block id)
  | .loop c, env, σ, Q => vloop (vrun P n c) env σ Q
  | .exit id, env, σ, Q => Q (.exit id) env σ
  | .ret, env, σ, Q => Q .ret env σ
  | .dreg ops _ _, env, σ, Q => vany P n (fun env σ => Q .normal env σ) ops ops.length [] env σ
  | .stuck, _, _, _ => False

/-! ### Out of the machine's code. -/
def slotOf (ops : Array Oper) (g : Option (Nat × Bool)) : Option (Option (Nat × Bool)) :=
  match g with
  | none => some none
  | some (j, b) => match (ops[j]?).bind (·.dst) with
    | some d => some (some (d, b))
    | none => none
def cVO [Glob] (P : Program) (N : Nat) (sites : List Nat) (raw : FuncId → Bool) (ops : Array Oper) (o : Oper) : Option VO :=
  match slotOf ops o.guard with
  | some g => if o.dst.getD 0 < N then some { dst := o.dst, op := cAny P (sites.idxOf (o.dst.getD 0)) raw ops o, guard := g } else none
  | none => none
/-- What must come ahead of an operation. -/
def cAfter (o : Oper) : List Nat := (o.after.toList.filter (Region.binds .any)).map (·.on)
/-- 0: it changes the heap; 1: it looks into it; 2: it does neither. -/
def kindOf [Glob] (o : VOp) : Nat :=
  match o with
  | .load .. | .nilCheck _ | .field .. | .index .. | .indexArr .. | .sliceArr .. | .len _ | .lenMap _ | .lookup .. | .b2s _ | .slice .. | .sliceV .. => 1
  | .bin _ .ptr _ _ | .bin _ .slice _ _ => 1
  | .mov _ | .pick .. | .build .. | .bin .. | .un .. | .convInt .. | .convStr _ | .func .. | .sliceStr .. | .fieldVal .. | .indexStr .. | .indexAgg .. | .extract .. | .lenStr _ | .minmax .. | .eqAgg .. => 2
  | .call false f _ => cond (Glob.still f) 1 0
  | _ => 0
/-- For each operation the set of those that must have come before, as a number's bits. -/
def befs : List (List Nat) → List Nat → List Nat
  | [], acc => acc
  | a :: r, acc => befs r (acc ++ [a.foldl (fun s e => s ||| (2 ^ e ||| (acc[e]?).getD 0)) 0])
def greedy [Glob] (ops : List (VO × List Nat)) (B : List Nat) : Nat → List Nat → List (Nat × Nat)
  | 0, _ => []
  | f + 1, listed =>
    let rd := vready ops listed
    let k := fun i => match ops[i]? with | some q => kindOf q.1.op | none => 0
    match rd.find? (fun i => !Nat.beq (k i) 0) with
    | some i => ((if Nat.beq (k i) 1 && (List.range ops.length).all (fun e => listed.contains e || !Nat.beq (k e) 0 || ((B[e]?).getD 0).testBit i) then 1 else 2), i) :: greedy ops B f (i :: listed)
    | none => match rd with
      | j :: _ => (0, j) :: greedy ops B f (j :: listed)
      | [] => []
def cDreg [Glob] (ops : List (VO × List Nat)) : VC := .dreg ops (greedy ops (befs (ops.map (·.2)) []) ops.length []) (befs (ops.map (·.2)) [])
def cCode [Glob] (P : Program) (N : Nat) (sites : List Nat) (raw : FuncId → Bool) : Code → Option VC
  | .skip => some .skip
  | .region _ ops false => (ops.toList.mapM (cVO P N sites raw ops)).map .region
  | .region _ ops true => if P.follows .mixedOrders = true then (ops.toList.mapM (cVO P N sites raw ops)).map fun l => cDreg (l.zip (ops.toList.map cAfter)) else none
  | .seq x y => match cCode P N sites raw x, cCode P N sites raw y with
    | some a, some b => some (.seq a b)
    | _, _ => none
  | .cond c t e => match cA c, cCode P N sites raw t, cCode P N sites raw e with
    | some c, some a, some b => some (.cond c a b)
    | _, _, _ => none
  | .block id c => match cCode P N sites raw c with
    | some a => some (.block id a)
    | none => none
  | .loop c => match cCode P N sites raw c with
    | some a => some (.loop a)
    | none => none
  | .exit id => some (.exit id)
  | .ret => some .ret
  | _ => some .stuck

section
variable {P : Program} {σ : VHeap} {β : Beta} {w : World} {env : Env} {a : Act}

def VE.out : VE → Exit
  | .normal => .normal
  | .exit id => .exit id
  | .ret => .ret

/-- What is known behind a piece of code. -/
def Out [Glob] (N : Nat) (Q : QP) (σ : VHeap) (β : Beta) (w : World) (e : Exit) (a' : Act) (w' : World) : Prop :=
  ∃ ve env' σ' β', e = VE.out ve ∧ Q ve env' σ' ∧ FrameRep w' σ' β' env' a' ∧ Sim σ' β' w' ∧ Step σ β w σ' β' w' ∧ a'.tmps.size = N

theorem Out.pre [Glob] {N : Nat} {Q : QP} {σ1 : VHeap} {β1 : Beta} {w1 : World} (h : Step σ β w σ1 β1 w1) {e : Exit} {a' : Act} {w' : World} (k : Out N Q σ1 β1 w1 e a' w') : Out N Q σ β w e a' w' :=
  let ⟨ve, env', σ', β', e1, e2, e3, e4, e5, e6⟩ := k
  ⟨ve, env', σ', β', e1, e2, e3, e4, h.trans e5, e6⟩

theorem ops_sound [Glob] {n N : Nat} {sites : List Nat} {raw : FuncId → Bool} {ops : Array Oper} {K : Env → VHeap → Prop} {Q : Exit → Act → World → Prop} : ∀ (l : List Oper) (vl : List VO) (pre : List Oper) (env : Env) (σ : VHeap) (β : Beta) (a : Act) (w : World), a.tmps.size = N →
    ops.toList = pre ++ l → l.mapM (cVO P N sites raw ops) = some vl → FrameRep w σ β env a → Sim σ β w → vrunOps P n K vl env σ →
    (∀ env' σ' β' a' w', K env' σ' → FrameRep w' σ' β' env' a' → Sim σ' β' w' → Step σ β w σ' β' w' → a'.tmps.size = N → Q .normal a' w') → wpOps P ops Q (List.range' pre.length l.length) a w := by
  intro l
  induction l with
  | nil =>
    intro vl pre env σ β a w hN hl hm hf hs hk hq
    simp at hm; subst hm
    simp only [List.length_nil, List.range'_zero, wpOps]
    exact hq env σ β a w hk hf hs (Step.refl _ _ _) hN
  | cons o l ih =>
    intro vl pre env σ β a w hN hl hm hf hs hk hq
    rw [List.mapM_cons] at hm
    cases h1 : cVO P N sites raw ops o with
    | none => rw [h1] at hm; simp at hm
    | some vo =>
      cases h2 : l.mapM (cVO P N sites raw ops) with
      | none => rw [h1, h2] at hm; simp at hm
      | some vl' =>
        rw [h1, h2] at hm; simp at hm; subst hm
        have hat : ops[pre.length]? = some o := by rw [← Array.getElem?_toList, hl]; simp
        simp only [List.length_cons, List.range'_succ, wpOps, hat]
        have hput : ∀ v, (a.put o.dst v).tmps.size = N := fun v => by rw [← hN]; unfold Act.put; split <;> simp
        have hdst : ∀ d', o.dst = some d' → d' < a.tmps.size := by
          intro d' hd'
          unfold cVO at h1
          split at h1
          · split at h1
            · rename_i hlt; rw [hd'] at hlt; rw [hN]; exact hlt
            · cases h1
          · cases h1
        have next : ∀ {r : PV} {v : Value} {σ' : VHeap} {β' : Beta} {w' : World}, vrunOps P n K vl' (eput env o.dst r) σ' → Rep w' σ' β' r v → Sim σ' β' w' → Step σ β w σ' β' w' →
            wpOps P ops Q (List.range' (pre.length + 1) l.length) (a.put o.dst v) w' := by
          intro r v σ' β' w' hk' hr' hs' hst'
          have := ih vl' (pre ++ [o]) (eput env o.dst r) σ' β' (a.put o.dst v) w' (hput v) (by simp [hl]) h2 ((hf.step hst').put hdst hr') hs' hk' (fun env' σ2 β2 a2 w2 e1 e2 e3 e4 e5 => hq env' σ2 β2 a2 w2 e1 e2 e3 (hst'.trans e4) e5)
          simpa using this
        unfold cVO at h1
        split at h1
        · rename_i g hg
          split at h1
          case isFalse => cases h1
          cases h1
          simp only [vrunOps] at hk
          have run : vop P n env σ (fun v σ' => vrunOps P n K vl' (eput env o.dst v) σ') (cAny P (sites.idxOf (o.dst.getD 0)) raw ops o) → o.wp P a w (wpOps P ops Q (List.range' (pre.length + 1) l.length)) Q := by
            intro hk
            exact cAny_sound hf hs hk _ _ fun v w' r σ' β' e1 e2 e3 e4 => next e1 e2 e3 e4
          have skip : vrunOps P n K vl' (eput env o.dst (.tup [])) σ → wpOps P ops Q (List.range' (pre.length + 1) l.length) (a.put o.dst undef) w := by
            intro hk
            exact next hk (.tup [] #[] rfl (by simp)) hs (Step.refl _ _ _)
          unfold slotOf at hg
          split at hg
          · rename_i hgd
            cases hg
            have hw : Region.wanted o (yielded ops a.tmps) = true := by simp [Region.wanted, hgd]
            rw [if_pos hw]
            exact .inl (run hk)
          · rename_i j b hgd
            split at hg
            · rename_i d hd
              cases hg
              simp only [] at hk
              have hy : yielded ops a.tmps j = match (a.tmps[d]? : Option Value) with | some (.bool b) => some b | _ => none := by unfold yielded; rw [hd]; rfl
              have hr := hf.rep d
              rw [Array.getD_eq_getD_getElem?] at hr
              split at hk
              · rename_i b' hb'
                rw [hb'] at hr
                have hy2 : yielded ops a.tmps j = some b' := by
                  rw [hy]
                  cases hv : a.tmps[d]? with
                  | none => rw [hv] at hr; cases hr
                  | some v => rw [hv] at hr; simp only [Option.getD_some] at hr; cases hr; rfl
                by_cases hbb : b' = b
                · rw [if_pos hbb] at hk
                  have hw : Region.wanted o (yielded ops a.tmps) = true := by simp [Region.wanted, hgd, hy2, hbb]
                  rw [if_pos hw]; exact .inl (run hk)
                · rw [if_neg hbb] at hk
                  have hw : ¬ Region.wanted o (yielded ops a.tmps) = true := by simp [Region.wanted, hgd, hy2, hbb]
                  rw [if_neg hw]; exact skip hk
              · rename_i hb'
                rw [hb'] at hr
                have hy2 : yielded ops a.tmps j = none := by
                  rw [hy]
                  cases hv : a.tmps[d]? with
                  | none => rfl
                  | some v => rw [hv] at hr; simp only [Option.getD_some] at hr; cases hr; rfl
                have hw : ¬ Region.wanted o (yielded ops a.tmps) = true := by simp [Region.wanted, hgd, hy2]
                rw [if_neg hw]; exact skip hk
              · exact hk.elim
            · cases hg
        · cases h1

theorem op_sound [Glob] {n N : Nat} {sites : List Nat} {raw : FuncId → Bool} {ops : Array Oper} {o : Oper} {vo : VO} {i : Nat} {K : Env → VHeap → Prop} {N' : Act → World → Prop} {Q : Exit → Act → World → Prop} (hN : a.tmps.size = N) (hat : ops[i]? = some o) (h1 : cVO P N sites raw ops o = some vo)
    (hf : FrameRep w σ β env a) (hs : Sim σ β w) (hk : vrunOps P n K [vo] env σ) (hq : ∀ env' σ' β' a' w', K env' σ' → FrameRep w' σ' β' env' a' → Sim σ' β' w' → Step σ β w σ' β' w' → a'.tmps.size = N → N' a' w') : wpOp P ops Q i N' a w := by
  simp only [wpOp, hat]
  have hput : ∀ v, (a.put o.dst v).tmps.size = N := fun v => by rw [← hN]; unfold Act.put; split <;> simp
  have hdst : ∀ d', o.dst = some d' → d' < a.tmps.size := by
    intro d' hd'
    unfold cVO at h1
    split at h1
    · split at h1
      · rename_i hlt; rw [hd'] at hlt; rw [hN]; exact hlt
      · cases h1
    · cases h1
  have next : ∀ {r : PV} {v : Value} {σ' : VHeap} {β' : Beta} {w' : World}, vrunOps P n K [] (eput env o.dst r) σ' → Rep w' σ' β' r v → Sim σ' β' w' → Step σ β w σ' β' w' → N' (a.put o.dst v) w' := by
    intro r v σ' β' w' hk' hr' hs' hst'
    exact hq _ _ _ _ _ hk' ((hf.step hst').put hdst hr') hs' hst' (hput v)
  unfold cVO at h1
  split at h1
  · rename_i g hg
    split at h1
    case isFalse => cases h1
    cases h1
    simp only [vrunOps] at hk
    have run : vop P n env σ (fun v σ' => K (eput env o.dst v) σ') (cAny P (sites.idxOf (o.dst.getD 0)) raw ops o) → o.wp P a w N' Q := by
      intro hk
      exact cAny_sound hf hs hk _ _ fun v w' r σ' β' e1 e2 e3 e4 => next e1 e2 e3 e4
    have skip : K (eput env o.dst (.tup [])) σ → N' (a.put o.dst undef) w := by
      intro hk
      exact next (r := .tup []) hk (.tup [] #[] rfl (by simp)) hs (Step.refl _ _ _)
    unfold slotOf at hg
    split at hg
    · rename_i hgd
      cases hg
      have hw : Region.wanted o (yielded ops a.tmps) = true := by simp [Region.wanted, hgd]
      rw [if_pos hw]
      exact .inl (run hk)
    · rename_i j b hgd
      split at hg
      · rename_i d hd
        cases hg
        simp only [] at hk
        have hy : yielded ops a.tmps j = match (a.tmps[d]? : Option Value) with | some (.bool b) => some b | _ => none := by unfold yielded; rw [hd]; rfl
        have hr := hf.rep d
        rw [Array.getD_eq_getD_getElem?] at hr
        split at hk
        · rename_i b' hb'
          rw [hb'] at hr
          have hy2 : yielded ops a.tmps j = some b' := by
            rw [hy]
            cases hv : a.tmps[d]? with
            | none => rw [hv] at hr; cases hr
            | some v => rw [hv] at hr; simp only [Option.getD_some] at hr; cases hr; rfl
          by_cases hbb : b' = b
          · rw [if_pos hbb] at hk
            have hw : Region.wanted o (yielded ops a.tmps) = true := by simp [Region.wanted, hgd, hy2, hbb]
            rw [if_pos hw]; exact .inl (run hk)
          · rw [if_neg hbb] at hk
            have hw : ¬ Region.wanted o (yielded ops a.tmps) = true := by simp [Region.wanted, hgd, hy2, hbb]
            rw [if_neg hw]; exact skip hk
        · rename_i hb'
          rw [hb'] at hr
          have hy2 : yielded ops a.tmps j = none := by
            rw [hy]
            cases hv : a.tmps[d]? with
            | none => rfl
            | some v => rw [hv] at hr; simp only [Option.getD_some] at hr; cases hr; rfl
          have hw : ¬ Region.wanted o (yielded ops a.tmps) = true := by simp [Region.wanted, hgd, hy2]
          rw [if_neg hw]; exact skip hk
        · exact hk.elim
      · cases hg
  · cases h1

theorem mapM_get {α γ : Type} {f : α → Option γ} : ∀ {l : List α} {l' : List γ}, l.mapM f = some l' → l.length = l'.length ∧ ∀ (i : Nat) (x : α), l[i]? = some x → ∃ y, l'[i]? = some y ∧ f x = some y := by
  intro l
  induction l with
  | nil => intro l' h; simp at h; subst h; simp
  | cons x l ih =>
    intro l' h
    rw [List.mapM_cons] at h
    cases h1 : f x with
    | none => rw [h1] at h; simp at h
    | some y =>
      cases h2 : l.mapM f with
      | none => rw [h1, h2] at h; simp at h
      | some ys =>
        rw [h1, h2] at h; simp at h; subst h
        obtain ⟨e1, e2⟩ := ih h2
        refine ⟨by simp [e1], fun i z hi => ?_⟩
        cases i with
        | zero => cases hi; exact ⟨y, rfl, h1⟩
        | succ i => exact e2 i z (by simpa using hi)

theorem ready_eq {ops : Array Oper} {vl : List VO} (hl : vl.length = ops.size) {listed : List Nat} {la : Array Bool} (hsz : la.size = ops.size) (hin : ∀ i, i ∈ listed → i < ops.size) (hla : ∀ i, i < ops.size → la.getD i false = listed.contains i) :
    Region.ready .any ops la = vready (vl.zip (ops.toList.map cAfter)) listed := by
  unfold Region.ready vready
  have hlen : (vl.zip (ops.toList.map cAfter)).length = ops.size := by simp [hl]
  rw [hlen]
  apply List.filter_congr
  intro i hi
  have hi := List.mem_range.1 hi
  have e1 : la.getD i true = listed.contains i := by
    rw [← hla i hi, Array.getD_eq_getD_getElem?, Array.getD_eq_getD_getElem?, Array.getElem?_eq_getElem (by omega)]; rfl
  have e2 : (vl.zip (ops.toList.map cAfter))[i]? = some (vl[i], cAfter ops[i]) := by
    rw [List.getElem?_eq_getElem (by rw [hlen]; exact hi)]; simp
  have e3 : ops[i]? = some ops[i] := Array.getElem?_eq_getElem hi
  rw [e1, e2, e3]
  congr 1
  simp only [Option.map_some, Option.getD_some]
  unfold cAfter
  rw [List.all_map, List.all_filter, ← Array.all_toList]
  congr 1
  funext e
  simp only [Function.comp]
  by_cases he : e.on < ops.size
  · rw [hla _ he]
  · have h1 : listed.contains e.on = false := by
      rw [List.contains_eq_mem]
      simp only [decide_eq_false_iff_not]
      intro hm; exact he (hin _ hm)
    have h2 : la.getD e.on false = false := by rw [Array.getD_eq_getD_getElem?, Array.getElem?_eq_none (by omega)]; rfl
    rw [h1, h2]

theorem any_sound [Glob] {n N : Nat} {sites : List Nat} {raw : FuncId → Bool} {ops : Array Oper} {vl : List VO} {K : Env → VHeap → Prop} {Q : Exit → Act → World → Prop} (hm : ops.toList.mapM (cVO P N sites raw ops) = some vl) :
    ∀ (fuel : Nat) (listed : List Nat) (la : Array Bool) (env : Env) (σ : VHeap) (β : Beta) (a : Act) (w : World), la.size = ops.size → (∀ i, i ∈ listed → i < ops.size) → (∀ i, i < ops.size → la.getD i false = listed.contains i) → a.tmps.size = N →
    FrameRep w σ β env a → Sim σ β w → vany P n K (vl.zip (ops.toList.map cAfter)) fuel listed env σ →
    (∀ env' σ' β' a' w', K env' σ' → FrameRep w' σ' β' env' a' → Sim σ' β' w' → Step σ β w σ' β' w' → a'.tmps.size = N → Q .normal a' w') → wpAny P .any ops Q fuel la a w := by
  obtain ⟨hlen, hget⟩ := mapM_get hm
  have hl : vl.length = ops.size := by rw [← hlen]; simp
  intro fuel
  induction fuel with
  | zero =>
    intro listed la env σ β a w hsz hin hla hN hf hs hk hq
    exact ⟨by rw [ready_eq hl hsz hin hla]; exact hk.1, hq _ _ _ _ _ hk.2 hf hs (Step.refl _ _ _) hN⟩
  | succ fuel ih =>
    intro listed la env σ β a w hsz hin hla hN hf hs hk hq
    unfold wpAny
    rw [ready_eq hl hsz hin hla]
    refine ⟨fun h => hq _ _ _ _ _ (hk.1 h) hf hs (Step.refl _ _ _) hN, fun i hi => ?_⟩
    have hi2 : i < ops.size := by
      have := List.mem_range.1 (List.mem_filter.1 hi).1
      simpa [hl] using this
    have e3 : ops.toList[i]? = some ops[i] := by rw [Array.getElem?_toList]; exact Array.getElem?_eq_getElem hi2
    obtain ⟨vo, h1, h2⟩ := hget i _ e3
    have e2 : (vl.zip (ops.toList.map cAfter))[i]? = some (vo, cAfter ops[i]) := by
      rw [List.getElem?_zip_eq_some]
      exact ⟨h1, by rw [List.getElem?_map, e3]; rfl⟩
    refine op_sound hN (Array.getElem?_eq_getElem hi2) h2 hf hs (hk.2 i _ hi e2) fun env' σ' β' a' w' f1 f2 f3 f4 f5 => ?_
    refine ih (i :: listed) (la.setIfInBounds i true) env' σ' β' a' w' (by simpa using hsz) (fun j hj => by rcases List.mem_cons.1 hj with rfl | h; exact hi2; exact hin j h) (fun j hj => ?_) f5 f2 f3 f1 fun env2 σ2 β2 a2 w2 g1 g2 g3 g4 g5 => hq _ _ _ _ _ g1 g2 g3 (f4.trans g4) g5
    by_cases hji : i = j
    · subst hji
      rw [Array.getD_eq_getD_getElem?, Array.getElem?_setIfInBounds_self_of_lt (by omega)]
      simp
    · rw [Array.getD_eq_getD_getElem?, Array.getElem?_setIfInBounds_ne hji, ← Array.getD_eq_getD_getElem?, hla j hj]
      rw [List.contains_cons]
      have : (j == i) = false := by simp; omega
      rw [this, Bool.false_or]

theorem wp_loop_idx {c : Code} {Q : Exit → Act → World → Prop} (J : Nat → Act → World → Prop) {k0 : Nat} (h0 : J k0 a w)
    (round : ∀ k a w, J k a w → c.wp P (Exit.then (fun a' w' => ∃ k', k' < k ∧ J k' a' w') Q) a w) : (Code.loop c).wp P Q a w := by
  intro b k cs
  have key : ∀ n a w, J n a w → ∃ e a' w', Q e a' w' ∧ Arrives P (lone (b.at a (.code c :: .inLoop c :: k)) cs w) b k cs e a' w' := by
    intro n
    induction n using Nat.strongRecOn with
    | _ n ih =>
      intro a w hI
      obtain ⟨e, a₁, w₁, hq, harr⟩ := round n a w hI b (.inLoop c :: k) cs
      cases e with
      | normal =>
        obtain ⟨k', hlt, hI₁⟩ := hq
        obtain ⟨e₂, a₂, w₂, hq₂, harr₂⟩ := ih k' hlt a₁ w₁ hI₁
        exact ⟨e₂, a₂, w₂, hq₂, .of_steps (Steps.trans harr (.one step_inLoop)) harr₂⟩
      | exit id => exact ⟨_, a₁, w₁, hq, .pass (x := .inLoop c) rfl (fun _ _ => .inl (by simp)) harr⟩
      | goto l => exact ⟨_, a₁, w₁, hq, .pass (x := .inLoop c) rfl (fun _ _ => .inl (by simp)) harr⟩
      | ret => exact ⟨_, a₁, w₁, hq, .pass (x := .inLoop c) rfl (fun _ _ => .inl (by simp)) harr⟩
      | panic ch => exact ⟨_, a₁, w₁, hq, .pass (x := .inLoop c) rfl (fun _ _ => .inl (by simp)) harr⟩
      | outgrown => exact ⟨_, a₁, w₁, hq, .pass (x := .inLoop c) rfl (fun _ _ => .inl (by simp)) harr⟩
  obtain ⟨e, a', w', hq, harr⟩ := key _ a w h0
  exact ⟨e, a', w', hq, .of_steps (.one step_loop) harr⟩

theorem code_sound [Glob] {n N : Nat} {sites : List Nat} {raw : FuncId → Bool} : ∀ (c : Code) (vc : VC) (env : Env) (σ : VHeap) (β : Beta) (a : Act) (w : World) (Q : QP), cCode P N sites raw c = some vc → a.tmps.size = N → FrameRep w σ β env a → Sim σ β w →
    vrun P n vc env σ Q → c.wp P (Out N Q σ β w) a w := by
  intro c
  induction c with
  | skip =>
    intro vc env σ β a w Q h hN hf hs hk
    cases h
    exact wp_skip ⟨.normal, env, σ, β, rfl, hk, hf, hs, Step.refl _ _ _, hN⟩
  | region id ops draw =>
    intro vc env σ β a w Q h hN hf hs hk
    cases draw with
    | true =>
      simp only [cCode] at h
      split at h
      case isFalse => cases h
      rename_i hmix
      simp only [Option.map_eq_some_iff] at h
      obtain ⟨vl, hm, rfl⟩ := h
      have hlen : (vl.zip (ops.toList.map cAfter)).length = ops.size := by
        have := (mapM_get hm).1
        simp at this
        simp [← this]
      simp only [cDreg, vrun, hlen] at hk
      have hd := same_sim (w' := { w with drawn := w.drawn + 1 }) hs rfl rfl rfl rfl
      refine wp_region_any hmix (any_sound hm ops.size [] _ env σ β a _ (by simp) (by simp) (fun i hi => by simp [hi]) hN (hf.step hd.1) hd.2 hk fun env' σ' β' a' w' e1 e2 e3 e4 e5 => ⟨.normal, env', σ', β', rfl, e1, e2, e3, hd.1.trans e4, e5⟩)
    | false =>
      simp only [cCode, Option.map_eq_some_iff] at h
      obtain ⟨vl, hm, rfl⟩ := h
      refine wp_region ?_
      have := ops_sound (P := P) (n := n) (N := N) (Q := Out N Q σ β w) ops.toList vl [] env σ β a w hN rfl hm hf hs hk (fun env' σ' β' a' w' e1 e2 e3 e4 e5 => ⟨.normal, env', σ', β', rfl, e1, e2, e3, e4, e5⟩)
      rw [List.range_eq_range']
      simpa using this
  | seq x y ihx ihy =>
    intro vc env σ β a w Q h hN hf hs hk
    simp only [cCode] at h
    split at h
    · rename_i vx vy hx hy
      cases h
      refine wp_seq (wp_mono (ihx vx env σ β a w _ hx hN hf hs hk) ?_)
      rintro e a' w' ⟨ve, env', σ', β', rfl, e2, e3, e4, e5, e6⟩
      cases ve with
      | normal => exact wp_mono (ihy vy env' σ' β' a' w' Q hy e6 e3 e4 e2) fun e a2 w2 h => h.pre e5
      | exit id => exact ⟨.exit id, env', σ', β', rfl, e2, e3, e4, e5, e6⟩
      | ret => exact ⟨.ret, env', σ', β', rfl, e2, e3, e4, e5, e6⟩
    · cases h
  | cond c x y ihx ihy =>
    intro vc env σ β a w Q h hN hf hs hk
    simp only [cCode] at h
    split at h
    · rename_i vcd vx vy hc hx hy
      cases h
      have hr := hf.eval hc
      simp only [vrun, vcond] at hk
      split at hk
      · rename_i heq
        rw [heq] at hr
        generalize hv : a.eval c = v at hr
        cases hr
        exact wp_cond_true hv (ihx vx env σ β a w Q hx hN hf hs hk)
      · rename_i heq
        rw [heq] at hr
        generalize hv : a.eval c = v at hr
        cases hr
        exact wp_cond_false hv (ihy vy env σ β a w Q hy hN hf hs hk)
      · exact hk.elim
    · cases h
  | block id c ih =>
    intro vc env σ β a w Q h hN hf hs hk
    simp only [cCode] at h
    split at h
    · rename_i vx hx
      cases h
      refine wp_block (wp_mono (ih vx env σ β a w _ hx hN hf hs hk) ?_)
      rintro e a' w' ⟨ve, env', σ', β', rfl, e2, e3, e4, e5, e6⟩
      cases ve with
      | normal => exact ⟨.normal, env', σ', β', rfl, e2, e3, e4, e5, e6⟩
      | exit id' =>
        simp only [QP.block] at e2
        simp only [VE.out, Exit.inBlock]
        by_cases hid : id' = id
        · rw [if_pos hid] at e2 ⊢; exact ⟨.normal, env', σ', β', rfl, e2, e3, e4, e5, e6⟩
        · rw [if_neg hid] at e2 ⊢; exact ⟨.exit id', env', σ', β', rfl, e2, e3, e4, e5, e6⟩
      | ret => exact ⟨.ret, env', σ', β', rfl, e2, e3, e4, e5, e6⟩
    · cases h
  | loop c ih =>
    intro vc env σ β a w Q h hN hf hs hk
    simp only [cCode] at h
    split at h
    · rename_i vx hx
      cases h
      obtain ⟨I, ⟨k0, hI⟩, hround⟩ := hk
      refine wp_loop_idx (fun k a' w' => ∃ env' σ' β', I k env' σ' ∧ FrameRep w' σ' β' env' a' ∧ Sim σ' β' w' ∧ Step σ β w σ' β' w' ∧ a'.tmps.size = N) ⟨env, σ, β, hI, hf, hs, Step.refl _ _ _, hN⟩ ?_
      rintro k a' w' ⟨env', σ', β', e1, e2, e3, e4, e5⟩
      refine wp_mono (ih vx env' σ' β' a' w' _ hx e5 e2 e3 (hround k env' σ' e1)) ?_
      rintro e a2 w2 ⟨ve, env2, σ2, β2, rfl, f2, f3, f4, f5, f6⟩
      cases ve with
      | normal =>
        obtain ⟨k', hlt, hI'⟩ := f2
        exact ⟨k', hlt, env2, σ2, β2, hI', f3, f4, e4.trans f5, f6⟩
      | exit id' => exact ⟨.exit id', env2, σ2, β2, rfl, f2, f3, f4, e4.trans f5, f6⟩
      | ret => exact ⟨.ret, env2, σ2, β2, rfl, f2, f3, f4, e4.trans f5, f6⟩
    · cases h
  | exit id =>
    intro vc env σ β a w Q h hN hf hs hk
    cases h
    exact wp_exit ⟨.exit id, env, σ, β, rfl, hk, hf, hs, Step.refl _ _ _, hN⟩
  | ret =>
    intro vc env σ β a w Q h hN hf hs hk
    cases h
    exact wp_ret ⟨.ret, env, σ, β, rfl, hk, hf, hs, Step.refl _ _ _, hN⟩
  | _ => intro vc env σ β a w Q h _ _ _ hk; cases h; exact hk.elim

/-! ### Functions. -/
inductive RV where
  | tmp (t : Nat)
  | cell (t : Nat) (sz : Option Nat)
structure VFun where
  ntmps : Nat
  nsites : Nat
  body : VC
  results : List RV
  raw : Bool

/-- What a pointer to a variable of ours shows. -/
def ldV (σ : VHeap) (sz : Option Nat) : PV → Option PV
  | .ptr id g off => match vGet σ id g with
    | some (.box cs _) => cut cs off sz
    | _ => none
  | _ => none
def rvVal (env : Env) (σ : VHeap) : RV → Option PV
  | .tmp t => some (va env (.t t))
  | .cell t sz => ldV σ sz (va env (.t t))
def rvAll (env : Env) (σ : VHeap) (l : List RV) : Option PV :=
  match l.mapM (rvVal env σ) with
  | some [x] => some x
  | some xs => some (.tup xs)
  | none => none
def vret (raw : Bool) (r : Option PV) (σ : VHeap) (K : KP) : Prop :=
  match r with
  | some r => if raw then K r σ else K (inl σ r) (frz σ r)
  | none => False
def vdead (n : Nat) : VHeap := List.replicate n (0, .dead)
def argsEnv (args : List PV) : Env := fun i => (args[i]?).getD (.tup [])
def vend (vf : VFun) (Post : KP) : QP
  | .normal, env, σ => vret vf.raw (rvAll env σ vf.results) σ Post
  | .ret, env, σ => vret vf.raw (rvAll env σ vf.results) σ Post
  | .exit _, _, _ => False
def vfun [Glob] (P : Program) (vf : VFun) (args : List PV) (σ : VHeap) (Post : KP) : Prop :=
  args.length ≤ vf.ntmps ∧ vrun P σ.length vf.body (argsEnv args) (σ ++ vdead vf.nsites) (vend vf Post)

/-- The operations that make something. -/
def makesT (P : Program) (o : Oper) : Bool :=
  match o.op with
  | .alloc _ => true
  | .box _ _ => true
  | .buildSlice _ _ _ => true
  | .makeMap _ _ => true
  | .makeSlice _ _ _ => true
  | .slice _ _ _ _ (some _) => true
  | .range _ _ => true
  | .assign x => isNil x && (sliceElem P o.type).isSome
  | .convert s t _ => isStr P s && (sliceElem P t).isSome
  | .call { callee := .builtin .append, args := _, argTypes := _ } => true
  | _ => false
def sitesOf (P : Program) : Code → List Nat
  | .region _ ops _ => ops.toList.filterMap fun o => if makesT P o then o.dst else none
  | .seq x y => sitesOf P x ++ sitesOf P y
  | .cond _ x y => sitesOf P x ++ sitesOf P y
  | .block _ c => sitesOf P c
  | .loop c => sitesOf P c
  | _ => []
def cRV (P : Program) : ResultVar → Option RV
  | .tmp t => some (.tmp t)
  | .cell t ty => (loadSz P ty).map fun sz => .cell t sz
def cFun [Glob] (P : Program) (raw : FuncId → Bool) (rw : Bool) (fn : Func) : Option VFun :=
  match fn.body with
  | none => none
  | some c => match cCode P fn.ntmps (sitesOf P c).eraseDups raw c, fn.results.toList.mapM (cRV P) with
    | some vc, some rs => some { ntmps := fn.ntmps, nsites := (sitesOf P c).eraseDups.length, body := vc, results := rs, raw := rw }
    | _, _ => none

theorem ldV_rep [Glob] (hs : Sim σ β w) {x : PV} {v : Value} (hr : Rep w σ β x v) {t : TypeId} {sz : Option Nat} (hsz : loadSz P t = some sz) {c : PV} (h : ldV σ sz x = some c) :
    ∃ ad u, v = .pointer (some ad) ∧ (loadVar t ad).run P w = .ok u w ∧ Rep w σ β c u := by
  unfold ldV at h
  split at h
  · rename_i id g off
    split at h
    · rename_i cs fz hg
      have hg' := vGet_some hg
      cases hr with
      | stalep _ _ _ g' o' p h5 h6 => rw [hg'] at h5; cases h5; omega
      | ptr _ _ _ b cs' fz' h5 hb =>
        obtain ⟨b', arr, e, hcl, hlen, hre⟩ := hs.obj id g _ hg'
        rw [hb] at e; cases e
        obtain ⟨u, h8, h9⟩ := run_loadVar (P := P) (σ := σ) (β := β) hsz (ad := ⟨b, off, none⟩) (cs := cs) (off := off) (f := fun j => arr.getD (off + j) default) (w := w) (fun j c h6 => by
          have h7 : off + j < arr.size := by rw [← hlen]; exact (List.getElem?_eq_some_iff.1 h6).1
          exact ⟨by rw [add_mk, hcl.cell, arr_getD h7], hre _ c _ h6 (arr_getD h7)⟩) h
        exact ⟨_, u, rfl, h8, h9⟩
    · cases h
  · cases h

theorem results_rep [Glob] (hs : Sim σ β w) (hf : FrameRep w σ β env a) {fn : Func} {rs : List RV} (hr : fn.results.toList.mapM (cRV P) = some rs) {r : PV} (h : rvAll env σ rs = some r) : ∃ v, (results fn a.tmps).run P w = .ok v w ∧ Rep w σ β r v := by
  have one : ∀ (l : List ResultVar) (rs : List RV) (cs : List PV), l.mapM (cRV P) = some rs → rs.mapM (rvVal env σ) = some cs → ∃ vs : List Value, (l.mapM fun | .tmp t => pure (a.tmps.getD t undef) | .cell p t => do loadVar t (← asAddr (a.tmps.getD p undef)) : Sem (List Value)).run P w = .ok vs w ∧
      cs.length = vs.length ∧ ∀ (i : Nat) (c : PV) (v : Value), cs[i]? = some c → vs[i]? = some v → Rep w σ β c v := by
    intro l
    induction l with
    | nil =>
      intro rs cs h1 h2
      simp at h1; subst h1
      simp at h2; subst h2
      exact ⟨[], by simp, rfl, by simp⟩
    | cons x l ih =>
      intro rs cs h1 h2
      rw [List.mapM_cons] at h1
      cases hx : cRV P x with
      | none => rw [hx] at h1; simp at h1
      | some y =>
        cases hl : l.mapM (cRV P) with
        | none => rw [hx, hl] at h1; simp at h1
        | some ys =>
          rw [hx, hl] at h1; simp at h1; subst h1
          rw [List.mapM_cons] at h2
          cases hy : rvVal env σ y with
          | none => rw [hy] at h2; simp at h2
          | some c =>
            cases hcs : ys.mapM (rvVal env σ) with
            | none => rw [hy, hcs] at h2; simp at h2
            | some cs' =>
              rw [hy, hcs] at h2; simp at h2; subst h2
              obtain ⟨vs, g1, g2, g3⟩ := ih ys cs' hl hcs
              have hv : ∃ v, (match x with | .tmp t => pure (a.tmps.getD t undef) | .cell p t => do loadVar t (← asAddr (a.tmps.getD p undef)) : Sem Value).run P w = .ok v w ∧ Rep w σ β c v := by
                cases x with
                | tmp t =>
                  cases hx; cases hy
                  exact ⟨_, rfl, hf.eval (o := .tmp t) rfl⟩
                | cell p t =>
                  simp only [cRV, Option.map_eq_some_iff] at hx
                  obtain ⟨sz, hsz, rfl⟩ := hx
                  simp only [rvVal] at hy
                  obtain ⟨ad, u, e1, e2, e3⟩ := ldV_rep hs (hf.eval (o := .tmp p) (x := .t p) rfl) hsz hy
                  have e1' : a.tmps.getD p undef = .pointer (some ad) := e1
                  exact ⟨u, by simp [e1', asAddr, e2], e3⟩
              obtain ⟨v, hv1, hv2⟩ := hv
              refine ⟨v :: vs, ?_, by simp [g2], fun i c' v' h3 h4 => ?_⟩
              · rw [List.mapM_cons]
                simp only [Sem.run_bind, hv1, Result.andThen_ok, g1, Sem.run_pure]
              · cases i with
                | zero => cases h3; cases h4; exact hv2
                | succ i => exact g3 i c' v' (by simpa using h3) (by simpa using h4)
  unfold rvAll at h
  cases hcs : rs.mapM (rvVal env σ) with
  | none => rw [hcs] at h; cases h
  | some cs =>
    rw [hcs] at h
    obtain ⟨vs, g1, g2, g3⟩ := one _ rs cs hr hcs
    have hres : (results fn a.tmps).run P w = .ok (if h : vs.toArray.size = 1 then vs.toArray[0] else .tuple vs.toArray) w := by
      unfold results
      rw [Array.mapM_eq_mapM_toList]
      simp only [Sem.run_bind, Sem.run_map]
      erw [g1]
      simp only [Result.andThen_ok, Sem.run_pure]
    refine ⟨_, hres, ?_⟩
    cases cs with
    | nil =>
      simp at h; subst h
      have : vs = [] := List.length_eq_zero_iff.1 (by simpa using g2.symm)
      subst this
      exact .tup [] #[] rfl (by simp)
    | cons c cs =>
      cases cs with
      | nil =>
        simp at h; subst h
        match vs, g2, g3 with
        | [v], _, g3 => exact g3 0 c v rfl rfl
      | cons d cs =>
        simp at h; subst h
        have hne : vs.toArray.size ≠ 1 := by simp at g2 ⊢; omega
        rw [dif_neg hne]
        exact .tup _ _ (by simpa using g2) fun i c' v' h3 h4 => g3 i c' v' h3 (by simpa using h4)

theorem dead_ext (hs : Sim σ β w) (m : Nat) : Step σ β w (σ ++ vdead m) β w ∧ Sim (σ ++ vdead m) β w := by
  have old : ∀ {i g : Nat} {ob : VObj}, σ[i]? = some (g, ob) → (σ ++ vdead m)[i]? = some (g, ob) := by
    intro i g ob h
    rw [List.getElem?_append_left (List.getElem?_eq_some_iff.1 h).1]; exact h
  have new : ∀ {i g : Nat} {ob : VObj}, (σ ++ vdead m)[i]? = some (g, ob) → ob.live → σ[i]? = some (g, ob) := by
    intro i g ob h hl
    by_cases hi : i < σ.length
    · rw [List.getElem?_append_left hi] at h; exact h
    · rw [List.getElem?_append_right (by omega)] at h
      have := List.eq_of_mem_replicate (List.mem_of_getElem? h)
      cases this; exact hl.elim
  have hst : Step σ β w (σ ++ vdead m) β w := by
    refine ⟨rfl, rfl, rfl, Nat.le_refl _, fun _ _ _ => rfl, fun _ _ h _ => h, ?_, ?_, fun _ arr _ _ h => ⟨arr, h, rfl⟩, fun i g ob h => ⟨g, ob, old h, Nat.le_refl _, fun _ => ⟨ob.alike_refl, rfl⟩⟩⟩
    · rintro b _ ⟨i, g, ob, h1, h2, h3⟩; exact ⟨i, g, ob, new h1 h3, h2, h3⟩
    · rintro b j _ ⟨i, g, ob, h1, h2, h3⟩; exact ⟨i, g, ob, new h1 (VObj.live_of_may h3), h2, h3⟩
  refine ⟨hst, fun i g ob h => ?_, fun i j b gi gj oi oj h1 h2 l1 l2 => hs.inj i j b gi gj oi oj (new h1 l1) (new h2 l2) l1 l2⟩
  by_cases hl : ob.live
  · exact (hs.obj i g ob (new h hl)).step hst fun _ _ => rfl
  · cases ob <;> simp [VObj.live] at hl; trivial

/-- THE BODY SHOWS THE CALL. -/
theorem T_of [Glob] {f : FuncId} {fn : Func} {raw : FuncId → Bool} {rw' : Bool} {vf : VFun} {args : List PV} {Post : KP} (hf : P.funcs[f]? = some fn) (hc : cFun P raw rw' fn = some vf)
    (h : vfun P vf args σ Post) : T P f args σ Post := by
  intro w β vs hl hr hs hg
  unfold cFun at hc
  split at hc
  · cases hc
  · rename_i c hb
    split at hc
    · rename_i vc rs hcode hres
      cases hc
      obtain ⟨hle, h⟩ := h
      simp only [] at hle
      obtain ⟨d1, d2⟩ := dead_ext hs (sitesOf P c).eraseDups.length
      have hfr : FrameRep w (σ ++ vdead (sitesOf P c).eraseDups.length) β (argsEnv args) { tmps := vs ++ Array.replicate (fn.ntmps - vs.size) undef, defers := [] } := by
        refine ⟨rfl, fun i => ?_, hg.step d1⟩
        simp only [argsEnv, Array.getD_eq_getD_getElem?]
        by_cases hi : i < args.length
        · rw [Array.getElem?_append_left (by omega), List.getElem?_eq_getElem hi, Array.getElem?_eq_getElem (by omega)]
          exact (hr i _ _ (List.getElem?_eq_getElem hi) (Array.getElem?_eq_getElem (by omega))).step d1
        · have e1 : args[i]? = none := List.getElem?_eq_none (by omega)
          have e2 : ((vs ++ Array.replicate (fn.ntmps - vs.size) undef)[i]?).getD undef = undef := by
            rw [Array.getElem?_append_right (by omega), Array.getElem?_replicate]
            split <;> rfl
          rw [e1, e2]; exact .tup [] #[] rfl (by simp)
      have hk := code_sound c vc _ _ β _ w (vend _ Post) hcode (by simp; omega) hfr d2 h
      refine calls_of_wp hf hb (wp_mono hk ?_)
      rintro e a' w' ⟨ve, env', σ', β', rfl, e2, e3, e4, e5, _⟩
      have fin : vret rw' (rvAll env' σ' rs) σ' Post → bodyPost P fn (fun e w' => ∃ v r σ' β', e = .returned v ∧ Post r σ' ∧ Rep w' σ' β' r v ∧ Sim σ' β' w' ∧ Step σ β w σ' β' w') .ret a' w' := by
        intro e2
        unfold vret at e2
        split at e2
        · rename_i r hrv
          obtain ⟨v, g1, g2⟩ := results_rep e4 e3 hres hrv
          split at e2
          · exact ⟨e3.defers, v, g1, v, r, σ', β', rfl, e2, g2, e4, d1.trans e5⟩
          · obtain ⟨k1, k2, k3⟩ := frz_rep e4 g2
            exact ⟨e3.defers, v, g1, v, _, _, β', rfl, e2, k1, k2, (d1.trans e5).trans k3⟩
        · exact e2.elim
      cases ve with
      | normal => exact fin e2
      | exit id => exact e2.elim
      | ret => exact fin e2
    · cases hc

end
end Go.V
