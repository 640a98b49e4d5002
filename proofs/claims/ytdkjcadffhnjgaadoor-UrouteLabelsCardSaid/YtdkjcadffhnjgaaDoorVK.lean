/- Of programs in the small language: what holds of less holds of more; which slots are looked at and written; orders that are open. -/
import Derived.Test.YtdkjcadffhnjgaaDoorV15
namespace Go.V
open Go

section
variable {P : Program} {n : Nat} {env : Env} {σ : VHeap} {K K' : KP}

theorem vNew_mono {id : Nat} {o : VObj} {K K' : Nat → VHeap → Prop} (k : ∀ r σ', K r σ' → K' r σ') (h : vNew id o σ K) : vNew id o σ K' := by
  unfold vNew at *; split at h <;> first | exact k _ _ h | exact h.elim
theorem eqK_mono {op : BinOp} {r : Bool} (k : ∀ r σ', K r σ' → K' r σ') (h : eqK op r σ K) : eqK op r σ K' := by
  unfold eqK at *; split at h <;> first | exact k _ _ h | exact h.elim
theorem nilK_mono {op : BinOp} {x : PV} (k : ∀ r σ', K r σ' → K' r σ') (h : nilK op x σ K) : nilK op x σ K' := by
  unfold nilK at *; split at h <;> first | exact eqK_mono k h | exact ⟨eqK_mono k h.1, fun e => eqK_mono k (h.2 e)⟩ | exact h.elim
theorem withMap_mono {x : PV} {L L' : Nat → Nat → Ents → Nat → Prop} (k : ∀ a b c d, L a b c d → L' a b c d) (h : withMap x σ L) : withMap x σ L' := by
  unfold withMap at *
  split at h
  · split at h <;> first | exact k _ _ _ _ h | exact h.elim
  · exact h.elim
theorem vField_mono {off : Nat} {x : PV} (k : ∀ r σ', K r σ' → K' r σ') (h : vField off x σ K) : vField off x σ K' := by
  unfold vField at *; split at h <;> first | exact ⟨h.1, k _ _ h.2⟩ | exact k _ _ h | exact h.elim
theorem X.mono [Glob] {f : FuncId} {args : List PV} (k : ∀ r σ', K r σ' → K' r σ') (h : X P f args σ K) : X P f args σ K' :=
  fun w β vs h1 h2 h3 h4 => let ⟨v, w', r, σ', β', e1, e2, e3⟩ := h w β vs h1 h2 h3 h4; ⟨v, w', r, σ', β', e1, k _ _ e2, e3⟩

theorem vop_mono [Glob] {op : VOp} (k : ∀ r σ', K r σ' → K' r σ') (h : vop P n env σ K op) : vop P n env σ K' op := by
  cases op <;> simp only [vop] at *
  case mov => exact k _ _ h
  case snap =>
    unfold vSnap at *
    split at h
    · split at h <;> first | exact ⟨h.1, k _ _ h.2⟩ | exact h.elim
    · exact h.elim
  case newRow => exact vNew_mono (fun _ _ => k _ _) h
  case pick => unfold vPick at *; split at h <;> first | exact k _ _ h | exact h.elim
  case alloc => exact vNew_mono (fun _ _ => k _ _) h
  case box => exact ⟨h.1, vNew_mono (fun _ _ => k _ _) h.2⟩
  case build => unfold vBuild at *; split at h <;> first | exact k _ _ h | exact h.elim
  case buildSlice => unfold vBuildSlice at *; split at h <;> first | exact vNew_mono (fun _ _ => k _ _) h | exact h.elim
  case load =>
    unfold vLoad at *
    split at h
    · split at h
      · split at h <;> first | exact k _ _ h | exact h.elim
      · exact h.elim
    · split at h
      · split at h
        · split at h <;> first | exact k _ _ h | exact h.elim
        · exact h.elim
      · exact h.elim
    · split at h <;> first | exact k _ _ h | exact h.elim
    · exact h.elim
  case store =>
    unfold vStore at *
    obtain ⟨h1, h2, h⟩ := h
    refine ⟨h1, h2, ?_⟩
    split at h
    · split at h <;> first | exact ⟨h.1, k _ _ h.2⟩ | exact h.elim
    · split at h
      · split at h <;> first | exact ⟨h.1, k _ _ h.2⟩ | exact h.elim
      · exact h.elim
    · exact h.elim
  case nilCheck => unfold vNilCheck at *; split at h <;> first | exact ⟨h.1, k _ _ h.2⟩ | exact k _ _ h | exact h.elim
  case bin =>
    unfold vBin at *
    split at h
    · split at h <;> first | exact k _ _ h | exact h.elim
    · split at h <;> first | exact k _ _ h | exact h.elim
    · exact ⟨h.1, eqK_mono k h.2⟩
    · exact ⟨h.1, eqK_mono k h.2⟩
    · exact ⟨h.1, h.2.1, eqK_mono k h.2.2⟩
    · exact ⟨h.1, nilK_mono k h.2⟩
    · exact h.elim
  case un =>
    unfold vUn at *
    split at h
    · exact k _ _ h
    · split at h <;> first | exact k _ _ h | exact h.elim
    · exact k _ _ h
    · exact h.elim
  case convInt => unfold vConvInt at *; split at h <;> first | exact k _ _ h | exact h.elim
  case convStr => unfold vConvStr at *; split at h <;> first | exact k _ _ h | exact h.elim
  case s2b => unfold vS2B at *; split at h <;> first | exact ⟨h.1, vNew_mono (fun _ _ => k _ _) h.2⟩ | exact h.elim
  case b2s =>
    unfold vB2S at *
    split at h
    · split at h <;> first | exact k _ _ h | exact h.elim
    · exact h.elim
  case func => exact k _ _ h
  case makeMap => exact vNew_mono (fun _ _ => k _ _) h
  case sliceStr =>
    unfold vSliceStr at *
    split at h
    · split at h <;> first | exact ⟨h.1, h.2.1, k _ _ h.2.2⟩ | exact h.elim
    · exact h.elim
  case slice =>
    unfold vSlice at *
    split at h
    · split at h <;> first | exact ⟨h.1, h.2.1, h.2.2.1, k _ _ h.2.2.2⟩ | exact h.elim
    · split at h <;> first | exact k _ _ h | exact h.elim
    · split at h
      · split at h <;> first | exact ⟨h.1, h.2.1, h.2.2.1, k _ _ h.2.2.2⟩ | exact h.elim
      · exact h.elim
    · split at h <;> first | exact ⟨h.1, h.2.1, h.2.2.1, h.2.2.2.1, k _ _ h.2.2.2.2⟩ | exact h.elim
    · exact h.elim
  case sliceArr =>
    unfold vSliceArr at *
    split at h
    · split at h
      · split at h <;> first | exact ⟨h.1, h.2.1, h.2.2.1, h.2.2.2.1, k _ _ h.2.2.2.2⟩ | exact h.elim
      · exact h.elim
    · exact h.elim
  case field => exact vField_mono k h
  case fieldVal =>
    unfold vFieldVal at *
    split at h
    · split at h <;> first | exact k _ _ h | exact h.elim
    · exact h.elim
  case index =>
    unfold vIndex at *
    split at h
    · refine ⟨h.1, ?_⟩
      have h := h.2
      split at h <;> first | exact ⟨h.1, k _ _ h.2⟩ | exact h.elim
    · split at h <;> first | exact ⟨h.1, h.2.1, h.2.2.1, k _ _ h.2.2.2⟩ | exact h.elim
    · exact ⟨h.1, h.2.1, h.2.2.1, h.2.2.2.1, k _ _ h.2.2.2.2⟩
    · exact h.elim
  case indexArr => unfold vIndexArr at *; split at h <;> first | exact ⟨h.1, h.2.1, vField_mono k h.2.2⟩ | exact h.elim
  case indexStr =>
    unfold vIndexStr at *
    split at h
    · refine ⟨h.1, ?_⟩
      have h := h.2
      split at h <;> first | exact k _ _ h | exact h.elim
    · exact h.elim
  case indexAgg =>
    unfold vIndexAgg at *
    split at h
    · refine ⟨h.1, h.2.1, ?_⟩
      have h := h.2.2
      split at h <;> first | exact k _ _ h | exact h.elim
    · exact h.elim
  case extract =>
    unfold vExtract at *
    split at h
    · split at h <;> first | exact k _ _ h | exact h.elim
    · exact h.elim
  case lookup =>
    refine ⟨h.1, withMap_mono (fun a b c d h => ?_) h.2⟩
    split at h <;> first | exact k _ _ h | exact h.elim
  case mapUpdate =>
    refine ⟨h.1, withMap_mono (fun a b c d h => ?_) h.2⟩
    split at h <;> first | exact k _ _ h | exact h.elim
  case rangeMap => exact withMap_mono (fun a b c d h => vNew_mono (fun _ _ => k _ _) h) h
  case rangeStr => unfold vRangeStr at *; split at h <;> first | exact vNew_mono (fun _ _ => k _ _) h | exact h.elim
  case nextMap =>
    unfold vNextMap at *
    split at h
    · split at h
      · split at h
        · refine ⟨h.1, fun c hc => ?_⟩
          have h := h.2 c hc
          split at h <;> exact k _ _ h
        · exact h.elim
      · exact h.elim
    · exact h.elim
  case nextStr =>
    unfold vNextStr at *
    split at h
    · split at h
      · split <;> rename_i hc <;> simp only [hc, if_true, if_false] at h <;> exact k _ _ h
      · exact h.elim
    · exact h.elim
  case entry =>
    unfold vEntry at *
    split at h
    · split at h
      · split at h
        · refine ⟨h.1, ?_⟩
          have h := h.2
          split at h
          · split at h <;> first | exact k _ _ h | exact h.elim
          · exact h.elim
        · exact h.elim
      · exact h.elim
    · exact h.elim
  case call raw f args => cases raw <;> simp only [vCall, if_true, Bool.false_eq_true, if_false] at * <;> exact T.mono h k
  case callV =>
    unfold vCallV at *
    split at h
    · simp only [if_true] at *
      exact ⟨h.1, T.mono h.2 k⟩
    · exact h.elim
  case len => unfold vLen at *; split at h <;> first | exact k _ _ h | exact h.elim
  case lenStr => unfold vLenStr at *; split at h <;> first | exact k _ _ h | exact h.elim
  case lenMap => exact withMap_mono (fun a b c d h => k _ _ h) h
  case append =>
    unfold vAppend at *
    split at h
    · refine ⟨h.1, ?_⟩
      have h := h.2
      split at h
      · split at h <;> first | exact ⟨h.1, h.2.1, k _ _ h.2.2⟩ | exact h.elim
      · exact ⟨h.1, vNew_mono (fun _ _ => k _ _) h.2⟩
      · exact h.elim
    · exact h.elim
  case delete =>
    refine ⟨h.1, withMap_mono (fun a b c d h => ?_) h.2⟩
    split at h <;> first | exact k _ _ h | exact h.elim
  case clearMap => exact withMap_mono (fun a b c d h => k _ _ h) h
  case minmax => unfold vMinMax at *; split at h <;> first | exact ⟨h.1, k _ _ h.2⟩ | exact h.elim
  case eqAgg =>
    unfold vEqAgg at *
    split at h
    · split at h <;> first | exact k _ _ h | exact h.elim
    · exact h.elim
  case sliceV =>
    unfold vSliceV at *
    split at h
    · split at h
      · split at h <;> first | exact ⟨h.1, h.2.1, h.2.2.1, k _ _ h.2.2.2⟩ | exact h.elim
      · exact h.elim
    · split at h
      · split at h <;> first | exact ⟨h.1, h.2.1, h.2.2.1, k _ _ h.2.2.2⟩ | exact h.elim
      · exact h.elim
    · exact h.elim
  case copyTo =>
    unfold vCopyTo at *
    split at h
    · refine ⟨h.1, ?_⟩
      have h := h.2
      split at h
      · split at h <;> first | exact ⟨h.1, h.2.1, k _ _ h.2.2⟩ | exact h.elim
      · split at h <;> first | exact ⟨h.1, k _ _ h.2⟩ | exact h.elim
      · split at h <;> first | exact ⟨h.1, h.2.1, k _ _ h.2.2⟩ | exact h.elim
      · exact k _ _ h
      · exact h.elim
    · exact h.elim
  case makeSlice => unfold vMakeSlice at *; split at h <;> first | exact ⟨h.1, h.2.1, h.2.2.1, h.2.2.2.1, vNew_mono (fun _ _ => k _ _) h.2.2.2.2⟩ | exact h.elim
  case clip => exact ⟨h.1, vNew_mono (fun _ _ => k _ _) h.2⟩
  case ext => exact X.mono k h

theorem vrunOps_mono [Glob] {K K' : Env → VHeap → Prop} (k : ∀ e s, K e s → K' e s) : ∀ (l : List VO) (env : Env) (σ : VHeap), vrunOps P n K l env σ → vrunOps P n K' l env σ
  | [], env, σ, h => k _ _ h
  | o :: l, env, σ, h => by
    simp only [vrunOps] at *
    split
    · exact vop_mono (fun r σ' h => vrunOps_mono k l _ _ h) (by simpa [*] using h)
    · rename_i slot pol hg
      simp only [hg] at h
      split
      · rename_i b hb
        simp only [hb] at h
        split
        · rename_i hp; rw [if_pos hp] at h; exact vop_mono (fun r σ' h => vrunOps_mono k l _ _ h) h
        · rename_i hp; rw [if_neg hp] at h; exact vrunOps_mono k l _ _ h
      · rename_i hb; simp only [hb] at h; exact vrunOps_mono k l _ _ h
      · rename_i h1 h2
        split at h
        · rename_i b hb; exact (h1 b hb).elim
        · rename_i hb; exact (h2 hb).elim
        · exact h

theorem vany_mono [Glob] {K K' : Env → VHeap → Prop} (k : ∀ e s, K e s → K' e s) {ops : List (VO × List Nat)} : ∀ (fuel : Nat) (listed : List Nat) (env : Env) (σ : VHeap), vany P n K ops fuel listed env σ → vany P n K' ops fuel listed env σ
  | 0, _, _, _, h => ⟨h.1, k _ _ h.2⟩
  | fuel + 1, _, _, _, h => ⟨fun e => k _ _ (h.1 e), fun i q h1 h2 => vrunOps_mono (fun e s h => vany_mono k fuel _ e s h) _ _ _ (h.2 i q h1 h2)⟩

theorem vrun_mono [Glob] : ∀ (c : VC) (env : Env) (σ : VHeap) {Q Q' : QP}, (∀ e env σ, Q e env σ → Q' e env σ) → vrun P n c env σ Q → vrun P n c env σ Q'
  | .skip, _, _, _, _, k, h => k _ _ _ h
  | .region ops, _, _, _, _, k, h => vrunOps_mono (fun _ _ h => k _ _ _ h) _ _ _ h
  | .seq x y, _, _, _, _, k, h => vrun_mono x _ _ (fun e env σ h => by
      cases e with
      | normal => exact vrun_mono y env σ k h
      | exit id => exact k _ _ _ h
      | ret => exact k _ _ _ h) h
  | .cond c x y, env, σ, _, _, k, h => by
    simp only [vrun, vcond] at *
    split at h
    · exact vrun_mono x _ _ k h
    · exact vrun_mono y _ _ k h
    · exact h.elim
  | .block id c, _, _, _, _, k, h => vrun_mono c _ _ (fun e env σ h => by
      cases e with
      | normal => exact k _ _ _ h
      | exit id' => simp only [QP.block] at *; split <;> rename_i hh <;> simp only [hh, if_true, if_false] at h <;> exact k _ _ _ h
      | ret => exact k _ _ _ h) h
  | .loop c, _, _, _, _, k, ⟨I, h1, h2⟩ => ⟨I, h1, fun m env σ hi => vrun_mono c _ _ (fun e env σ h => by
      cases e with
      | normal => exact h
      | exit id' => exact k _ _ _ h
      | ret => exact k _ _ _ h) (h2 m env σ hi)⟩
  | .exit id, _, _, _, _, k, h => k _ _ _ h
  | .ret, _, _, _, _, k, h => k _ _ _ h
  | .dreg ops _ _, _, _, _, _, k, h => vany_mono (fun _ _ h => k _ _ _ h) _ _ _ _ h
  | .stuck, _, _, _, _, _, h => h.elim
end

/-! ### Which slots are looked at. -/
def lkA : VA → List Nat
  | .t i => [i]
  | .c _ => []
def lkO : Option VA → List Nat
  | some x => lkA x
  | none => []
def looks : VOp → List Nat
  | .mov x | .snap x | .box _ x | .load _ x | .nilCheck x | .un _ x | .convInt _ x | .convStr x | .s2b _ x | .b2s x | .field _ x | .fieldVal _ _ x | .extract _ x | .rangeMap _ x | .rangeStr _ x | .nextMap x | .nextStr x | .entry x | .len x | .lenStr x | .lenMap x | .clearMap x | .clip _ _ x => lkA x
  | .newRow _ _ | .alloc _ _ | .makeMap _ | .bad => []
  | .pick c x y => lkA c ++ (lkA x ++ lkA y)
  | .build _ ps => ps.flatMap fun q => lkA q.2.2
  | .buildSlice _ _ _ _ ps => ps.flatMap fun q => lkA q.2
  | .store _ x v => lkA x ++ lkA v
  | .bin _ _ x y | .index _ x y | .indexArr _ _ x y | .indexStr x y | .indexAgg _ _ _ x y | .minmax _ x y | .eqAgg _ _ x y | .lookup _ _ _ x y | .append _ _ _ x y | .delete _ x y | .copyTo _ x y | .makeSlice _ _ _ _ x y => lkA x ++ lkA y
  | .func _ as | .call _ _ as | .ext _ as => as.flatMap lkA
  | .callV x as => lkA x ++ as.flatMap lkA
  | .sliceStr x l h | .slice _ x l h | .sliceArr _ _ x l h | .sliceV _ x l h => lkA x ++ (lkO l ++ lkO h)
  | .mapUpdate _ x k v => lkA x ++ (lkA k ++ lkA v)

section
variable {P : Program} {n : Nat} {σ : VHeap}
theorem va_congr {env env' : Env} {x : VA} (h : ∀ t, t ∈ lkA x → env' t = env t) : va env' x = va env x := by
  cases x with
  | t i => exact h i (by simp [lkA])
  | c v => rfl
theorem vao_congr {env env' : Env} {x : Option VA} (h : ∀ t, t ∈ lkO x → env' t = env t) : x.map (va env') = x.map (va env) := by
  cases x with
  | none => rfl
  | some x => simp only [Option.map_some]; rw [va_congr h]
theorem vas_congr {env env' : Env} {l : List VA} (h : ∀ t, t ∈ l.flatMap lkA → env' t = env t) : l.map (va env') = l.map (va env) :=
  List.map_congr_left fun x hx => va_congr fun t ht => h t (List.mem_flatMap.2 ⟨x, hx, ht⟩)

theorem vop_congr [Glob] {K : KP} {env env' : Env} {op : VOp} (h : ∀ t, t ∈ looks op → env' t = env t) : vop P n env' σ K op = vop P n env σ K op := by
  have two : ∀ {x y : VA}, (∀ t, t ∈ lkA x ++ lkA y → env' t = env t) → va env' x = va env x ∧ va env' y = va env y := fun h => ⟨va_congr fun t ht => h t (List.mem_append_left _ ht), va_congr fun t ht => h t (List.mem_append_right _ ht)⟩
  have sli : ∀ {x : VA} {l hh : Option VA}, (∀ t, t ∈ lkA x ++ (lkO l ++ lkO hh) → env' t = env t) → va env' x = va env x ∧ l.map (va env') = l.map (va env) ∧ hh.map (va env') = hh.map (va env) :=
    fun h => ⟨va_congr fun t ht => h t (List.mem_append_left _ ht), vao_congr fun t ht => h t (List.mem_append_right _ (List.mem_append_left _ ht)), vao_congr fun t ht => h t (List.mem_append_right _ (List.mem_append_right _ ht))⟩
  have three : ∀ {x y z : VA}, (∀ t, t ∈ lkA x ++ (lkA y ++ lkA z) → env' t = env t) → va env' x = va env x ∧ va env' y = va env y ∧ va env' z = va env z :=
    fun h => ⟨va_congr fun t ht => h t (List.mem_append_left _ ht), va_congr fun t ht => h t (List.mem_append_right _ (List.mem_append_left _ ht)), va_congr fun t ht => h t (List.mem_append_right _ (List.mem_append_right _ ht))⟩
  cases op <;> simp only [looks] at h <;> simp only [vop]
  all_goals first
    | (rw [va_congr h]; done)
    | (obtain ⟨e1, e2⟩ := two h; rw [e1, e2]; done)
    | (obtain ⟨e1, e2, e3⟩ := sli h; rw [e1, e2, e3]; done)
    | (obtain ⟨e1, e2, e3⟩ := three h; rw [e1, e2, e3]; done)
    | (rw [vas_congr h]; done)
    | skip
  case build zero parts =>
    have : (parts.map fun q => (q.1, q.2.1, va env' q.2.2)) = parts.map fun q => (q.1, q.2.1, va env q.2.2) :=
      List.map_congr_left fun q hq => by rw [va_congr fun t ht => h t (List.mem_flatMap.2 ⟨q, hq, ht⟩)]
    rw [this]
  case buildSlice s sz len zero parts =>
    have : (parts.map fun q => (q.1, va env' q.2)) = parts.map fun q => (q.1, va env q.2) :=
      List.map_congr_left fun q hq => by rw [va_congr fun t ht => h t (List.mem_flatMap.2 ⟨q, hq, ht⟩)]
    rw [this]
  case callV x as =>
    rw [va_congr fun t ht => h t (List.mem_append_left _ ht), vas_congr fun t ht => h t (List.mem_append_right _ ht)]
end
end Go.V
