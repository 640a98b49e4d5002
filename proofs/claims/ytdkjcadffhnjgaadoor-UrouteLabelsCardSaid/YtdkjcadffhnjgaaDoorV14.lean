/- The small language's operations, and how they come of the machine's. -/
import Derived.Test.YtdkjcadffhnjgaaDoorVF
namespace Go.V
open Go

inductive VOp where
  | mov (x : VA)
  | newRow (site sz : Nat)
  | pick (c x y : VA)
  | alloc (site : Nat) (zero : List PV)
  | box (site : Nat) (x : VA)
  | build (zero : List PV) (parts : List (Nat × Nat × VA))
  | buildSlice (site sz len : Nat) (zero : List PV) (parts : List (Nat × VA))
  | load (sz : Option Nat) (x : VA)
  | store (sz : Nat) (x v : VA)
  | nilCheck (x : VA)
  | bin (op : BinOp) (t : BT) (x y : VA)
  | un (op : UnOp) (x : VA)
  | convInt (k : IntKind) (x : VA)
  | convStr (x : VA)
  | s2b (site : Nat) (x : VA)
  | b2s (x : VA)
  | func (f : FuncId) (caps : List VA)
  | makeMap (site : Nat)
  | sliceStr (x : VA) (lo hi : Option VA)
  | slice (sz : Nat) (x : VA) (lo hi : Option VA)
  | sliceArr (n sz : Nat) (x : VA) (lo hi : Option VA)
  | field (off : Nat) (x : VA)
  | fieldVal (off : Nat) (r : Option Nat) (x : VA)
  | index (sz : Nat) (x i : VA)
  | indexArr (n sz : Nat) (x i : VA)
  | indexStr (x i : VA)
  | indexAgg (n sz : Nat) (r : Option Nat) (x i : VA)
  | extract (k : Nat) (x : VA)
  | lookup (b : Bool) (zero : PV) (ok : Bool) (x k : VA)
  | mapUpdate (b : Bool) (x k v : VA)
  | rangeMap (site : Nat) (x : VA)
  | rangeStr (site : Nat) (x : VA)
  | nextMap (x : VA)
  | nextStr (x : VA)
  | entry (x : VA)
  | call (raw : Bool) (f : FuncId) (args : List VA)
  | callV (x : VA) (args : List VA)
  | len (x : VA)
  | lenStr (x : VA)
  | lenMap (x : VA)
  | append (site sz bytes : Nat) (s x : VA)
  | delete (b : Bool) (x k : VA)
  | clearMap (x : VA)
  | minmax (mx : Bool) (x y : VA)
  | eqAgg (ks : List CK) (ne : Bool) (x y : VA)
  | sliceV (sz : Nat) (x : VA) (lo hi : Option VA)
  | copyTo (sz : Nat) (d x : VA)
  | makeSlice (site sz bytes : Nat) (zero : List PV) (x y : VA)
  | clip (site sz : Nat) (x : VA)
  | ext (f : FuncId) (args : List VA)
  | snap (x : VA)
  | bad
  deriving Inhabited

/-- What a call of a function does that has no body here. -/
def X [Glob] (P : Program) (f : FuncId) (args : List PV) (σ : VHeap) (Post : KP) : Prop :=
  ∀ (w : World) (β : Beta) (vs : Array Value), vs.size = args.length → (∀ (i : Nat) (c : PV) (v : Value), args[i]? = some c → vs[i]? = some v → Rep w σ β c v) → Sim σ β w → GloRep w σ β →
    ∃ v w' r σ' β', (callFunc f vs).run P w = .ok (.value v) w' ∧ Post r σ' ∧ Rep w' σ' β' r v ∧ Sim σ' β' w' ∧ Step σ β w σ' β' w'


def vop [Glob] (P : Program) (n : Nat) (env : Env) (σ : VHeap) (K : KP) : VOp → Prop
  | .mov x => vMov (va env x) σ K
  | .newRow s sz => vNewRow (n + s) sz σ K
  | .pick c x y => vPick (va env c) (va env x) (va env y) σ K
  | .alloc s zero => vAlloc (n + s) zero σ K
  | .box s x => vBox (n + s) (va env x) σ K
  | .build zero parts => vBuild zero (parts.map fun q => (q.1, q.2.1, va env q.2.2)) σ K
  | .buildSlice s sz len zero parts => vBuildSlice (n + s) sz len zero (parts.map fun q => (q.1, va env q.2)) σ K
  | .load sz x => vLoad sz (va env x) σ K
  | .store sz x v => vStore sz (va env x) (va env v) σ K
  | .nilCheck x => vNilCheck (va env x) σ K
  | .bin op t x y => vBin op t (va env x) (va env y) σ K
  | .un op x => vUn op (va env x) σ K
  | .convInt k x => vConvInt k (va env x) σ K
  | .convStr x => vConvStr (va env x) σ K
  | .s2b s x => vS2B (n + s) (va env x) σ K
  | .b2s x => vB2S (va env x) σ K
  | .func f caps => vFunc f (caps.map (va env)) σ K
  | .makeMap s => vMakeMap (n + s) σ K
  | .sliceStr x lo hi => vSliceStr (va env x) (lo.map (va env)) (hi.map (va env)) σ K
  | .slice sz x lo hi => vSlice sz (va env x) (lo.map (va env)) (hi.map (va env)) σ K
  | .sliceArr k sz x lo hi => vSliceArr k sz (va env x) (lo.map (va env)) (hi.map (va env)) σ K
  | .field off x => vField off (va env x) σ K
  | .fieldVal off r x => vFieldVal off r (va env x) σ K
  | .index sz x i => vIndex sz (va env x) (va env i) σ K
  | .indexArr k sz x i => vIndexArr k sz (va env x) (va env i) σ K
  | .indexStr x i => vIndexStr (va env x) (va env i) σ K
  | .indexAgg k sz r x i => vIndexAgg k sz r (va env x) (va env i) σ K
  | .extract k x => vExtract k (va env x) σ K
  | .lookup b zero ok x k => vLookup b zero ok (va env x) (va env k) σ K
  | .mapUpdate b x k v => vMapUpdate b (va env x) (va env k) (va env v) σ K
  | .rangeMap s x => vRangeMap (n + s) (va env x) σ K
  | .rangeStr s x => vRangeStr (n + s) (va env x) σ K
  | .nextMap x => vNextMap (va env x) σ K
  | .nextStr x => vNextStr (va env x) σ K
  | .entry x => vEntry (va env x) σ K
  | .call raw f args => vCall P raw f (args.map (va env)) σ K
  | .callV x args => vCallV P true (va env x) (args.map (va env)) σ K
  | .len x => vLen (va env x) σ K
  | .lenStr x => vLenStr (va env x) σ K
  | .lenMap x => vMapLen (va env x) σ K
  | .append s sz bytes x y => vAppend (n + s) sz bytes (va env x) (va env y) σ K
  | .delete b x k => vDelete b (va env x) (va env k) σ K
  | .clearMap x => vMapClear (va env x) σ K
  | .minmax mx x y => vMinMax mx (va env x) (va env y) σ K
  | .eqAgg ks ne x y => vEqAgg ks ne (va env x) (va env y) σ K
  | .sliceV sz x lo hi => vSliceV sz (va env x) (lo.map (va env)) (hi.map (va env)) σ K
  | .copyTo sz d x => vCopyTo sz (va env d) (va env x) σ K
  | .makeSlice s sz bytes zero x y => vMakeSlice (n + s) sz bytes zero (va env x) (va env y) σ K
  | .clip s sz x => vClip (n + s) sz (va env x) σ K
  | .ext f args => X P f (inlArgs σ (args.map (va env))) (frzArgs σ (args.map (va env))) K
  | .snap x => vSnap (va env x) σ K
  | .bad => False

def cParts [Glob] (place : Nat → Option (Nat × Nat)) (p : Nat × Operand) : Option (Nat × Nat × VA) :=
  match place p.1, cA p.2 with
  | some q, some x => some (q.1, q.2, x)
  | _, _ => none
def cParts' [Glob] (p : Nat × Operand) : Option (Nat × VA) := (cA p.2).map fun x => (p.1, x)
def sliceElem (P : Program) (t : TypeId) : Option TypeId := match P.underlying t with | some (.slice e) => some e | _ => none
def arrElem (P : Program) (t : TypeId) : Option (Nat × TypeId) := match P.underlying t with | some (.array n e) => some (n, e) | _ => none
def isStr (P : Program) (t : TypeId) : Bool := match P.underlying t with | some .string => true | _ => false
def isMap (P : Program) (t : TypeId) : Bool := match P.underlying t with | some (.map _ _) => true | _ => false
def intOfT (P : Program) (t : TypeId) : Option IntKind := match P.underlying t with | some (.int k) => some k | _ => none
def isByteT (P : Program) (t : TypeId) : Bool := match P.underlying t with | some (.int .u8) => true | _ => false

def isNil : Operand → Bool
  | .const (.slice none 0 0) => true
  | _ => false

def cBuiltin [Glob] (P : Program) (site : Nat) (b : Builtin) (args : List Operand) (argTypes : List TypeId) : Option VOp :=
  match b with
  | .len => match args, argTypes with
    | [x], [t] => (cA x).bind fun x => if isStr P t then some (.lenStr x) else if isMap P t then some (.lenMap x) else (sliceElem P t).map fun _ => .len x
    | _, _ => none
  | .append => match args, argTypes with
    | [s, x], [ts, tx] => (appT P ts tx).bind fun q => (cA s).bind fun s => (cA x).map fun x => .append site q.1 q.2 s x
    | _, _ => none
  | .delete => match args, argTypes with
    | [x, k], [t, _] => (keyT P t).bind fun q => (cA x).bind fun x => (cA k).map fun k => .delete q.1 x k
    | _, _ => none
  | .clear => match args, argTypes with
    | [x], [t] => if isMap P t then (cA x).map .clearMap else none
    | _, _ => none
  | .min => match args with
    | [x, y] => (cA x).bind fun x => (cA y).map fun y => .minmax false x y
    | _ => none
  | .max => match args with
    | [x, y] => (cA x).bind fun x => (cA y).map fun y => .minmax true x y
    | _ => none
  | _ => none

/-- What an operation of the machine is in the small language. -/
def cOp [Glob] (P : Program) (site : Nat) (raw : FuncId → Bool) (o : Oper) : Option VOp :=
  match o.op with
  | .move x => (cA x).map .mov
  | .assign x => if isNil x then (sliceElem P o.type).bind fun e => (sizeT P e).map fun sz => .newRow site sz else (cA x).map .mov
  | .pick c x y => (cA c).bind fun c => (cA x).bind fun x => (cA y).map fun y => .pick c x y
  | .alloc t => (zeroPV P t).map fun z => .alloc site z
  | .box _ x => (cA x).map fun x => .box site x
  | .build t parts => (zeroPV P t).bind fun z => (placeOf P t).bind fun pl => (parts.toList.mapM (cParts pl)).map fun ps => .build z ps
  | .buildSlice t len parts => (sliceElem P t).bind fun e => (sizeT P e).bind fun sz => (zeroPV P e).bind fun z => (parts.toList.mapM cParts').bind fun ps =>
      if z.length = sz ∧ len * sz ≤ 16777216 then some (.buildSlice site sz len z ps) else none
  | .load t x => (loadSz P t).bind fun sz => (cA x).map fun x => .load sz x
  | .store t x v => (sizeT P t).bind fun sz => (cA x).bind fun x => (cA v).map fun v => .store sz x v
  | .nilCheck x => (cA x).map .nilCheck
  | .binOp op t x y _ => (btOf P t).bind fun bt => (cA x).bind fun x => (cA y).map fun y => .bin op bt x y
  | .unOp op _ x => (cA x).map fun x => .un op x
  | .convert s t x => (cA x).bind fun x => match intOfT P s, intOfT P t with
    | some _, some k => some (.convInt k x)
    | _, _ => if isStr P s && isStr P t then some (.convStr x) else
      if isStr P s then (sliceElem P t).bind fun e => if isByteT P e then some (.s2b site x) else none
      else if isStr P t then (sliceElem P s).bind fun e => if isByteT P e then some (.b2s x) else none
      else none
  | .makeFunc (.func f) first caps => if first.isEmpty then (cAs caps.toList).map fun cs => .func f cs else none
  | .makeMap _ none => some (.makeMap site)
  | .slice t x lo hi none => (cA x).bind fun x => (cAo lo).bind fun lo => (cAo hi).bind fun hi =>
      if isStr P t then some (.sliceStr x lo hi) else match sliceElem P t, arrElem P t with
      | some e, _ => (sizeT P e).map fun sz => .slice sz x lo hi
      | none, some (n, e) => (sizeT P e).map fun sz => .sliceArr n sz x lo hi
      | none, none => none
  | .fieldAddr s x k => (fieldOff P s k).bind fun off => (cA x).map fun x => .field off x
  | .field t x k => (fieldVal P t k).bind fun q => (cA x).map fun x => .fieldVal q.1 q.2 x
  | .indexAddr t x i => (cA x).bind fun x => (cA i).bind fun i => match sliceElem P t, arrElem P t with
      | some e, _ => (sizeT P e).map fun sz => .index sz x i
      | none, some (n, e) => (sizeT P e).map fun sz => .indexArr n sz x i
      | none, none => none
  | .index t x i => (cA x).bind fun x => (cA i).bind fun i => if isStr P t then some (.indexStr x i) else
      (arrElem P t).bind fun q => (sizeT P q.2).bind fun sz => (loadSz P q.2).map fun r => .indexAgg q.1 sz r x i
  | .extract x k => (cA x).map fun x => .extract k x
  | .lookup t x k ok => (keyT P t).bind fun q => (zeroV P q.2).bind fun z => (cA x).bind fun x => (cA k).map fun k => .lookup q.1 z ok x k
  | .mapUpdate t x k v => (keyT P t).bind fun q => (cA x).bind fun x => (cA k).bind fun k => (cA v).map fun v => .mapUpdate q.1 x k v
  | .range t x => (cA x).bind fun x => if isStr P t then some (.rangeStr site x) else if isMap P t then some (.rangeMap site x) else none
  | .next x true => (cA x).map .nextStr
  | .next x false => (cA x).map .nextMap
  | .entry x => (cA x).map .entry
  | .call { callee := .value (.func f), args, argTypes := _ } => if callOk P f then (cAs args.toList).map fun as => .call (raw f) f as else none
  | .call { callee := .value x, args, argTypes := _ } => (cA x).bind fun x => (cAs args.toList).map fun as => .callV x as
  | .call { callee := .builtin b, args, argTypes } => cBuiltin P site b args.toList argTypes.toList
  | _ => none

section
variable {P : Program} {o : Oper} {a : Act} {σ : VHeap} {β : Beta} {w : World} {env : Env} {K : KP}

theorem sliceElem_ok {t e : TypeId} (h : sliceElem P t = some e) : P.underlying t = some (.slice e) := by unfold sliceElem at h; split at h <;> simp_all
theorem arrElem_ok {t e : TypeId} {n : Nat} (h : arrElem P t = some (n, e)) : P.underlying t = some (.array n e) := by unfold arrElem at h; split at h <;> simp_all
theorem isStr_ok {t : TypeId} (h : isStr P t = true) : P.underlying t = some .string := by unfold isStr at h; split at h <;> simp_all
theorem isMap_ok {t : TypeId} (h : isMap P t = true) : ∃ k e, P.underlying t = some (.map k e) := by unfold isMap at h; split at h <;> simp_all
theorem intOfT_ok {t : TypeId} {k : IntKind} (h : intOfT P t = some k) : P.underlying t = some (.int k) := by unfold intOfT at h; split at h <;> simp_all
theorem isByteT_ok {t : TypeId} (h : isByteT P t = true) : P.underlying t = some (.int .u8) := by unfold isByteT at h; split at h <;> simp_all
theorem isNil_ok {x : Operand} (h : isNil x = true) : x = .const (.slice none 0 0) := by unfold isNil at h; split at h <;> simp_all

theorem toList1 {α : Type} {l : Array α} {x : α} (h : l.toList = [x]) : l = #[x] := by apply Array.ext'; simpa using h
theorem toList2 {α : Type} {l : Array α} {x y : α} (h : l.toList = [x, y]) : l = #[x, y] := by apply Array.ext'; simpa using h

theorem cBuiltin_sound [Glob] {site n : Nat} {b : Builtin} {args : Array Operand} {ts : Array TypeId} {vo : VOp} (ho : o.op = .call { callee := .builtin b, args, argTypes := ts }) (h : cBuiltin P site b args.toList ts.toList = some vo) (hf : FrameRep w σ β env a) (hs : Sim σ β w)
    (hk : vop P n env σ K vo) : OpS P o a σ β w K := by
  unfold cBuiltin at h
  split at h
  · split at h
    · rename_i x t e1 e2
      rw [toList1 e1, toList1 e2] at ho
      simp only [Option.bind_eq_some_iff] at h; obtain ⟨x', hx, h⟩ := h
      split at h
      · rename_i hst; cases h; exact s_lenStr ho (isStr_ok hst) hx hf hs hk
      · split at h
        · rename_i hst; cases h; obtain ⟨k, e, hu⟩ := isMap_ok hst; exact s_mapLen ho hu hx hf hs hk
        · simp only [Option.map_eq_some_iff] at h; obtain ⟨e, he, rfl⟩ := h
          exact s_len ho (sliceElem_ok he) hx hf hs hk
    · cases h
  · split at h
    · rename_i s x t1 t2 e1 e2
      rw [toList2 e1, toList2 e2] at ho
      simp only [Option.bind_eq_some_iff, Option.map_eq_some_iff] at h; obtain ⟨⟨q1, q2⟩, hq, s', hs', x', hx, rfl⟩ := h
      exact s_append ho hq hs' hx hf hs hk
    · cases h
  · split at h
    · rename_i x k t1 t2 e1 e2
      rw [toList2 e1, toList2 e2] at ho
      simp only [Option.bind_eq_some_iff, Option.map_eq_some_iff] at h; obtain ⟨⟨q1, q2⟩, hq, x', hx, k', hk', rfl⟩ := h
      exact s_delete ho hq hx hk' hf hs hk
    · cases h
  · split at h
    · rename_i x t e1 e2
      rw [toList1 e1, toList1 e2] at ho
      split at h
      · rename_i hst
        simp only [Option.map_eq_some_iff] at h; obtain ⟨x', hx, rfl⟩ := h
        obtain ⟨k, e, hu⟩ := isMap_ok hst; exact s_mapClear ho hu hx hf hs hk
      · cases h
    · cases h
  · split at h
    · rename_i x y e1
      rw [toList2 e1] at ho
      simp only [Option.bind_eq_some_iff, Option.map_eq_some_iff] at h; obtain ⟨x', hx, y', hy, rfl⟩ := h
      exact s_min (mx := false) ho hx hy hf hs hk
    · cases h
  · split at h
    · rename_i x y e1
      rw [toList2 e1] at ho
      simp only [Option.bind_eq_some_iff, Option.map_eq_some_iff] at h; obtain ⟨x', hx, y', hy, rfl⟩ := h
      exact s_min (mx := true) ho hx hy hf hs hk
    · cases h
  · cases h

theorem cOp_sound [Glob] {site n : Nat} {raw : FuncId → Bool} {vo : VOp} (h : cOp P site raw o = some vo) (hf : FrameRep w σ β env a) (hs : Sim σ β w) (hk : ∀ vo', vo' = vo → vop P n env σ K vo') : OpS P o a σ β w K := by
  have hk := hk vo rfl
  unfold cOp at h
  split at h
  · rename_i x ho
    simp only [Option.map_eq_some_iff] at h; obtain ⟨y, hx, rfl⟩ := h
    exact s_mov (.inl ho) hx hf hs hk
  · rename_i x ho
    split at h
    · rename_i hn
      simp only [Option.bind_eq_some_iff, Option.map_eq_some_iff] at h; obtain ⟨e, _, sz, _, rfl⟩ := h
      exact s_newRow ho (isNil_ok hn) hs hk
    · simp only [Option.map_eq_some_iff] at h; obtain ⟨y, hx, rfl⟩ := h
      exact s_mov (.inr ho) hx hf hs hk
  · rename_i c x y ho
    simp only [Option.bind_eq_some_iff, Option.map_eq_some_iff] at h; obtain ⟨c', hc, x', hx, y', hy, rfl⟩ := h
    exact s_pick ho hc hx hy hf hs hk
  · rename_i t ho
    simp only [Option.map_eq_some_iff] at h; obtain ⟨z, hz, rfl⟩ := h
    exact s_alloc ho hz hs hk
  · rename_i t x ho
    simp only [Option.map_eq_some_iff] at h; obtain ⟨x', hx, rfl⟩ := h
    exact s_box ho hx hf hs hk
  · rename_i t parts ho
    simp only [Option.bind_eq_some_iff, Option.map_eq_some_iff] at h; obtain ⟨z, hz, pl, hpl, ps, hps, rfl⟩ := h
    obtain ⟨m1, m2⟩ := mapM_some hps
    refine s_build ho hz hpl m1.symm (fun i p q h1 h2 => ?_) hf hs hk
    have := m2 i p q h1 h2
    unfold cParts at this
    split at this
    · rename_i e1 e2; cases this; exact ⟨e1, e2⟩
    · cases this
  · rename_i t len parts ho
    simp only [Option.bind_eq_some_iff] at h; obtain ⟨e, he, sz, hsz, z, hz, ps, hps, h⟩ := h
    split at h
    · rename_i hc
      cases h
      obtain ⟨m1, m2⟩ := mapM_some hps
      refine s_buildSlice ho (sliceElem_ok he) hsz hz hc.1 hc.2 m1.symm (fun i p q h1 h2 => ?_) hf hs hk
      have := m2 i p q h1 h2
      unfold cParts' at this
      simp only [Option.map_eq_some_iff] at this; obtain ⟨y, hy, rfl⟩ := this
      exact ⟨rfl, hy⟩
    · cases h
  · rename_i t x ho
    simp only [Option.bind_eq_some_iff, Option.map_eq_some_iff] at h; obtain ⟨sz, hsz, x', hx, rfl⟩ := h
    exact s_load ho hsz hx hf hs hk
  · rename_i t x v ho
    simp only [Option.bind_eq_some_iff, Option.map_eq_some_iff] at h; obtain ⟨sz, hsz, x', hx, v', hv, rfl⟩ := h
    exact s_store ho hsz hx hv hf hs hk
  · rename_i x ho
    simp only [Option.map_eq_some_iff] at h; obtain ⟨y, hx, rfl⟩ := h
    exact s_nilCheck ho hx hf hs hk
  · rename_i op t x y t' ho
    simp only [Option.bind_eq_some_iff, Option.map_eq_some_iff] at h; obtain ⟨bt, hb, x', hx, y', hy, rfl⟩ := h
    exact s_bin ho hb hx hy hf hs hk
  · rename_i op t x ho
    simp only [Option.map_eq_some_iff] at h; obtain ⟨y, hx, rfl⟩ := h
    exact s_un ho hx hf hs hk
  · rename_i s t x ho
    simp only [Option.bind_eq_some_iff] at h; obtain ⟨x', hx, h⟩ := h
    split at h
    · rename_i j k hj hk'
      cases h
      exact s_convInt ho (intOfT_ok hj) (intOfT_ok hk') hx hf hs hk
    · split at h
      · rename_i hb
        cases h
        simp at hb
        exact s_convStr ho (isStr_ok hb.1) (isStr_ok hb.2) hx hf hs hk
      · split at h
        · rename_i hst
          simp only [Option.bind_eq_some_iff] at h; obtain ⟨e, he, h⟩ := h
          split at h
          · rename_i hb; cases h; exact s_s2b ho (isStr_ok hst) (sliceElem_ok he) (isByteT_ok hb) hx hf hs hk
          · cases h
        · split at h
          · rename_i hst
            simp only [Option.bind_eq_some_iff] at h; obtain ⟨e, he, h⟩ := h
            split at h
            · rename_i hb; cases h; exact s_b2s ho (sliceElem_ok he) (isByteT_ok hb) (isStr_ok hst) hx hf hs hk
            · cases h
          · cases h
  · rename_i f first caps ho
    split at h
    · rename_i he
      simp only [Option.map_eq_some_iff] at h; obtain ⟨cs, hcs, rfl⟩ := h
      have : first = #[] := Array.isEmpty_iff.1 he
      subst this
      exact s_func ho hcs hf hs hk
    · cases h
  · rename_i t ho
    cases h
    exact s_makeMap ho hs hk
  · rename_i t x lo hi ho
    simp only [Option.bind_eq_some_iff] at h; obtain ⟨x', hx, lo', hlo, hi', hhi, h⟩ := h
    split at h
    · rename_i hst; cases h; exact s_sliceStr ho (isStr_ok hst) hx hlo hhi hf hs hk
    · split at h
      · rename_i e q he
        simp only [Option.map_eq_some_iff] at h; obtain ⟨sz, hsz, rfl⟩ := h
        exact s_slice ho (sliceElem_ok he) hsz hx hlo hhi hf hs hk
      · rename_i k e he1 he
        simp only [Option.map_eq_some_iff] at h; obtain ⟨sz, hsz, rfl⟩ := h
        exact s_sliceArr ho (arrElem_ok he) hsz hx hlo hhi hf hs hk
      · cases h
  · rename_i s x k ho
    simp only [Option.bind_eq_some_iff, Option.map_eq_some_iff] at h; obtain ⟨off, hoff, x', hx, rfl⟩ := h
    exact s_field ho hoff hx hf hs hk
  · rename_i t x k ho
    simp only [Option.bind_eq_some_iff, Option.map_eq_some_iff] at h; obtain ⟨⟨q1, q2⟩, hq, x', hx, rfl⟩ := h
    exact s_fieldVal ho hq hx hf hs hk
  · rename_i t x i ho
    simp only [Option.bind_eq_some_iff] at h; obtain ⟨x', hx, i', hi, h⟩ := h
    split at h
    · rename_i e q he
      simp only [Option.map_eq_some_iff] at h; obtain ⟨sz, hsz, rfl⟩ := h
      exact s_index ho (sliceElem_ok he) hsz hx hi hf hs hk
    · rename_i k e he1 he
      simp only [Option.map_eq_some_iff] at h; obtain ⟨sz, hsz, rfl⟩ := h
      exact s_indexArr ho (arrElem_ok he) hsz hx hi hf hs hk
    · cases h
  · rename_i t x i ho
    simp only [Option.bind_eq_some_iff] at h; obtain ⟨x', hx, i', hi, h⟩ := h
    split at h
    · rename_i hst; cases h; exact s_indexStr ho (isStr_ok hst) hx hi hf hs hk
    · simp only [Option.bind_eq_some_iff, Option.map_eq_some_iff] at h; obtain ⟨⟨k, e⟩, hq, sz, hsz, r, hr, rfl⟩ := h
      exact s_indexAgg ho (arrElem_ok hq) hsz hr hx hi hf hs hk
  · rename_i x k ho
    simp only [Option.map_eq_some_iff] at h; obtain ⟨y, hx, rfl⟩ := h
    exact s_extract ho hx hf hs hk
  · rename_i t x k ok ho
    simp only [Option.bind_eq_some_iff, Option.map_eq_some_iff] at h; obtain ⟨⟨b, e⟩, hq, z, hz, x', hx, k', hk', rfl⟩ := h
    exact s_lookup ho hq hz hx hk' hf hs hk
  · rename_i t x k v ho
    simp only [Option.bind_eq_some_iff, Option.map_eq_some_iff] at h; obtain ⟨⟨b, e⟩, hq, x', hx, k', hk', v', hv, rfl⟩ := h
    exact s_mapUpdate ho hq hx hk' hv hf hs hk
  · rename_i t x ho
    simp only [Option.bind_eq_some_iff] at h; obtain ⟨x', hx, h⟩ := h
    split at h
    · rename_i hst; cases h; exact s_rangeStr ho (isStr_ok hst) hx hf hs hk
    · split at h
      · rename_i hst; cases h; obtain ⟨k, e, hu⟩ := isMap_ok hst; exact s_rangeMap ho hu hx hf hs hk
      · cases h
  · rename_i x ho
    simp only [Option.map_eq_some_iff] at h; obtain ⟨y, hx, rfl⟩ := h
    exact s_nextStr ho hx hf hs hk
  · rename_i x ho
    simp only [Option.map_eq_some_iff] at h; obtain ⟨y, hx, rfl⟩ := h
    exact s_nextMap ho hx hf hs hk
  · rename_i x ho
    simp only [Option.map_eq_some_iff] at h; obtain ⟨y, hx, rfl⟩ := h
    exact s_entry ho hx hf hs hk
  · rename_i f args ts ho
    split at h
    · rename_i hc
      simp only [Option.map_eq_some_iff] at h; obtain ⟨as, ha, rfl⟩ := h
      exact s_call ho hc ha hf hs hk
    · cases h
  · rename_i x args ts _ ho
    simp only [Option.bind_eq_some_iff, Option.map_eq_some_iff] at h; obtain ⟨x', hx, as, ha, rfl⟩ := h
    exact s_callV ho hx ha hf hs hk
  · rename_i b args ts ho
    exact cBuiltin_sound ho h hf hs hk
  · cases h

end

/-! ### What 'cOp' leaves. -/
/-- Is it the slice into which a copy is laid? -/
def copyDst (ops : Array Oper) (o : Oper) : Bool :=
  match o.dst with
  | some d => ops.any fun q => match q.op with
    | .call { callee := .builtin .copy, args, argTypes := _ } => match args.toList with
      | [.tmp t, _] => t == d
      | _ => false
    | _ => false
  | none => false
def isZero : Option Operand → Bool
  | some (.const (.int .i64 0)) => true
  | _ => false
def isNone {α : Type} : Option α → Bool
  | none => true
  | _ => false
def hasNoBody (P : Program) (f : FuncId) : Bool :=
  match P.funcs[f]? with
  | some fn => fn.name != "runtime.NumGoroutine" && fn.body.isNone
  | none => false
def cMore [Glob] (P : Program) (site : Nat) (o : Oper) : Option VOp :=
  match o.op with
  | .binOp op t x y _ => (flatT P 10000 t).bind fun ks => (cA x).bind fun x => (cA y).bind fun y =>
      if isAggT P t = some true ∧ P.eqGuardType P.depth t = false then (match op with | .eql => some (.eqAgg ks false x y) | .neq => some (.eqAgg ks true x y) | _ => none) else none
  | .slice t x lo hi mx => if (isNone lo || isZero lo) && isZero hi && isZero mx then (sliceElem P t).bind fun e => (sizeT P e).bind fun sz => (cA x).map fun x => .clip site sz x else none
  | .makeSlice t x y => (sliceElem P t).bind fun e => ((P.info? e).map fun i => (i.size, i.bytes)).bind fun q => (zeroPV P e).bind fun z => (cA x).bind fun x => (cA y).bind fun y =>
      if z.length = q.1 then some (.makeSlice site q.1 q.2 z x y) else none
  | .call { callee := .builtin .copy, args, argTypes } => match args.toList, argTypes.toList with
    | [d, x], [t, _] => (sliceElem P t).bind fun e => (sizeT P e).bind fun sz => (cA d).bind fun d => (cA x).map fun x => .copyTo sz d x
    | _, _ => none
  | .call { callee := .value (.func f), args, argTypes := _ } => if hasNoBody P f then (cAs args.toList).map fun as => .ext f as else none
  | _ => none
def cView [Glob] (P : Program) (o : Oper) : Option VOp :=
  match o.op with
  | .slice t x lo hi none => (cA x).bind fun x => (cAo lo).bind fun lo => (cAo hi).bind fun hi => (sliceElem P t).bind fun e => (sizeT P e).map fun sz => .sliceV sz x lo hi
  | _ => none
/-- Is a slot's row used further, though something is appended to it? (Told by 'raw' at a number beyond all functions.) -/
def cSnap [Glob] (raw : FuncId → Bool) (o : Oper) : Option VOp :=
  match o.dst, o.op with
  | some d, .move x => if raw (1000000 + d) then (cA x).map .snap else none
  | some d, .assign x => if raw (1000000 + d) && !isNil x then (cA x).map .snap else none
  | _, _ => none
def cAny0 [Glob] (P : Program) (site : Nat) (raw : FuncId → Bool) (ops : Array Oper) (o : Oper) : VOp :=
  match (if copyDst ops o then cView P o else none) with
  | some v => v
  | none => match cOp P site raw o with
    | some v => v
    | none => (cMore P site o).getD .bad
def cAny [Glob] (P : Program) (site : Nat) (raw : FuncId → Bool) (ops : Array Oper) (o : Oper) : VOp :=
  match cSnap raw o with
  | some v => v
  | none => cAny0 P site raw ops o

section
variable {P : Program} {o : Oper} {a : Act} {σ : VHeap} {β : Beta} {w : World} {env : Env} {K : KP}

theorem isZero_ok {x : Option Operand} (h : isZero x = true) : x = some (.const (.int .i64 0)) := by
  unfold isZero at h; split at h <;> simp_all
theorem isNone_ok {α : Type} {x : Option α} (h : isNone x = true) : x = none := by unfold isNone at h; split at h <;> simp_all

theorem s_ext [Glob] {f : FuncId} {args : Array Operand} {args' : List VA} {ts : Array TypeId} (ho : o.op = .call { callee := .value (.func f), args, argTypes := ts }) (ha : cAs args.toList = some args')
    (hf : FrameRep w σ β env a) (hs : Sim σ β w) (hk : X P f (inlArgs σ (args'.map (va env))) (frzArgs σ (args'.map (va env))) K) : OpS P o a σ β w K := by
  have hr := args_rep hf ha
  obtain ⟨e1, e2, e3⟩ := frzArgs_rep hs hr
  obtain ⟨v, w', r, σ', β', q1, q2, q3, q4, q5⟩ := hk w β _ e1.1.symm e1.2 e2 (hf.glo.step e3)
  refine OpS.value (v := v) (w' := w') ?_ q2 q3 q4 (e3.trans q5)
  rw [← q1]
  simp [execOp, ho, resolve, Act.eval, Deferred.ofValue, invoke]

theorem cMore_sound [Glob] {site n : Nat} {vo : VOp} (h : cMore P site o = some vo) (hf : FrameRep w σ β env a) (hs : Sim σ β w) (hk : vop P n env σ K vo) : OpS P o a σ β w K := by
  unfold cMore at h
  split at h
  · rename_i op t x y t' ho
    simp only [Option.bind_eq_some_iff] at h; obtain ⟨ks, hks, x', hx, y', hy, h⟩ := h
    split at h
    case isFalse => cases h
    rename_i hc
    split at h
    · cases h; exact s_eqAgg (ne := false) ho (by simp) hks hc.1 hc.2 hx hy hf hs hk
    · cases h; exact s_eqAgg (ne := true) ho (by simp) hks hc.1 hc.2 hx hy hf hs hk
    · cases h
  · rename_i t x lo hi mx ho
    split at h
    case isFalse => cases h
    rename_i hc
    simp only [Bool.and_eq_true, Bool.or_eq_true] at hc
    simp only [Option.bind_eq_some_iff, Option.map_eq_some_iff] at h; obtain ⟨e, he, sz, hsz, x', hx, rfl⟩ := h
    exact s_clip ho ⟨hc.1.1.imp isNone_ok isZero_ok, isZero_ok hc.1.2, isZero_ok hc.2⟩ (sliceElem_ok he) (by rw [hsz]; rfl) hx hf hs hk
  · rename_i t x y ho
    simp only [Option.bind_eq_some_iff] at h; obtain ⟨e, he, q, hq, z, hz, x', hx, y', hy, h⟩ := h
    split at h
    · rename_i hl; cases h; exact s_makeSlice ho (sliceElem_ok he) hq hz hl hx hy hf hs hk
    · cases h
  · rename_i args ts ho
    split at h
    · rename_i d x t t2 e1 e2
      rw [toList2 e1, toList2 e2] at ho
      simp only [Option.bind_eq_some_iff, Option.map_eq_some_iff] at h; obtain ⟨e, he, sz, hsz, d', hd, x', hx, rfl⟩ := h
      exact s_copy ho (sliceElem_ok he) hsz hd hx hf hs hk
    · cases h
  · rename_i f args ts ho
    split at h
    · simp only [Option.map_eq_some_iff] at h; obtain ⟨as, ha, rfl⟩ := h
      exact s_ext ho ha hf hs hk
    · cases h
  · cases h

theorem cView_sound [Glob] {n : Nat} {vo : VOp} (h : cView P o = some vo) (hf : FrameRep w σ β env a) (hs : Sim σ β w) (hk : vop P n env σ K vo) : OpS P o a σ β w K := by
  unfold cView at h
  split at h
  · rename_i t x lo hi ho
    simp only [Option.bind_eq_some_iff, Option.map_eq_some_iff] at h; obtain ⟨x', hx, lo', hlo, hi', hhi, e, he, sz, hsz, rfl⟩ := h
    exact s_sliceV ho (sliceElem_ok he) hsz hx hlo hhi hf hs hk
  · cases h

theorem cAny0_sound [Glob] {site n : Nat} {raw : FuncId → Bool} {ops : Array Oper} (hf : FrameRep w σ β env a) (hs : Sim σ β w) (hk : vop P n env σ K (cAny0 P site raw ops o)) : OpS P o a σ β w K := by
  unfold cAny0 at hk
  split at hk
  · rename_i v hv
    split at hv
    · exact cView_sound hv hf hs hk
    · cases hv
  · split at hk
    · rename_i v hv
      exact cOp_sound hv hf hs fun vo' e => by rw [e]; exact hk
    · cases hm : cMore P site o with
      | some v => rw [hm] at hk; exact cMore_sound hm hf hs hk
      | none => rw [hm] at hk; exact hk.elim

theorem cAny_sound [Glob] {site n : Nat} {raw : FuncId → Bool} {ops : Array Oper} (hf : FrameRep w σ β env a) (hs : Sim σ β w) (hk : vop P n env σ K (cAny P site raw ops o)) : OpS P o a σ β w K := by
  unfold cAny at hk
  split at hk
  · rename_i v hv
    unfold cSnap at hv
    split at hv
    · rename_i d x _ ho
      split at hv
      · simp only [Option.map_eq_some_iff] at hv; obtain ⟨y, hx, rfl⟩ := hv
        exact s_snap (.inl ho) hx hf hs hk
      · cases hv
    · rename_i d x _ ho
      split at hv
      · simp only [Option.map_eq_some_iff] at hv; obtain ⟨y, hx, rfl⟩ := hv
        exact s_snap (.inr ho) hx hf hs hk
      · cases hv
    · cases hv
  · exact cAny0_sound hf hs hk

end
end Go.V
