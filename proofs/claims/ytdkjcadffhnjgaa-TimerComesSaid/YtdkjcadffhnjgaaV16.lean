/- The small language's steps, for walking. -/
import Derived.Test.YtdkjcadffhnjgaaV15
namespace Go.V
open Go

theorem vGet_app {σ τ : VHeap} {id g : Nat} {o : VObj} (h : vGet σ id g = some o) : vGet (σ ++ τ) id g = some o := by
  have h1 := vGet_some h
  unfold vGet
  rw [List.getElem?_append_left (List.getElem?_eq_some_iff.1 h1).1, h1]
  simp

section
variable {P : Program} {n : Nat} {K : Env → VHeap → Prop} {r : List VO} {env : Env} {σ : VHeap} {d : Option Nat}

theorem st_mov {x : VA} (k : vrunOps P n K r (eput env d (va env x)) σ) : vrunOps P n K (⟨d, .mov x, none⟩ :: r) env σ := k
theorem st_pickT {c x y : VA} (h : va env c = .bool true) (k : vrunOps P n K r (eput env d (va env x)) σ) : vrunOps P n K (⟨d, .pick c x y, none⟩ :: r) env σ := by
  simp only [vrunOps, vop]; rw [h]; exact k
theorem st_pickF {c x y : VA} (h : va env c = .bool false) (k : vrunOps P n K r (eput env d (va env y)) σ) : vrunOps P n K (⟨d, .pick c x y, none⟩ :: r) env σ := by
  simp only [vrunOps, vop]; rw [h]; exact k
theorem st_loadP {x : VA} {sz : Option Nat} {id g off : Nat} {cs : List PV} {fz : Bool} {c : PV} (h : va env x = .ptr id g off) (hg : vGet σ id g = some (.box cs fz)) (hc : cut cs off sz = some c) (k : vrunOps P n K r (eput env d c) σ) :
    vrunOps P n K (⟨d, .load sz x, none⟩ :: r) env σ := by
  simp only [vrunOps, vop]; rw [h]; simp only [vLoad, hg, hc]; exact k
theorem st_loadR {x : VA} {sz : Option Nat} {id g i off s : Nat} {es : List (List PV)} {fz : Bool} {e : List PV} {c : PV} (h : va env x = .rptr id g i off) (hg : vGet σ id g = some (.row s es fz)) (he : es[i]? = some e) (hc : cut e off sz = some c)
    (k : vrunOps P n K r (eput env d c) σ) : vrunOps P n K (⟨d, .load sz x, none⟩ :: r) env σ := by
  simp only [vrunOps, vop]; rw [h]; simp only [vLoad, hg, he, hc]; exact k
theorem st_loadI {x : VA} {sz : Option Nat} {cs : List PV} {off : Nat} {c : PV} (h : va env x = .iptr cs off) (hc : cut cs off sz = some c) (k : vrunOps P n K r (eput env d c) σ) :
    vrunOps P n K (⟨d, .load sz x, none⟩ :: r) env σ := by
  simp only [vrunOps, vop]; rw [h]; simp only [vLoad, hc]; exact k
theorem st_store {x v : VA} {sz id g off : Nat} {cs : List PV} (h : va env x = .ptr id g off) (hl : (pcells (va env v)).length = sz) (ha : (pcells (va env v)).all scalar = true) (hg : vGet σ id g = some (.box cs false)) (hle : off + sz ≤ cs.length)
    (k : vrunOps P n K r (eput env d .undef) (σ.set id (g, .box (splice cs off (pcells (va env v))) false))) : vrunOps P n K (⟨d, .store sz x v, none⟩ :: r) env σ := by
  simp only [vrunOps, vop]; unfold vStore; rw [h]; simp only [hg]; exact ⟨hl, ha, hle, k⟩
theorem st_nilP {x : VA} {id g off : Nat} {o : VObj} (h : va env x = .ptr id g off) (hg : vGet σ id g = some o) (k : vrunOps P n K r (eput env d (.ptr id g off)) σ) : vrunOps P n K (⟨d, .nilCheck x, none⟩ :: r) env σ := by
  simp only [vrunOps, vop]; rw [h]; exact ⟨⟨o, hg⟩, k⟩
theorem st_nilR {x : VA} {id g i off : Nat} {o : VObj} (h : va env x = .rptr id g i off) (hg : vGet σ id g = some o) (k : vrunOps P n K r (eput env d (.rptr id g i off)) σ) : vrunOps P n K (⟨d, .nilCheck x, none⟩ :: r) env σ := by
  simp only [vrunOps, vop]; rw [h]; exact ⟨⟨o, hg⟩, k⟩
theorem st_nilI {x : VA} {cs : List PV} {off : Nat} (h : va env x = .iptr cs off) (k : vrunOps P n K r (eput env d (.iptr cs off)) σ) : vrunOps P n K (⟨d, .nilCheck x, none⟩ :: r) env σ := by
  simp only [vrunOps, vop]; rw [h]; exact k
theorem st_fieldP {x : VA} {q id g off : Nat} {o : VObj} (h : va env x = .ptr id g off) (hg : vGet σ id g = some o) (k : vrunOps P n K r (eput env d (.ptr id g (off + q))) σ) : vrunOps P n K (⟨d, .field q x, none⟩ :: r) env σ := by
  simp only [vrunOps, vop]; rw [h]; exact ⟨⟨o, hg⟩, k⟩
theorem st_fieldR {x : VA} {q id g i off : Nat} {o : VObj} (h : va env x = .rptr id g i off) (hg : vGet σ id g = some o) (k : vrunOps P n K r (eput env d (.rptr id g i (off + q))) σ) : vrunOps P n K (⟨d, .field q x, none⟩ :: r) env σ := by
  simp only [vrunOps, vop]; rw [h]; exact ⟨⟨o, hg⟩, k⟩
theorem st_fieldI {x : VA} {q : Nat} {cs : List PV} {off : Nat} (h : va env x = .iptr cs off) (k : vrunOps P n K r (eput env d (.iptr cs (off + q))) σ) : vrunOps P n K (⟨d, .field q x, none⟩ :: r) env σ := by
  simp only [vrunOps, vop]; rw [h]; exact k
theorem st_bin {op : BinOp} {t : BT} {x y : VA} {k1 k2 : IntKind} {a b : Int} {c : PV} (h1 : va env x = .int k1 a) (h2 : va env y = .int k2 b) (hc : ibin op k1 a k2 b = some c) (k : vrunOps P n K r (eput env d c) σ) :
    vrunOps P n K (⟨d, .bin op t x y, none⟩ :: r) env σ := by
  simp only [vrunOps, vop]; rw [h1, h2]; simp only [vBin, hc]; exact k
theorem st_binS {op : BinOp} {t : BT} {x y : VA} {a b : List UInt8} {c : PV} (h1 : va env x = .str a) (h2 : va env y = .str b) (hc : sbin op a b = some c) (k : vrunOps P n K r (eput env d c) σ) :
    vrunOps P n K (⟨d, .bin op t x y, none⟩ :: r) env σ := by
  simp only [vrunOps, vop]; rw [h1, h2]; simp only [vBin, hc]; exact k
theorem st_eqB {x y : VA} {a b : Bool} (h1 : va env x = .bool a) (h2 : va env y = .bool b) (k : vrunOps P n K r (eput env d (.bool (a == b))) σ) : vrunOps P n K (⟨d, .bin .eql .bool x y, none⟩ :: r) env σ := by
  simp only [vrunOps, vop]; rw [h1, h2]; exact ⟨rfl, k⟩
theorem st_neB {x y : VA} {a b : Bool} (h1 : va env x = .bool a) (h2 : va env y = .bool b) (k : vrunOps P n K r (eput env d (.bool (!(a == b)))) σ) : vrunOps P n K (⟨d, .bin .neq .bool x y, none⟩ :: r) env σ := by
  simp only [vrunOps, vop]; rw [h1, h2]; exact ⟨rfl, k⟩
theorem st_ptrNil {x y : VA} {id g off : Nat} {o : VObj} (h1 : va env x = .ptr id g off) (h2 : va env y = .nilp) (hg : vGet σ id g = some o) (k : vrunOps P n K r (eput env d (.bool false)) σ) : vrunOps P n K (⟨d, .bin .eql .ptr x y, none⟩ :: r) env σ := by
  simp only [vrunOps, vop]; rw [h1, h2]; exact ⟨rfl, ⟨o, hg⟩, k⟩
theorem st_not {x : VA} {b : Bool} (h : va env x = .bool b) (k : vrunOps P n K r (eput env d (.bool (!b))) σ) : vrunOps P n K (⟨d, .un .not x, none⟩ :: r) env σ := by
  simp only [vrunOps, vop]; rw [h]; exact k
theorem st_neg {x : VA} {q : IntKind} {m : Int} (h : va env x = .int q m) (k : vrunOps P n K r (eput env d (.int q (q.wrap (0 - m)))) σ) : vrunOps P n K (⟨d, .un .neg x, none⟩ :: r) env σ := by
  simp only [vrunOps, vop]; rw [h]; exact k
theorem st_convInt {x : VA} {q q' : IntKind} {m : Int} (h : va env x = .int q' m) (k : vrunOps P n K r (eput env d (.int q (q.wrap m))) σ) : vrunOps P n K (⟨d, .convInt q x, none⟩ :: r) env σ := by
  simp only [vrunOps, vop]; rw [h]; exact k
theorem st_extract {x : VA} {j : Nat} {vs : List PV} {v : PV} (h : va env x = .tup vs) (hv : vs[j]? = some v) (k : vrunOps P n K r (eput env d v) σ) : vrunOps P n K (⟨d, .extract j x, none⟩ :: r) env σ := by
  simp only [vrunOps, vop]; rw [h]; simp only [vExtract, hv]; exact k
theorem st_newRow {s sz g : Nat} {o : VObj} (h : σ[n + s]? = some (g, o)) (k : vrunOps P n K r (eput env d (.row (n + s) (g + 1))) (σ.set (n + s) (g + 1, .row sz [] false))) : vrunOps P n K (⟨d, .newRow s sz, none⟩ :: r) env σ := by
  simp only [vrunOps, vop, vNewRow, vNew, h]; exact k
theorem st_alloc {s g : Nat} {z : List PV} {o : VObj} (h : σ[n + s]? = some (g, o)) (k : vrunOps P n K r (eput env d (.ptr (n + s) (g + 1) 0)) (σ.set (n + s) (g + 1, .box z false))) : vrunOps P n K (⟨d, .alloc s z, none⟩ :: r) env σ := by
  simp only [vrunOps, vop, vAlloc, vNew, h]; exact k
theorem st_box {s g : Nat} {x : VA} {o : VObj} (ha : (pcells (va env x)).all scalar = true) (h : σ[n + s]? = some (g, o)) (k : vrunOps P n K r (eput env d (.ptr (n + s) (g + 1) 0)) (σ.set (n + s) (g + 1, .box (pcells (va env x)) false))) :
    vrunOps P n K (⟨d, .box s x, none⟩ :: r) env σ := by
  simp only [vrunOps, vop, vBox, vNew, h]; exact ⟨ha, k⟩
theorem st_build {z cs : List PV} {ps : List (Nat × Nat × VA)} (h : vFill z (ps.map fun q => (q.1, q.2.1, va env q.2.2)) = some cs) (k : vrunOps P n K r (eput env d (.agg cs)) σ) : vrunOps P n K (⟨d, .build z ps, none⟩ :: r) env σ := by
  simp only [vrunOps, vop, vBuild, h]; exact k
theorem st_buildSlice {s sz len g : Nat} {z : List PV} {ps : List (Nat × VA)} {es : List (List PV)} {o : VObj} (h : vFillRow sz (List.replicate len z) (ps.map fun q => (q.1, va env q.2)) = some es) (hg : σ[n + s]? = some (g, o))
    (k : vrunOps P n K r (eput env d (.row (n + s) (g + 1))) (σ.set (n + s) (g + 1, .row sz es false))) : vrunOps P n K (⟨d, .buildSlice s sz len z ps, none⟩ :: r) env σ := by
  simp only [vrunOps, vop, vBuildSlice, h, vNew, hg]; exact k
theorem st_makeMap {s g : Nat} {o : VObj} (h : σ[n + s]? = some (g, o)) (k : vrunOps P n K r (eput env d (.map (n + s) (g + 1))) (σ.set (n + s) (g + 1, .map [] 0))) : vrunOps P n K (⟨d, .makeMap s, none⟩ :: r) env σ := by
  simp only [vrunOps, vop, vMakeMap, vNew, h]; exact k
theorem st_lookF {b ok : Bool} {z : PV} {x y : VA} {id g i bn clock : Nat} {es : Ents} {v : PV} (h : va env x = .map id g) (hg : vGet σ id g = some (.map es clock)) (hk : keyV b (va env y) = true) (hl : look (va env y) es = some (some (i, v, bn)))
    (k : vrunOps P n K r (eput env d (if ok then .tup [v, .bool true] else v)) σ) : vrunOps P n K (⟨d, .lookup b z ok x y, none⟩ :: r) env σ := by
  simp only [vrunOps, vop]; rw [h]; simp only [vLookup, withMap, hg, hl]; exact ⟨hk, k⟩
theorem st_lookN {b ok : Bool} {z : PV} {x y : VA} {id g clock : Nat} {es : Ents} (h : va env x = .map id g) (hg : vGet σ id g = some (.map es clock)) (hk : keyV b (va env y) = true) (hl : look (va env y) es = some none)
    (k : vrunOps P n K r (eput env d (if ok then .tup [z, .bool false] else z)) σ) : vrunOps P n K (⟨d, .lookup b z ok x y, none⟩ :: r) env σ := by
  simp only [vrunOps, vop]; rw [h]; simp only [vLookup, withMap, hg, hl]; exact ⟨hk, k⟩
theorem st_updF {b : Bool} {x y v : VA} {id g i bn clock : Nat} {es : Ents} {v0 : PV} (h : va env x = .map id g) (hg : vGet (frz σ (va env v)) id g = some (.map es clock)) (hk : keyV b (va env y) = true) (hl : look (va env y) es = some (some (i, v0, bn)))
    (k : vrunOps P n K r (eput env d .undef) ((frz σ (va env v)).set id (g, .map (es.set i (va env y, inl σ (va env v), bn)) clock))) : vrunOps P n K (⟨d, .mapUpdate b x y v, none⟩ :: r) env σ := by
  simp only [vrunOps, vop]; rw [h]; simp only [vMapUpdate, withMap, hg, hl]; exact ⟨hk, k⟩
theorem st_updN {b : Bool} {x y v : VA} {id g clock : Nat} {es : Ents} (h : va env x = .map id g) (hg : vGet (frz σ (va env v)) id g = some (.map es clock)) (hk : keyV b (va env y) = true) (hl : look (va env y) es = some none)
    (k : vrunOps P n K r (eput env d .undef) ((frz σ (va env v)).set id (g, .map (es ++ [(va env y, inl σ (va env v), clock)]) (clock + 1)))) : vrunOps P n K (⟨d, .mapUpdate b x y v, none⟩ :: r) env σ := by
  simp only [vrunOps, vop]; rw [h]; simp only [vMapUpdate, withMap, hg, hl]; exact ⟨hk, k⟩
theorem st_delF {b : Bool} {x y : VA} {id g i bn clock : Nat} {es : Ents} {v0 : PV} (h : va env x = .map id g) (hg : vGet σ id g = some (.map es clock)) (hk : keyV b (va env y) = true) (hl : look (va env y) es = some (some (i, v0, bn)))
    (k : vrunOps P n K r (eput env d (.tup [])) (σ.set id (g, .map (es.eraseIdx i) clock))) : vrunOps P n K (⟨d, .delete b x y, none⟩ :: r) env σ := by
  simp only [vrunOps, vop]; rw [h]; simp only [vDelete, withMap, hg, hl]; exact ⟨hk, k⟩
theorem st_delN {b : Bool} {x y : VA} {id g clock : Nat} {es : Ents} (h : va env x = .map id g) (hg : vGet σ id g = some (.map es clock)) (hk : keyV b (va env y) = true) (hl : look (va env y) es = some none)
    (k : vrunOps P n K r (eput env d (.tup [])) (σ.set id (g, .map es clock))) : vrunOps P n K (⟨d, .delete b x y, none⟩ :: r) env σ := by
  simp only [vrunOps, vop]; rw [h]; simp only [vDelete, withMap, hg, hl]; exact ⟨hk, k⟩
theorem st_lenMap {x : VA} {id g clock : Nat} {es : Ents} (h : va env x = .map id g) (hg : vGet σ id g = some (.map es clock)) (k : vrunOps P n K r (eput env d (.int .i64 es.length)) σ) : vrunOps P n K (⟨d, .lenMap x, none⟩ :: r) env σ := by
  simp only [vrunOps, vop]; rw [h]; simp only [vMapLen, withMap, hg]; exact k
theorem st_clearMap {x : VA} {id g clock : Nat} {es : Ents} (h : va env x = .map id g) (hg : vGet σ id g = some (.map es clock)) (k : vrunOps P n K r (eput env d (.tup [])) (σ.set id (g, .map [] clock))) : vrunOps P n K (⟨d, .clearMap x, none⟩ :: r) env σ := by
  simp only [vrunOps, vop]; rw [h]; simp only [vMapClear, withMap, hg]; exact k
theorem st_len {x : VA} {es : List (List PV)} (h : rd σ (va env x) = some es) (k : vrunOps P n K r (eput env d (.int .i64 es.length)) σ) : vrunOps P n K (⟨d, .len x, none⟩ :: r) env σ := by
  simp only [vrunOps, vop, vLen, h]; exact k
theorem st_lenStr {x : VA} {s : List UInt8} (h : va env x = .str s) (k : vrunOps P n K r (eput env d (.int .i64 s.length)) σ) : vrunOps P n K (⟨d, .lenStr x, none⟩ :: r) env σ := by
  simp only [vrunOps, vop]; rw [h]; exact k
theorem st_indexS {sz : Nat} {x y : VA} {es : List (List PV)} {e : List PV} {q : IntKind} {i : Nat} (h : va env x = .sl es) (hi : va env y = .int q i) (he : es[i]? = some e) (hl : e.length = sz) (k : vrunOps P n K r (eput env d (.iptr e 0)) σ) :
    vrunOps P n K (⟨d, .index sz x y, none⟩ :: r) env σ := by
  simp only [vrunOps, vop]; rw [h, hi]; simp only [vIndex, Int.toNat_natCast, he]; exact ⟨by omega, hl, k⟩
theorem st_indexR {sz : Nat} {x y : VA} {es : List (List PV)} {fz : Bool} {id g : Nat} {q : IntKind} {i : Nat} (h : va env x = .row id g) (hi : va env y = .int q i) (hg : vGet σ id g = some (.row sz es fz)) (hl : i < es.length) (k : vrunOps P n K r (eput env d (.rptr id g i 0)) σ) :
    vrunOps P n K (⟨d, .index sz x y, none⟩ :: r) env σ := by
  simp only [vrunOps, vop]; rw [h, hi]; simp only [vIndex, hg, Int.toNat_natCast]; exact ⟨trivial, by omega, by omega, k⟩
theorem st_callV {f : FuncId} {args : List VA} (k : T P f (inlArgs σ (args.map (va env))) (frzArgs σ (args.map (va env))) (fun v σ' => vrunOps P n K r (eput env d v) σ')) : vrunOps P n K (⟨d, .call false f args, none⟩ :: r) env σ := k
theorem st_callR {f : FuncId} {args : List VA} (k : T P f (args.map (va env)) σ (fun v σ' => vrunOps P n K r (eput env d v) σ')) : vrunOps P n K (⟨d, .call true f args, none⟩ :: r) env σ := k
theorem st_append {s sz by' : Nat} {x y : VA} {id g : Nat} {es new : List (List PV)} {fz : Bool} (h : va env x = .row id g) (hy : rdA σ (va env y) = some new) (hok : RowOk sz new) (hg : vGet σ id g = some (.row sz es fz)) (hb : (es.length + new.length) * by' ≤ 140737488355328)
    (k : vrunOps P n K r (eput env d (.row id (g + 1))) (σ.set id (g + 1, .row sz (es ++ new) fz))) : vrunOps P n K (⟨d, .append s sz by' x y, none⟩ :: r) env σ := by
  simp only [vrunOps, vop, vAppend, hy, h, hg]; exact ⟨hok, trivial, hb, k⟩
theorem st_guardT {op : VOp} {s : Nat} {b : Bool} (h : env s = .bool b) (k : vrunOps P n K (⟨d, op, none⟩ :: r) env σ) : vrunOps P n K (⟨d, op, some (s, b)⟩ :: r) env σ := by
  simp only [vrunOps, h, if_true]; exact k
theorem st_guardF {op : VOp} {s : Nat} {b : Bool} (h : env s = .bool (!b)) (k : vrunOps P n K r (eput env d (.tup [])) σ) : vrunOps P n K (⟨d, op, some (s, b)⟩ :: r) env σ := by
  simp only [vrunOps, h]; rw [if_neg (by cases b <;> simp)]; exact k
theorem st_guardN {op : VOp} {s : Nat} {b : Bool} (h : env s = .tup []) (k : vrunOps P n K r (eput env d (.tup [])) σ) : vrunOps P n K (⟨d, op, some (s, b)⟩ :: r) env σ := by
  simp only [vrunOps, h]; exact k
theorem st_end (k : K env σ) : vrunOps P n K [] env σ := k

variable {Q : QP} {x y : VC}
theorem sc_seq (k : vrun P n x env σ (Q.then fun env σ => vrun P n y env σ Q)) : vrun P n (.seq x y) env σ Q := k
theorem sc_region {ops : List VO} (k : vrunOps P n (fun env σ => Q .normal env σ) ops env σ) : vrun P n (.region ops) env σ Q := k
theorem sc_condT {c : VA} (h : va env c = .bool true) (k : vrun P n x env σ Q) : vrun P n (.cond c x y) env σ Q := by simp only [vrun]; rw [h]; exact k
theorem sc_condF {c : VA} (h : va env c = .bool false) (k : vrun P n y env σ Q) : vrun P n (.cond c x y) env σ Q := by simp only [vrun]; rw [h]; exact k
theorem sc_block {id : Nat} (k : vrun P n x env σ (Q.block id)) : vrun P n (.block id x) env σ Q := k
theorem sc_loop (k : vloop (vrun P n x) env σ Q) : vrun P n (.loop x) env σ Q := k
theorem sc_skip (k : Q .normal env σ) : vrun P n .skip env σ Q := k
theorem sc_exit {id : Nat} (k : Q (.exit id) env σ) : vrun P n (.exit id) env σ Q := k
theorem sc_ret (k : Q .ret env σ) : vrun P n .ret env σ Q := k
theorem sq_thenN {N : Env → VHeap → Prop} (k : N env σ) : QP.then Q N .normal env σ := k
theorem sq_thenR {N : Env → VHeap → Prop} (k : Q .ret env σ) : QP.then Q N .ret env σ := k
theorem sq_thenX {N : Env → VHeap → Prop} {id : Nat} (k : Q (.exit id) env σ) : QP.then Q N (.exit id) env σ := k
theorem sq_blockN {id : Nat} (k : Q .normal env σ) : QP.block Q id .normal env σ := k
theorem sq_blockR {id : Nat} (k : Q .ret env σ) : QP.block Q id .ret env σ := k
theorem sq_blockX {id : Nat} (k : Q .normal env σ) : QP.block Q id (.exit id) env σ := by simp only [QP.block, if_true]; exact k
theorem sq_blockY {id id' : Nat} (h : id' ≠ id) (k : Q (.exit id') env σ) : QP.block Q id (.exit id') env σ := by simp only [QP.block, if_neg h]; exact k
theorem se_ret {vf : VFun} {Post : KP} {v : PV} (hr : vf.raw = false) (h : rvAll env σ vf.results = some v) (k : Post (inl σ v) (frz σ v)) : vend vf Post .ret env σ := by
  simp only [vend, vret, h, hr]; exact k
theorem se_norm {vf : VFun} {Post : KP} {v : PV} (hr : vf.raw = false) (h : rvAll env σ vf.results = some v) (k : Post (inl σ v) (frz σ v)) : vend vf Post .normal env σ := by
  simp only [vend, vret, h, hr]; exact k
theorem sf {vf : VFun} {args : List PV} {Post : KP} (h : args.length ≤ vf.ntmps) (k : vrun P σ.length vf.body (argsEnv args) (σ ++ vdead vf.nsites) (vend vf Post)) : vfun P vf args σ Post := ⟨h, k⟩
end
end Go.V
