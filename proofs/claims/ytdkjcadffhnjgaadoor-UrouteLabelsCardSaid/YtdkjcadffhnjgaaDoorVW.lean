/- The walking tactics. -/
import Derived.Test.YtdkjcadffhnjgaaDoorVS
namespace Go.V
open Go
section
variable {k : IntKind} {a b x : Int}
theorem w_i64 (h1 : -9223372036854775808 ≤ x) (h2 : x ≤ 9223372036854775807) : IntKind.i64.wrap x = x := by unfold IntKind.wrap; simp [IntKind.bits, IntKind.signed]; omega
theorem w_i32 (h1 : -2147483648 ≤ x) (h2 : x ≤ 2147483647) : IntKind.i32.wrap x = x := by unfold IntKind.wrap; simp [IntKind.bits, IntKind.signed]; omega
theorem w_u8 (h1 : 0 ≤ x) (h2 : x ≤ 255) : IntKind.u8.wrap x = x := by unfold IntKind.wrap; simp [IntKind.bits, IntKind.signed]; omega
theorem w_u16 (h1 : 0 ≤ x) (h2 : x ≤ 65535) : IntKind.u16.wrap x = x := by unfold IntKind.wrap; simp [IntKind.bits, IntKind.signed]; omega
theorem w_u32 (h1 : 0 ≤ x) (h2 : x ≤ 4294967295) : IntKind.u32.wrap x = x := by unfold IntKind.wrap; simp [IntKind.bits, IntKind.signed]; omega
theorem w_u64 (h1 : 0 ≤ x) (h2 : x ≤ 18446744073709551615) : IntKind.u64.wrap x = x := by unfold IntKind.wrap; simp [IntKind.bits, IntKind.signed]; omega
theorem ib_add (h : k.wrap (a + b) = a + b) : ibin .add k a k b = some (.int k (a + b)) := by simp [ibin, h]
theorem ib_sub (h : k.wrap (a - b) = a - b) : ibin .sub k a k b = some (.int k (a - b)) := by simp [ibin, h]
theorem ib_mul (h : k.wrap (a * b) = a * b) : ibin .mul k a k b = some (.int k (a * b)) := by simp [ibin, h]
theorem ib_lss : ibin .lss k a k b = some (.bool (decide (a < b))) := by simp [ibin]
theorem ib_leq : ibin .leq k a k b = some (.bool (decide (a ≤ b))) := by simp [ibin]
theorem ib_gtr : ibin .gtr k a k b = some (.bool (decide (b < a))) := by simp [ibin]
theorem ib_geq : ibin .geq k a k b = some (.bool (decide (b ≤ a))) := by simp [ibin]
theorem ib_eql : ibin .eql k a k b = some (.bool (decide (a = b))) := by simp [ibin]; rw [Bool.eq_iff_iff]; simp
theorem ib_neq : ibin .neq k a k b = some (.bool (decide (a ≠ b))) := by simp [ibin]; rw [Bool.eq_iff_iff]; simp
theorem ib_lssT (h : a < b) : ibin .lss k a k b = some (.bool true) := by simp [ibin, h]
theorem ib_lssF (h : ¬ a < b) : ibin .lss k a k b = some (.bool false) := by simp [ibin]; omega
theorem ib_leqT (h : a ≤ b) : ibin .leq k a k b = some (.bool true) := by simp [ibin, h]
theorem ib_leqF (h : ¬ a ≤ b) : ibin .leq k a k b = some (.bool false) := by simp [ibin]; omega
theorem ib_gtrT (h : a > b) : ibin .gtr k a k b = some (.bool true) := by simp [ibin]; omega
theorem ib_gtrF (h : ¬ a > b) : ibin .gtr k a k b = some (.bool false) := by simp [ibin]; omega
theorem ib_geqT (h : a ≥ b) : ibin .geq k a k b = some (.bool true) := by simp [ibin]; omega
theorem ib_geqF (h : ¬ a ≥ b) : ibin .geq k a k b = some (.bool false) := by simp [ibin]; omega
theorem ib_eqlT (h : a = b) : ibin .eql k a k b = some (.bool true) := by simp [ibin, h]
theorem ib_eqlF (h : ¬ a = b) : ibin .eql k a k b = some (.bool false) := by simp [ibin, h]
theorem ib_neqT (h : ¬ a = b) : ibin .neq k a k b = some (.bool true) := by simp [ibin, h]
theorem ib_neqF (h : a = b) : ibin .neq k a k b = some (.bool false) := by simp [ibin, h]
end
section
variable {s t : List UInt8}
theorem sb_eqlT (h : s = t) : sbin .eql s t = some (.bool true) := by simp [sbin, h]
theorem sb_eql : sbin .eql s t = some (.bool (decide (s = t))) := by simp [sbin]; rw [Bool.eq_iff_iff]; simp
theorem sb_neq : sbin .neq s t = some (.bool (decide (s ≠ t))) := by simp [sbin]; rw [Bool.eq_iff_iff]; simp
theorem sb_add (h : s.length + t.length ≤ 9223372036854775807) : sbin .add s t = some (.str (s ++ t)) := by simp [sbin, h]
end
theorem belH_setB {σ : VHeap} {n id g : Nat} {cs : List PV} {fz : Bool} [k : ClL cs] (h : belH n σ) : belH n (σ.set id (g, .box cs fz)) := belH_set h (k.cl n)
theorem belH_setR {σ : VHeap} {n id g sz : Nat} {es : List (List PV)} {fz : Bool} [k : ClLL es] (h : belH n σ) : belH n (σ.set id (g, .row sz es fz)) := belH_set h (k.cl n)
theorem pc_agg (cs : List PV) : pcells (.agg cs) = cs := rfl
theorem spl_0 (c v : PV) (cs : List PV) : splice (c :: cs) 0 [v] = v :: cs := rfl
theorem spl_s {c : PV} {cs ds r : List PV} {k : Nat} (h : splice cs k ds = r) : splice (c :: cs) (k + 1) ds = c :: r := by
  subst h
  unfold splice
  have : k + 1 + ds.length = (k + ds.length) + 1 := by omega
  rw [List.take_succ_cons, this, List.drop_succ_cons]; rfl
theorem gi {α : Type} {l : List α} {i : Nat} (h : i < l.length) : l[i]? = some l[i] := List.getElem?_eq_getElem h
theorem bd_i {q : IntKind} {i : Int} {d : Nat} (h : 0 ≤ i) : bound (some (.int q i)) d = some i.toNat := by simp [bound, h]
theorem bd_s {env : Env} {x : VA} {q : IntKind} {i : Int} {d : Nat} (e : va env x = .int q i) (h : 0 ≤ i) : bound ((some x).map (va env)) d = some i.toNat := by simp [bound, e, h]
theorem mapn (env : Env) : List.map (va env) [] = [] := rfl
theorem mapc {env : Env} {x : VA} {v : PV} {as : List VA} {vs : List PV} (h : va env x = v) (k : as.map (va env) = vs) : (x :: as).map (va env) = v :: vs := by rw [List.map_cons, h, k]
/-- Bytes as the elements of a slice. -/
@[reducible] def byt (b : UInt8) : PV := .int .u8 b.toNat
@[reducible] def bsl (l : List UInt8) : List (List PV) := l.map fun b => [byt b]
theorem bsl_len (l : List UInt8) : (bsl l).length = l.length := by simp [bsl]
theorem bytesEs_len (l : List UInt8) : (bytesEs l).length = l.length := by simp [bytesEs]
theorem szm {α : Type} {k : Nat} (l : List α) (f : α → List PV) (h : ∀ x, (f x).length = k) : ∀ e, e ∈ l.map f → e.length = k := by intro e he; obtain ⟨x, _, rfl⟩ := List.mem_map.1 he; exact h x
theorem gim {α : Type} {l : List α} {f : α → List PV} {i : Nat} {x : α} (h : l[i]? = some x) : (l.map f)[i]? = some (f x) := by rw [List.getElem?_map, h]; rfl
theorem gimL {α : Type} {l : List α} {f : α → List PV} {i : Nat} (h : i < l.length) : (l.map f)[(i : Int).toNat]? = some (f l[i]) := by rw [Int.toNat_natCast, List.getElem?_map, List.getElem?_eq_getElem h]; rfl
theorem giL {α : Type} {l : List α} {i : Nat} (h : i < l.length) : l[(i : Int).toNat]? = some l[i] := List.getElem?_eq_getElem h
theorem fr_nil (sz : Nat) (es : List (List PV)) (env : Env) : vFillRow sz es (([] : List (Nat × VA)).map fun q => (q.1, va env q.2)) = some es := rfl
theorem fr_cons {sz i : Nat} {es es' r : List (List PV)} {env : Env} {x : VA} {v : PV} {cs : List PV} {q : List (Nat × VA)} (e : va env x = v) (hp : pcells v = cs) (hl : cs.length = sz) (hs : cs.all scalar = true) (hi : i < es.length) (he : es.set i cs = es')
    (k : vFillRow sz es' (q.map fun q => (q.1, va env q.2)) = some r) : vFillRow sz es (((i, x) :: q).map fun q => (q.1, va env q.2)) = some r := by
  subst hp he
  rw [List.map_cons, vFillRow, e, if_pos ⟨hl, hs, hi⟩]; exact k
theorem fl_nil (cs : List PV) (env : Env) : vFill cs (([] : List (Nat × Nat × VA)).map fun q => (q.1, q.2.1, va env q.2.2)) = some cs := rfl
theorem fl_cons {sz off : Nat} {es es' r : List PV} {env : Env} {x : VA} {v : PV} {cs : List PV} {q : List (Nat × Nat × VA)} (e : va env x = v) (hp : pcells v = cs) (hl : cs.length = sz) (hs : cs.all scalar = true) (hi : off + sz ≤ es.length) (he : splice es off cs = es')
    (k : vFill es' (q.map fun q => (q.1, q.2.1, va env q.2.2)) = some r) : vFill es (((off, sz, x) :: q).map fun q => (q.1, q.2.1, va env q.2.2)) = some r := by
  subst hp he
  rw [List.map_cons, vFill, e, if_pos ⟨hl, hs, hi⟩]; exact k
theorem ordOps_nil (ops : List (VO × List Nat)) : ordOps ops [] = [] := rfl
theorem ordOps_cons {ops : List (VO × List Nat)} {m i : Nat} {r : List (Nat × Nat)} {o : VO} {as : List Nat} {l : List (Nat × VO)} (h : ops[i]? = some (o, as)) (k : ordOps ops r = l) : ordOps ops ((m, i) :: r) = (m, o) :: l := by
  subst k
  simp only [ordOps, List.map_cons, h]
theorem rowok_m {α : Type} {k : Nat} (l : List α) (f : α → List PV) (h : ∀ x, (f x).length = k ∧ (f x).all scalar = true) : RowOk k (l.map f) := by intro e he; obtain ⟨x, _, rfl⟩ := List.mem_map.1 he; exact h x
theorem bytesEs_eq (l : List UInt8) : bytesEs l = bsl l := rfl
theorem szb (l : List UInt8) : ∀ e, e ∈ bsl l → e.length = 1 := by intro e he; obtain ⟨b, _, rfl⟩ := List.mem_map.1 he; rfl
theorem byteOf_byt (b : UInt8) : byteOf [byt b] = some b := by simp [byteOf]
theorem m_bytes (l : List UInt8) : (bsl l).mapM byteOf = some l := by
  unfold bsl
  induction l with
  | nil => rfl
  | cons b l ih => rw [List.map_cons, List.mapM_cons, byteOf_byt, ih]; rfl
theorem m_bytesEs (l : List UInt8) : (bytesEs l).mapM byteOf = some l := m_bytes l
theorem szs (k : Nat) : ∀ e, e ∈ ([] : List (List PV)) → e.length = k := by simp
theorem rowok1 {c : List PV} {sz : Nat} (h : (Nat.beq c.length sz && c.all scalar) = true) : RowOk sz [c] := by
  intro e he
  simp at he; subst he
  simp only [Bool.and_eq_true] at h
  exact ⟨Nat.eq_of_beq_eq_true h.1, h.2⟩
theorem rowok_bytes (l : List UInt8) : RowOk 1 (bytesEs l) := by
  intro e he; obtain ⟨b, _, rfl⟩ := List.mem_map.1 he; exact ⟨rfl, rfl⟩
theorem rowok_bs (l : List UInt8) : RowOk 1 (bsl l) := rowok_bytes l
instance (l : List UInt8) : ClLL (bytesEs l) := inferInstanceAs (ClLL (bsl l))
section
variable {n : Nat} {env : Env} {σ L h : VHeap} {v : PV}
theorem rd_l {k g sz : Nat} {es : List (List PV)} {fz : Bool} {x : PV} (e : x = .row (n + k) g) (hn : σ.length = n) (hg : vGet L k g = some (.row sz es fz)) : rd (σ ++ L) x = some es := by
  subst e; simp only [rd, lget hn hg]
theorem rd_v {k g off len : Nat} {cs : List PV} {q : List (List PV)} {fz : Bool} {x : PV} (e : x = .bview (n + k) g off len) (hn : σ.length = n) (hg : vGet L k g = some (.box cs fz)) (hq : VCut cs off len q) : rd (σ ++ L) x = some q := by
  have hq := hq.cut
  subst e hq
  simp only [rd, lget hn hg]
theorem ra_row {k g sz : Nat} {es : List (List PV)} {fz : Bool} (hn : σ.length = n) (hg : vGet L k g = some (.row sz es fz)) : rdA (σ ++ L) (.row (n + k) g) = some es := by
  simp only [rdA, rd, lget hn hg]
theorem ra_view {k g off len : Nat} {cs : List PV} {q : List (List PV)} {fz : Bool} (hn : σ.length = n) (hg : vGet L k g = some (.box cs fz)) (hq : VCut cs off len q) : rdA (σ ++ L) (.bview (n + k) g off len) = some q := by
  have hq := hq.cut
  subst hq
  simp only [rdA, rd, lget hn hg]
theorem rv_t {t : Nat} (e : va env (.t t) = v) : rvVal env h (.tmp t) = some v := by simp only [rvVal]; rw [e]
theorem rv_c {t id g off : Nat} {sz : Option Nat} {cs : List PV} {fz : Bool} (e : va env (.t t) = .ptr id g off) (hg : vGet h id g = some (.box cs fz)) (hc : cut cs off sz = some v) : rvVal env h (.cell t sz) = some v := by
  simp only [rvVal, ldV]; rw [e]; simp only [hg, hc]
theorem rv_nil : List.mapM (rvVal env h) [] = some [] := rfl
theorem rv_cons {q : RV} {l : List RV} {vs : List PV} (e : rvVal env h q = some v) (k : List.mapM (rvVal env h) l = some vs) : List.mapM (rvVal env h) (q :: l) = some (v :: vs) := by
  rw [List.mapM_cons, e, k]; rfl
theorem rv_one {q : RV} (e : rvVal env h q = some v) : rvAll env h [q] = some v := by simp [rvAll, e]
theorem rv_many {l : List RV} {vs : List PV} {r : PV} (e : List.mapM (rvVal env h) l = some vs) (hr : (match vs with | [x] => x | xs => .tup xs) = r) : rvAll env h l = some r := by
  unfold rvAll; rw [e]; subst hr
  match vs with
  | [] => rfl
  | [_] => rfl
  | _ :: _ :: _ => rfl
theorem drJ [Glob] {P : Program} {ops : List (VO × List Nat)} {B : List Nat} {ord' : List (Nat × Nat)} (J : VHeap → Prop) (ord : List (Nat × Nat)) {l : List (Nat × VO)} {Q : QP} (hB : befs (ops.map (·.2)) [] = B) (hok : okReg ops ord B = true) (hl : ordOps ops ord = l) (hJ : J h) (hv : vseq P n J (fun e s => Q .normal e s) l env h) : vrun P n (.dreg ops ord' B) env h Q :=
  dr J ord hB hok hl hJ hv
theorem drT [Glob] {P : Program} {ops : List (VO × List Nat)} {B : List Nat} {ord : List (Nat × Nat)} {l : List (Nat × VO)} {Q : QP} (hB : befs (ops.map (·.2)) [] = B) (hok : okReg ops ord B = true) (hl : ordOps ops ord = l) (hv : vseq P n (fun _ => True) (fun e s => Q .normal e s) l env h) : vrun P n (.dreg ops ord B) env h Q :=
  dr _ ord hB hok hl trivial hv
end
/-! Small tactics, as automatic parameters. -/
theorem z_hn {G : Prop} (g : G := by first | exact rfl | assumption | (simp only [List.length_set]; first | done | assumption) | (simp only [List.length_set, List.length_append]; first | done | assumption)) : G := g
theorem z_vv {G : Prop} (g : G := by first | exact rfl | assumption) : G := g
theorem z_ll {G : Prop} (g : G := by first | (dsimp only [List.length_cons, List.length_nil, Nat.reduceAdd, Nat.zero_add]; done) | (dsimp only [List.length_cons, List.length_nil, Nat.reduceAdd, Nat.zero_add]; exact rfl) | exact rfl) : G := g
theorem z_vs {G : Prop} (g : G := by first | exact rfl | (simp only [List.map_nil, List.map_cons]; done) | assumption) : G := g
theorem z_lg {G : Prop} (g : G := by first | exact rfl | exact vGet_of rfl | assumption) : G := g
theorem z_mv {G : Prop} (g : G := by first | exact (rfl : _ = PV.int _ _) | exact (rfl : _ = PV.bool _) | exact (rfl : _ = PV.ptr _ _ _) | exact (rfl : _ = PV.sl _) | exact (rfl : _ = PV.agg _) | exact (rfl : _ = PV.str _) | exact (rfl : _ = PV.row _ _) | exact (rfl : _ = PV.tup _) | exact (rfl : _ = PV.map _ _) | exact (rfl : _ = PV.rptr _ _ _ _) | exact (rfl : _ = PV.iptr _ _) | exact (rfl : _ = PV.bview _ _ _ _) | exact (rfl : _ = PV.rview _ _ _ _) | exact (rfl : _ = PV.fn _ _) | exact (rfl : _ = PV.iter _ _) | exact (rfl : _ = PV.nilp) | exact (rfl : _ = PV.nils) | exact (rfl : _ = PV.nilm) | exact (rfl : _ = PV.undef) | assumption | exact rfl) : G := g
theorem z_wq {G : Prop} (g : G := by first | exact w_i64 (by omega) (by omega) | exact w_u8 (by omega) (by omega) | exact w_i32 (by omega) (by omega) | exact w_u64 (by omega) (by omega) | exact w_u32 (by omega) (by omega) | exact w_u16 (by omega) (by omega)) : G := g
theorem z_og {G : Prop} (g : G := by first | assumption | ((repeat ((with_reducible apply hget_ne); (first | assumption | omega))); first | assumption | (apply hget_eq; (first | omega | (simp only [List.length_set]; omega))))) : G := g
theorem z_hg {G : Prop} (g : G := by first | ((apply lget); (exact z_hn); (exact z_lg)) | assumption | ((apply oget); exact z_og) | exact z_og) : G := g
theorem z_pc {G : Prop} (g : G := by first | exact pc_agg _ | exact (rfl : _ = [_]) | exact rfl) : G := g
theorem z_nl {G : Prop} (g : G := by first | (dsimp only [frzId, vdead, List.replicate, List.getElem?_cons_succ, List.getElem?_cons_zero, List.set_cons_zero, List.set_cons_succ, VObj.freeze, Nat.reduceAdd, List.cons_append, List.nil_append]; done) | (dsimp only [frzId, vdead, List.replicate, List.getElem?_cons_succ, List.getElem?_cons_zero, List.set_cons_zero, List.set_cons_succ, VObj.freeze, Nat.reduceAdd, List.cons_append, List.nil_append]; exact rfl) | exact rfl) : G := g
theorem z_ns {G : Prop} (g : G := by first | assumption | ((repeat (apply spl_s)); exact spl_0 _ _ _) | exact rfl) : G := g
theorem z_ct {G : Prop} (g : G := by first | assumption | exact rfl) : G := g
theorem z_bi {G : Prop} (g : G := by first | assumption | exact ib_add (by exact z_wq) | exact ib_sub (by exact z_wq) | exact ib_lssT (by omega) | exact ib_lssF (by omega) | exact ib_geqT (by omega) | exact ib_geqF (by omega) | exact ib_eqlT (by first | rfl | omega) | exact ib_eqlF (by omega) | exact ib_neqT (by omega) | exact ib_neqF (by first | rfl | omega) | exact ib_gtrT (by omega) | exact ib_gtrF (by omega) | exact ib_leqT (by omega) | exact ib_leqF (by omega) | exact ib_mul (by exact z_wq) | exact ib_lss | exact ib_leq | exact ib_gtr | exact ib_geq | exact ib_eql | exact ib_neq | exact rfl) : G := g
theorem z_cv {G : Prop} (g : G := by first | exact z_wq | assumption | exact rfl) : G := g
theorem z_bd {G : Prop} (g : G := by first | exact rfl | assumption | exact bd_i (by omega) | exact bd_s rfl (by omega) | exact bd_s (by assumption) (by omega)) : G := g
theorem z_om {G : Prop} (g : G := by first | omega | exact rfl | assumption | (simp only [List.length_append, List.length_cons, List.length_nil, List.length_map, List.length_take, List.length_drop, List.length_replicate, bsl_len, bytesEs_len]; omega) | (simp only [List.length_append, List.length_cons, List.length_nil, List.length_map, List.length_take, List.length_drop, List.length_replicate, bsl_len, bytesEs_len] at *; omega)) : G := g
theorem z_sb {G : Prop} (g : G := by first | assumption | exact sb_eqlT rfl | exact sb_eql | exact sb_neq | exact sb_add (by exact z_om) | exact rfl) : G := g
theorem z_sc {G : Prop} (g : G := by first | exact rfl | (simp only [List.all_append, List.all_map, List.all_cons, List.all_nil, scalar, Function.comp_def, Bool.and_true, Bool.and_self, List.all_const]; done) | assumption) : G := g
theorem z_ma {G : Prop} (g : G := by (repeat ((apply mapc); (exact z_mv))); exact mapn _) : G := g
theorem z_pli {G : Prop} (g : G := by infer_instance) : G := g
theorem z_il {G : Prop} (g : G := by (repeat (first | ((with_reducible apply InlA.pl); infer_instance) | (with_reducible apply InlA.nils) | ((with_reducible apply InlA.row); (exact z_lg); (exact z_nl)) | ((with_reducible apply InlA.rview); (exact z_lg); (exact z_nl)) | ((with_reducible apply InlA.bview); (exact z_lg); infer_instance; (exact z_nl)))); with_reducible exact InlA.nil _) : G := g
theorem z_fr {G : Prop} (g : G := by first | ((repeat ((apply fr_cons); (exact z_mv); (exact z_pc); (first | assumption | exact rfl); (exact z_sc); (first | omega | exact rfl | decide | assumption | (simp only [List.length_append, List.length_cons, List.length_nil, List.length_map, List.length_replicate] at *; omega)); (exact z_nl))); exact fr_nil _ _ _) | exact rfl) : G := g
theorem z_fl {G : Prop} (g : G := by first | ((repeat ((apply fl_cons); (exact z_mv); (exact z_pc); (first | assumption | exact rfl); (exact z_sc); (first | omega | exact rfl | decide | assumption | (simp only [List.length_append, List.length_cons, List.length_nil, List.length_map, List.length_replicate] at *; omega)); (exact z_ns))); exact fl_nil _ _) | exact rfl) : G := g
theorem z_gx {G : Prop} (g : G := by first | assumption | exact rfl | exact gim (by assumption) | exact gimL (by assumption) | exact giL (by assumption) | exact gi (by assumption)) : G := g
theorem z_oa {G : Prop} (g : G := by first | omega | assumption | exact rfl) : G := g
theorem z_sz {G : Prop} (g : G := by first | assumption | exact szs _ | (exact szm _ _ (fun _ => rfl)) | (intro e he; simp only [List.mem_append, List.mem_cons, List.mem_map] at he; grind)) : G := g
theorem z_of {G : Prop} (g : G := by first | ((simp only [Nat.reduceAdd, Nat.zero_add, Nat.add_zero, Nat.mul_one, Nat.reduceMul, Int.toNat_natCast, Int.reduceToNat, Nat.reduceSub, Nat.sub_zero]); exact rfl) | exact rfl) : G := g
theorem z_ol {G : Prop} (g : G := by (repeat ((apply ordOps_cons); exact rfl)); exact ordOps_nil _) : G := g
theorem z_ya {G : Prop} (g : G := by first | ((with_reducible apply y_mov); exact z_mv) | ((with_reducible apply y_loadL); exact z_vv; exact z_hn; exact z_lg; exact z_ct) | ((with_reducible apply y_loadI); exact z_vv; exact z_ct) | ((with_reducible apply y_load); exact z_vv; exact z_hg; exact z_ct) | ((with_reducible apply y_loadR); exact z_vv; exact z_hg; exact z_gx; exact z_ct) | ((with_reducible apply y_fieldL); exact z_vv; exact z_hn; exact z_lg; exact z_of) | ((with_reducible apply y_fieldI); exact z_vv; exact z_of) | ((with_reducible apply y_field); exact z_vv; exact z_hg; exact z_of) | ((with_reducible apply y_fieldR); exact z_vv; exact z_hg; exact z_of) | ((with_reducible apply y_bin); exact z_vv; exact z_vv; exact z_bi) | ((with_reducible apply y_binS); exact z_vv; exact z_vv; exact z_sb) | ((with_reducible apply y_eqB); exact z_vv; exact z_vv) | ((with_reducible apply y_neB); exact z_vv; exact z_vv) | ((with_reducible apply y_ptrE); exact z_vv; exact z_vv; exact z_hg) | ((with_reducible apply y_ptrN); exact z_vv; exact z_vv; exact z_hg) | ((with_reducible apply y_nilE); exact z_vv; exact z_vv) | ((with_reducible apply y_nilN); exact z_vv; exact z_vv) | ((with_reducible apply y_nilsE); exact z_vv; exact z_vv) | ((with_reducible apply y_pickT); exact z_vv; exact z_mv) | ((with_reducible apply y_pickF); exact z_vv; exact z_mv) | ((with_reducible apply y_extract); exact z_vv; exact z_vv) | ((with_reducible apply y_not); exact z_vv) | ((with_reducible apply y_nilL); exact z_vv; exact z_hn; exact z_lg) | ((with_reducible apply y_nilI); exact z_vv) | ((with_reducible apply y_nil); exact z_vv; exact z_hg) | ((with_reducible apply y_nilR); exact z_vv; exact z_hg) | ((with_reducible apply y_conv); exact z_vv; exact z_cv) | ((with_reducible apply y_convS); exact z_vv) | ((with_reducible apply y_neg); exact z_vv; (first | assumption | exact z_wq | exact rfl)) | ((with_reducible apply y_lenS); exact z_vv; infer_instance) | ((with_reducible apply y_len0); exact z_vv) | ((with_reducible apply y_lenR); exact z_vv; exact z_hg; infer_instance) | ((with_reducible apply y_lenStr); exact z_vv) | ((with_reducible apply y_lenV); exact z_vv; exact z_hg; exact z_oa) | ((with_reducible apply y_lenMap); exact z_vv; exact z_hg) | ((with_reducible apply y_build); exact z_fl) | ((with_reducible apply y_fieldVal); exact z_vv; exact z_ct) | ((with_reducible apply y_indexS); exact z_vv; exact z_vv; exact z_oa; exact z_gx; exact z_vv) | ((with_reducible apply y_indexR); exact z_vv; exact z_vv; exact z_hg; exact z_oa; exact z_oa) | ((with_reducible apply y_indexV); exact z_vv; exact z_vv; exact z_hg; exact rfl; exact z_oa; exact z_oa; exact z_of) | ((with_reducible apply y_indexStr); exact z_vv; exact z_vv; exact z_oa; exact z_gx) | ((with_reducible apply y_indexAgg); exact z_vv; exact z_vv; exact z_oa; exact z_oa; exact z_ct) | ((with_reducible apply y_indexArr); exact z_vv; exact z_vv; exact z_hg; exact z_oa; exact z_oa; exact z_of) | ((with_reducible apply y_indexArrI); exact z_vv; exact z_vv; exact z_oa; exact z_oa; exact z_of) | ((with_reducible apply y_func); exact z_ma) | ((with_reducible apply y_minmax); exact z_vv; exact z_vv) | ((with_reducible apply y_sliceStr); exact z_vv; exact z_bd; exact z_bd; exact z_om; exact z_om) | ((with_reducible apply y_slice); exact z_vv; infer_instance; exact z_bd; exact z_bd; exact z_om; exact z_om; exact z_sz; infer_instance) | ((with_reducible apply y_sliceArr); exact z_vv; exact z_hg; exact z_bd; exact z_bd; exact rfl; exact z_om; exact z_om; exact z_om; exact z_of; exact z_of) | ((with_reducible apply y_sliceV); exact z_vv; exact z_hg; exact z_bd; exact z_bd; exact z_om; exact z_om) | ((with_reducible apply y_eqAgg); exact z_vv; exact z_vv; exact z_vv) | ((with_reducible apply y_b2s); (first | exact rfl | (exact rd_l (by exact z_vv) (by exact z_hn) (by exact z_lg)) | (exact rd_v (by exact z_vv) (by exact z_hn) (by exact z_lg) (by infer_instance)) | assumption); (first | assumption | exact m_bytes _ | exact m_bytesEs _ | exact rfl)) | ((with_reducible apply y_nextStrE); exact z_vv; exact z_hn; exact z_lg; omega)) : G := g
theorem z_ra {G : Prop} (g : G := by first | exact rfl | assumption | exact ra_row (by exact z_hn) (by exact z_lg) | exact ra_view (by exact z_hn) (by exact z_lg) (by infer_instance)) : G := g
theorem z_rk {G : Prop} (g : G := by first | exact rowok1 rfl | exact rowok_bytes _ | exact rowok_bs _ | exact rowok_m _ _ (fun _ => ⟨rfl, rfl⟩) | assumption) : G := g
theorem z_ea {G : Prop} (g : G := by first | ((with_reducible apply e_alloc); exact z_hn; exact rfl; exact z_nl) | ((with_reducible apply e_box); exact z_mv; exact z_pc; exact z_sc; exact z_hn; exact rfl; exact z_nl) | ((with_reducible apply e_newRow); exact z_hn; exact rfl; exact z_nl) | ((with_reducible apply e_storeL); exact z_vv; exact z_mv; exact z_pc; exact z_vv; exact z_sc; exact z_hn; exact z_lg; exact z_om; exact z_ns; exact z_nl) | ((with_reducible apply e_storeO); exact z_vv; exact z_mv; exact z_pc; exact z_vv; exact z_sc; exact z_og; exact z_om; exact z_ns) | ((with_reducible apply e_buildSlice); exact z_fr; exact z_hn; exact rfl; exact z_nl) | ((with_reducible apply e_append); exact z_vv; exact z_ra; exact z_rk; exact z_hn; exact z_lg; exact z_om; infer_instance; exact z_nl) | ((with_reducible apply e_appendS); exact z_vv; exact z_ra; exact z_rk; exact z_hn; exact z_lg; exact z_om; infer_instance; exact z_nl) | ((with_reducible apply e_snap); exact z_vv; exact z_hn; exact rfl; exact z_nl) | ((with_reducible apply e_append0); exact z_vv; exact z_ra; exact z_rk; exact z_om; exact z_hn; exact rfl; exact z_nl) | ((with_reducible apply e_s2b); exact z_vv; exact z_om; exact z_hn; exact rfl; exact z_nl) | ((with_reducible apply e_makeMap); exact z_hn; exact rfl; exact z_nl) | ((with_reducible apply e_makeSlice); exact z_vv; exact z_vv; exact z_om; exact z_om; exact z_om; exact z_om; exact z_hn; exact rfl; exact z_nl) | ((with_reducible apply e_clip); exact z_ra; exact z_hn; exact rfl; exact z_nl) | ((with_reducible apply e_copyV); exact z_vv; exact z_ra; exact z_rk; exact z_hn; exact z_lg; exact rfl; exact z_om; (first | assumption | exact rfl); exact z_nl) | ((with_reducible apply e_copyR); exact z_vv; exact z_ra; exact z_rk; exact z_hn; exact z_lg; exact z_nl) | ((with_reducible apply e_copyW); exact z_vv; exact z_ra; exact z_rk; exact z_hn; exact z_lg; exact z_om; exact z_nl) | ((with_reducible apply e_storeR); exact z_vv; exact z_mv; exact z_pc; exact z_vv; exact z_sc; exact z_hn; exact z_lg; exact z_gx; exact z_om; exact z_nl) | ((with_reducible apply e_sliceR); exact z_vv; exact z_hn; exact z_lg; infer_instance; exact z_bd; exact z_bd; exact z_om; exact z_om; infer_instance; exact z_nl) | ((with_reducible apply e_rangeStr); exact z_vv; exact z_hn; exact rfl; exact z_nl) | ((with_reducible apply e_rangeMap); exact z_vv; exact z_hg; exact z_hn; exact rfl; exact z_nl) | ((with_reducible apply e_nextStr); exact z_vv; exact z_hn; exact z_lg; omega; exact z_nl)) : G := g
theorem z_be {G : Prop} (g : G := by first | exact Cl.cl _ | exact ClL.cl _ | assumption) : G := g
theorem z_hb {G : Prop} (g : G := by first | assumption | ((repeat (first | (with_reducible apply belH_setB) | (with_reducible apply belH_setR))); assumption)) : G := g
theorem z_rw1 {G : Prop} (g : G := by first | exact rv_t (by exact z_mv) | exact rv_c (by exact z_vv) (by exact z_hg) (by exact z_ct)) : G := g
theorem z_rw {G : Prop} (g : G := by first | exact rv_one (by exact z_rw1) | exact rv_many (by (repeat ((apply rv_cons); (exact z_rw1))); exact rv_nil) (by exact rfl)) : G := g

structure Wrap (Q : Prop) : Prop where
  q : Q
/-- THE WALK: as far as it goes by itself. -/
theorem W {P Q : Prop} (q : Q) (w : Wrap Q → P := by intro q; (repeat (first | (with_reducible apply st_end) | ((with_reducible apply ys1); exact z_ya) | ((with_reducible apply gt); exact z_vv) | ((with_reducible apply gf); exact z_vv) | ((with_reducible apply gu); exact z_vv) | ((with_reducible apply est); exact z_ea) | (with_reducible apply sc_seq) | (with_reducible apply sc_region) | (with_reducible apply sq_thenN) | (with_reducible apply sc_block) | (with_reducible apply sc_skip) | (with_reducible apply sc_ret) | (with_reducible apply sc_exit) | (with_reducible apply sq_thenR) | (with_reducible apply sq_thenX) | (with_reducible apply sq_blockN) | (with_reducible apply sq_blockR) | (with_reducible apply sq_blockX) | ((with_reducible apply sc_condT); exact z_vv) | ((with_reducible apply sc_condF); exact z_vv) | ((with_reducible apply sq_blockY); decide) | ((with_reducible apply sv1n); (exact z_ya)) | ((with_reducible apply sv1t); exact z_vv; (exact z_ya)) | ((with_reducible apply sv1f); exact z_vv) | ((with_reducible apply sv1u); exact z_vv) | ((with_reducible apply sv2n); (intro hh hJ; exact z_ya)) | ((with_reducible apply sv2t); exact z_vv; (intro hh hJ; exact z_ya)) | ((with_reducible apply sv2f); exact z_vv) | ((with_reducible apply sv2u); exact z_vv) | (with_reducible apply sv_nil) | ((with_reducible apply sv_0); (with_reducible apply est); exact z_ea; (with_reducible apply st_end); (refine And.intro (by first | exact trivial | assumption) ?_)) | ((with_reducible apply sv_0); (with_reducible apply gt); exact z_vv; (with_reducible apply est); exact z_ea; (with_reducible apply st_end); (refine And.intro (by first | exact trivial | assumption) ?_)) | ((with_reducible apply sv_0); (first | ((with_reducible apply gf); exact z_vv) | ((with_reducible apply gu); exact z_vv)); (with_reducible apply st_end); (refine And.intro (by first | exact trivial | assumption) ?_)) | (refine drT (by kernel_rfl) (by kernel_rfl) (by exact z_ol) ?_) | (refine ret_p (.inl rfl) (by exact rfl) (by exact z_rw) (by infer_instance) (by exact z_be) (by exact z_hn) (by exact z_hb) ?_) | (refine ret_a (.inl rfl) (by exact rfl) (by exact z_rw) (by exact z_il) (by exact z_be) (by exact z_hn) (by exact z_hb) ?_) | (refine ret_t (.inl rfl) (by exact rfl) (by exact z_rw) (by exact z_il) (by exact z_be) (by exact z_hn) (by exact z_hb) ?_) | (refine ret_p (.inr rfl) (by exact rfl) (by exact z_rw) (by infer_instance) (by exact z_be) (by exact z_hn) (by exact z_hb) ?_) | (refine ret_a (.inr rfl) (by exact rfl) (by exact z_rw) (by exact z_il) (by exact z_be) (by exact z_hn) (by exact z_hb) ?_) | (refine ret_t (.inr rfl) (by exact rfl) (by exact z_rw) (by exact z_il) (by exact z_be) (by exact z_hn) (by exact z_hb) ?_) | (refine ret_n (.inl rfl) (by exact rfl) (by exact z_rw) (by infer_instance) ?_))); exact q.q) : P := w ⟨q⟩
/-- The walk, but for drawn regions. -/
theorem Wo {P Q : Prop} (q : Q) (w : Wrap Q → P := by intro q; (repeat (first | (with_reducible apply st_end) | ((with_reducible apply ys1); exact z_ya) | ((with_reducible apply gt); exact z_vv) | ((with_reducible apply gf); exact z_vv) | ((with_reducible apply gu); exact z_vv) | ((with_reducible apply est); exact z_ea) | (with_reducible apply sc_seq) | (with_reducible apply sc_region) | (with_reducible apply sq_thenN) | (with_reducible apply sc_block) | (with_reducible apply sc_skip) | (with_reducible apply sc_ret) | (with_reducible apply sc_exit) | (with_reducible apply sq_thenR) | (with_reducible apply sq_thenX) | (with_reducible apply sq_blockN) | (with_reducible apply sq_blockR) | (with_reducible apply sq_blockX) | ((with_reducible apply sc_condT); exact z_vv) | ((with_reducible apply sc_condF); exact z_vv) | ((with_reducible apply sq_blockY); decide) | ((with_reducible apply sv1n); (exact z_ya)) | ((with_reducible apply sv1t); exact z_vv; (exact z_ya)) | ((with_reducible apply sv1f); exact z_vv) | ((with_reducible apply sv1u); exact z_vv) | ((with_reducible apply sv2n); (intro hh hJ; exact z_ya)) | ((with_reducible apply sv2t); exact z_vv; (intro hh hJ; exact z_ya)) | ((with_reducible apply sv2f); exact z_vv) | ((with_reducible apply sv2u); exact z_vv) | (with_reducible apply sv_nil) | ((with_reducible apply sv_0); (with_reducible apply est); exact z_ea; (with_reducible apply st_end); (refine And.intro (by first | exact trivial | assumption) ?_)) | ((with_reducible apply sv_0); (with_reducible apply gt); exact z_vv; (with_reducible apply est); exact z_ea; (with_reducible apply st_end); (refine And.intro (by first | exact trivial | assumption) ?_)) | ((with_reducible apply sv_0); (first | ((with_reducible apply gf); exact z_vv) | ((with_reducible apply gu); exact z_vv)); (with_reducible apply st_end); (refine And.intro (by first | exact trivial | assumption) ?_)) | (refine ret_p (.inl rfl) (by exact rfl) (by exact z_rw) (by infer_instance) (by exact z_be) (by exact z_hn) (by exact z_hb) ?_) | (refine ret_a (.inl rfl) (by exact rfl) (by exact z_rw) (by exact z_il) (by exact z_be) (by exact z_hn) (by exact z_hb) ?_) | (refine ret_t (.inl rfl) (by exact rfl) (by exact z_rw) (by exact z_il) (by exact z_be) (by exact z_hn) (by exact z_hb) ?_) | (refine ret_p (.inr rfl) (by exact rfl) (by exact z_rw) (by infer_instance) (by exact z_be) (by exact z_hn) (by exact z_hb) ?_) | (refine ret_a (.inr rfl) (by exact rfl) (by exact z_rw) (by exact z_il) (by exact z_be) (by exact z_hn) (by exact z_hb) ?_) | (refine ret_t (.inr rfl) (by exact rfl) (by exact z_rw) (by exact z_il) (by exact z_be) (by exact z_hn) (by exact z_hb) ?_) | (refine ret_n (.inl rfl) (by exact rfl) (by exact z_rw) (by infer_instance) ?_))); exact q.q) : P := w ⟨q⟩
/-- One step. -/
theorem W1 {P Q : Prop} (q : Q) (w : Wrap Q → P := by intro q; (first | (with_reducible apply st_end) | ((with_reducible apply ys1); exact z_ya) | ((with_reducible apply gt); exact z_vv) | ((with_reducible apply gf); exact z_vv) | ((with_reducible apply gu); exact z_vv) | ((with_reducible apply est); exact z_ea) | (with_reducible apply sc_seq) | (with_reducible apply sc_region) | (with_reducible apply sq_thenN) | (with_reducible apply sc_block) | (with_reducible apply sc_skip) | (with_reducible apply sc_ret) | (with_reducible apply sc_exit) | (with_reducible apply sq_thenR) | (with_reducible apply sq_thenX) | (with_reducible apply sq_blockN) | (with_reducible apply sq_blockR) | (with_reducible apply sq_blockX) | ((with_reducible apply sc_condT); exact z_vv) | ((with_reducible apply sc_condF); exact z_vv) | ((with_reducible apply sq_blockY); decide) | ((with_reducible apply sv1n); (exact z_ya)) | ((with_reducible apply sv1t); exact z_vv; (exact z_ya)) | ((with_reducible apply sv1f); exact z_vv) | ((with_reducible apply sv1u); exact z_vv) | ((with_reducible apply sv2n); (intro hh hJ; exact z_ya)) | ((with_reducible apply sv2t); exact z_vv; (intro hh hJ; exact z_ya)) | ((with_reducible apply sv2f); exact z_vv) | ((with_reducible apply sv2u); exact z_vv) | (with_reducible apply sv_nil) | ((with_reducible apply sv_0); (with_reducible apply est); exact z_ea; (with_reducible apply st_end); (refine And.intro (by first | exact trivial | assumption) ?_)) | ((with_reducible apply sv_0); (with_reducible apply gt); exact z_vv; (with_reducible apply est); exact z_ea; (with_reducible apply st_end); (refine And.intro (by first | exact trivial | assumption) ?_)) | ((with_reducible apply sv_0); (first | ((with_reducible apply gf); exact z_vv) | ((with_reducible apply gu); exact z_vv)); (with_reducible apply st_end); (refine And.intro (by first | exact trivial | assumption) ?_)) | (refine drT (by kernel_rfl) (by kernel_rfl) (by exact z_ol) ?_) | (refine ret_p (.inl rfl) (by exact rfl) (by exact z_rw) (by infer_instance) (by exact z_be) (by exact z_hn) (by exact z_hb) ?_) | (refine ret_a (.inl rfl) (by exact rfl) (by exact z_rw) (by exact z_il) (by exact z_be) (by exact z_hn) (by exact z_hb) ?_) | (refine ret_t (.inl rfl) (by exact rfl) (by exact z_rw) (by exact z_il) (by exact z_be) (by exact z_hn) (by exact z_hb) ?_) | (refine ret_p (.inr rfl) (by exact rfl) (by exact z_rw) (by infer_instance) (by exact z_be) (by exact z_hn) (by exact z_hb) ?_) | (refine ret_a (.inr rfl) (by exact rfl) (by exact z_rw) (by exact z_il) (by exact z_be) (by exact z_hn) (by exact z_hb) ?_) | (refine ret_t (.inr rfl) (by exact rfl) (by exact z_rw) (by exact z_il) (by exact z_be) (by exact z_hn) (by exact z_hb) ?_) | (refine ret_n (.inl rfl) (by exact rfl) (by exact z_rw) (by infer_instance) ?_)); exact q.q) : P := w ⟨q⟩
/-- A call by its contract. -/
theorem cu [Glob] {P : Program} {n : Nat} {K : Env → VHeap → Prop} {r : List VO} {d : Option Nat} {env : Env} {σ L L' : VHeap} {v : PV} {f : FuncId} {args : List VA} {cs ws vs : List PV} (u : U P f vs v) (k : vrunOps P n K r (eput env d v) (σ ++ L'))
    (hn : σ.length = n := by exact z_hn) (hm : args.map (va env) = cs := by exact z_ma) (hi : InlA n L L cs ws L' := by exact z_il) (hv : ws = vs := by exact z_vs) : vrunOps P n K (⟨d, .call false f args, none⟩ :: r) env (σ ++ L) := callU u hn (by rw [hm, ← hv]; exact hi) k
theorem ct [Glob] {P : Program} {n : Nat} {K : Env → VHeap → Prop} {r : List VO} {d : Option Nat} {env : Env} {σ L L' : VHeap} {f : FuncId} {args : List VA} {cs ws vs : List PV} (k : T P f vs (σ ++ L') fun v h' => vrunOps P n K r (eput env d v) h')
    (hn : σ.length = n := by exact z_hn) (hm : args.map (va env) = cs := by exact z_ma) (hi : InlA n L L cs ws L' := by exact z_il) (hv : ws = vs := by exact z_vs) : vrunOps P n K (⟨d, .call false f args, none⟩ :: r) env (σ ++ L) := callT hn (by rw [hm, ← hv]; exact hi) k
/-- A call that leaves the heap alone, where the order is open. -/
theorem s1 [Glob] {P : Program} {n : Nat} {J : VHeap → Prop} {K : Env → VHeap → Prop} {r : List (Nat × VO)} {d : Option Nat} {env : Env} {h : VHeap} {v : PV} {f : FuncId} {args : List VA} {vs : List PV} (u : U P f vs v) (k : vseq P n J K r (eput env d v) h)
    (hm : args.map (va env) = vs := by exact z_ma) (hp : PlL vs := by infer_instance) : vseq P n J K ((1, ⟨d, .call false f args, none⟩) :: r) env h := sv_1 (yn (y_call u hm)) k
theorem s2 [Glob] {P : Program} {n : Nat} {J : VHeap → Prop} {K : Env → VHeap → Prop} {r : List (Nat × VO)} {d : Option Nat} {env : Env} {h : VHeap} {v : PV} {f : FuncId} {args : List VA} {vs : List PV} (u : U P f vs v) (k : vseq P n J K r (eput env d v) h)
    (hm : args.map (va env) = vs := by exact z_ma) (hp : PlL vs := by infer_instance) : vseq P n J K ((2, ⟨d, .call false f args, none⟩) :: r) env h := sv_2 (fun _ _ => yn (y_call u hm)) k
end Go.V
