/- Bytes, addresses; cells of messages, events and sessions. -/
import Derived.Test.YtocnjlfnapefjaaGreatDoorVP
import Derived.Test.YtocnjlfnapefjaaGreatDoorF1
namespace Go.Proofs.YtocnjlfnapefjaaGreatDoor
open Go Go.V
set_option maxRecDepth 10000
set_option linter.unusedVariables false
def trimL (l : List UInt8) : List UInt8 := l.dropWhile (· == 0)
def trimR (l : List UInt8) : List UInt8 := (trimL l.reverse).reverse
theorem trimR_eq {l : List UInt8} (h : ∀ h0 : l ≠ [], l.getLast h0 ≠ 0) : trimR l = l := by
  unfold trimR trimL
  cases h1 : l.reverse with
  | nil => simp at h1; simp [h1]
  | cons a r =>
    have h2 : l ≠ [] := fun e => by subst e; cases h1
    have h3 : l.getLast h2 = a := by
      have := List.head_reverse (l := l) (by rw [h1]; simp)
      rw [← this]; simp [h1]
    have h4 := h h2
    rw [h3] at h4
    rw [List.dropWhile_cons_of_neg (by simpa using h4), ← h1, List.reverse_reverse]
theorem trimR_snoc (l : List UInt8) : trimR (l ++ [0]) = trimR l := by
  unfold trimR trimL
  rw [List.reverse_append, List.reverse_singleton, List.singleton_append, List.dropWhile_cons_of_pos (by rfl)]
theorem uTrimR {l : List UInt8} (hl : l.length ≤ 140737488355328) : U Tryz.prog 61 [.sl (bsl l), .int .u8 0] (.sl (bsl (trimR l))) := by
  intro σ Post hk
  refine T61 fun hB hA => ?_
  refine W ?_
  refine lp (fun k e s => ∃ q : List UInt8, q.length = k ∧ q.length ≤ l.length ∧ e 0 = .sl (bsl q) ∧ trimR q = trimR l ∧ s = σ ++ [(1, .row 1 [] false)]) l.length ⟨l, rfl, Nat.le_refl _, rfl, rfl, rfl⟩ ?_
  rintro k u _ ⟨q, hq, hq2, e0, et, rfl⟩
  rcases List.eq_nil_or_concat q with h | ⟨q', x, h⟩
  · subst h
    rw [← et] at hk
    refine W ?_
    exact hk
  · rw [List.concat_eq_append] at h
    have hlen : q.length = q'.length + 1 := by rw [h]; simp
    have hx : (bsl q)[((q.length : Int) - 1).toNat]? = some [byt x] := by
      rw [List.getElem?_map, show ((q.length : Int) - 1).toNat = q'.length by omega, h]; simp
    by_cases h0 : x = 0
    · subst h0
      refine W ?_
      refine ⟨k - 1, by omega, q.take ((q.length : Int) - 1).toNat, ?_, ?_, rfl, ?_, rfl⟩
      · rw [List.length_take]; omega
      · rw [List.length_take]; omega
      · rw [← et, show ((q.length : Int) - 1).toNat = q'.length by omega, h, List.take_left' rfl, trimR_snoc]
    · have h1 : ¬ ((x.toNat : Int) = 0) := fun e => h0 (UInt8.toNat_inj.1 (by exact_mod_cast e))
      rw [← et, trimR_eq (by intro hq0; subst h; simpa using h0)] at hk
      refine W ?_
      exact hk
theorem uTrimL {l : List UInt8} (hl : l.length ≤ 140737488355328) : U Tryz.prog 60 [.sl (bsl l), .int .u8 0] (.sl (bsl (trimL l))) := by
  intro σ Post hk
  refine T60 fun hB hA => ?_
  refine W ?_
  refine lp (fun k e s => ∃ q : List UInt8, q.length = k ∧ q.length ≤ l.length ∧ e 0 = .sl (bsl q) ∧ trimL q = trimL l ∧ s = σ ++ [(1, .row 1 [] false)]) l.length ⟨l, rfl, Nat.le_refl _, rfl, rfl, rfl⟩ ?_
  rintro k u _ ⟨q, hq, hq2, e0, et, rfl⟩
  rcases q with _ | ⟨x, q'⟩
  · rw [← et] at hk
    refine W ?_
    exact hk
  · have hx : (bsl (x :: q'))[(0 : Int).toNat]? = some [byt x] := rfl
    have hlen : (x :: q').length = q'.length + 1 := rfl
    by_cases h0 : x = 0
    · subst h0
      refine W ?_
      refine ⟨k - 1, by simp at hq; omega, q', by simp at hq; omega, by simp at hq2; omega, rfl, ?_, rfl⟩
      rw [← et]; rfl
    · have h1 : ¬ ((x.toNat : Int) = 0) := fun e => h0 (UInt8.toNat_inj.1 (by exact_mod_cast e))
      rw [← et, show trimL (x :: q') = x :: q' by unfold trimL; rw [List.dropWhile_cons_of_neg (by simpa using h0)]] at hk
      refine W ?_
      exact hk
theorem uTrim {l : List UInt8} (hl : l.length ≤ 140737488355328) : U Tryz.prog 37 [.sl (bsl l), .str [0]] (.sl (bsl (trimL (trimR l)))) := by
  intro σ Post hk
  refine T37 fun hB hA => ?_
  by_cases h0 : l = []
  · subst h0
    refine W ?_
    exact hk
  · have h1 : ¬ l.length = 0 := fun h => h0 (List.eq_nil_of_length_eq_zero h)
    have h2 : (trimR l).length ≤ l.length := by
      unfold trimR trimL
      rw [List.length_reverse]
      have := (List.dropWhile_sublist (fun x : UInt8 => x == 0) (l := l.reverse)).length_le
      rw [List.length_reverse] at this; exact this
    refine W ?_
    refine s1 (uTrimR hl) ?_
    refine W ?_
    refine s1 (uTrimL (l := trimR l) (by omega)) ?_
    refine W ?_
    exact hk
/-- Bytes as cells. -/
def u8c (l : List UInt8) : List PV := l.map byt
theorem u8c_len (l : List UInt8) : (u8c l).length = l.length := by simp [u8c]
theorem u8c_sc (l : List UInt8) : (u8c l).all scalar = true := by simp [u8c, scalar]
def adr (s : Int) (b : List UInt8) : List PV := .int .i64 s :: u8c b
theorem adr_sc (s : Int) (l : List UInt8) : (adr s l).all scalar = true := by
  rw [adr, List.all_cons, u8c_sc]; rfl
instance (s : Int) (b : List UInt8) (o l : Nat) : VCut (adr s b) (1 + o) l (bsl ((b.drop o).take l)) := ⟨by
  rw [Nat.add_comm 1 o, adr, List.drop_succ_cons]; simp [u8c, bsl, List.map_drop, List.map_take, Function.comp_def]⟩
instance (s : Int) (b : List UInt8) (o l : Nat) : VCut (adr s b) (o + 1) l (bsl ((b.drop o).take l)) := ⟨by
  rw [adr, List.drop_succ_cons]; simp [u8c, bsl, List.map_drop, List.map_take, Function.comp_def]⟩
instance (l : List UInt8) : PlL (u8c l) := by unfold u8c; infer_instance
instance (l : List UInt8) : ClL (u8c l) := by unfold u8c; infer_instance
instance (s : Int) (l : List UInt8) : PlL (adr s l) := by unfold adr; infer_instance
instance (s : Int) (l : List UInt8) : ClL (adr s l) := by unfold adr; infer_instance
def okA (s : Int) (b : List UInt8) : Bool := (s == 0 || s == 4 || s == 16) && (b.drop s.toNat).all (· == 0)
theorem trimL_all (l : List UInt8) : (trimL l).all (· == 0) = l.all (· == 0) := by
  induction l with
  | nil => rfl
  | cons a r ih =>
    unfold trimL at *
    by_cases h : a = 0
    · subst h
      rw [List.dropWhile_cons_of_pos (by rfl), ih, List.all_cons]; rfl
    · rw [List.dropWhile_cons_of_neg (by simpa using h)]
theorem trimL_nil (l : List UInt8) : trimL l = [] ↔ l.all (· == 0) = true := by
  constructor
  · intro h; rw [← trimL_all, h]; rfl
  · intro h
    induction l with
    | nil => rfl
    | cons a r ih =>
      rw [List.all_cons, Bool.and_eq_true] at h
      unfold trimL at *
      rw [List.dropWhile_cons, if_pos h.1]; exact ih h.2
theorem trim_nil (l : List UInt8) : (trimL (trimR l)).length = 0 ↔ l.all (· == 0) = true := by
  rw [List.length_eq_zero_iff, trimL_nil]
  unfold trimR
  rw [List.all_reverse, trimL_all, List.all_reverse]
theorem uRightA {s : Int} {b : List UInt8} (hb : b.length = 16) : U Tryz.prog 19 [.agg (adr s b)] (.bool (okA s b)) := by
  intro σ Post hk
  refine T19 fun hB hA => ?_
  have c0 : cut (adr s b) 0 none = some (.int .i64 s) := rfl
  have hl : (adr s b).length = 17 := by simp [adr, u8c_len, hb]
  have hs := adr_sc s b
  unfold okA at hk
  by_cases h : s = 0 ∨ s = 4 ∨ s = 16
  · have h1 : (s == 0 || s == 4 || s == 16) = true := by rcases h with h | h | h <;> simp [h]
    rw [h1, Bool.true_and] at hk
    rcases h with rfl | rfl | rfl
    · refine W ?_
      refine cu (uTrim (l := (b.drop 0).take 16) (by simp; omega)) ?_
      rw [List.take_of_length_le (by simp; omega)]
      cases ha : (b.drop 0).all (· == 0)
      · have h2 : ¬ ((trimL (trimR (b.drop 0))).length : Int) = 0 := fun e => by
          have := (trim_nil (b.drop 0)).1 (by exact_mod_cast e)
          rw [ha] at this; cases this
        rw [show (b.drop (Int.toNat 0)).all (· == 0) = false from ha] at hk
        refine W ?_
        exact hk
      · have h2 : ((trimL (trimR (b.drop 0))).length : Int) = 0 := by exact_mod_cast (trim_nil (b.drop 0)).2 ha
        rw [show (b.drop (Int.toNat 0)).all (· == 0) = true from ha] at hk
        refine W ?_
        exact hk
    · refine W ?_
      refine cu (uTrim (l := (b.drop 4).take 12) (by simp; omega)) ?_
      rw [List.take_of_length_le (by simp; omega)]
      cases ha : (b.drop 4).all (· == 0)
      · have h2 : ¬ ((trimL (trimR (b.drop 4))).length : Int) = 0 := fun e => by
          have := (trim_nil (b.drop 4)).1 (by exact_mod_cast e)
          rw [ha] at this; cases this
        rw [show (b.drop (Int.toNat 4)).all (· == 0) = false from ha] at hk
        refine W ?_
        exact hk
      · have h2 : ((trimL (trimR (b.drop 4))).length : Int) = 0 := by exact_mod_cast (trim_nil (b.drop 4)).2 ha
        rw [show (b.drop (Int.toNat 4)).all (· == 0) = true from ha] at hk
        refine W ?_
        exact hk
    · refine W ?_
      refine cu (uTrim (l := (b.drop 16).take 0) (by simp)) ?_
      rw [show (b.drop (Int.toNat 16)).all (· == 0) = true by rw [List.drop_of_length_le (by omega)]; rfl] at hk
      refine W ?_
      exact hk
  · have h1 : (s == 0 || s == 4 || s == 16) = false := by simp; omega
    rw [h1, Bool.false_and] at hk
    refine W ?_
    exact hk
theorem adr_len (s : Int) (b : List UInt8) : (adr s b).length = b.length + 1 := by simp [adr, u8c]
theorem cut_adr {s : Int} {b : List UInt8} {i : Nat} {x : UInt8} (h : b[i]? = some x) : cut (adr s b) (1 + i) none = some (byt x) := by
  unfold cut adr
  rw [Nat.add_comm 1 i, List.getElem?_cons_succ, u8c, List.getElem?_map, h]; rfl
def z16 : List UInt8 := [0, 0, 0, 0, 0, 0, 0, 0, 0, 0, 0, 0, 0, 0, 0, 0]
structure Ad where
  s : Int
  b : List UInt8
  deriving DecidableEq
def adc (a : Ad) : List PV := adr a.s a.b
def ad0 : Ad := ⟨0, z16⟩
def okD (a : Ad) : Prop := a.b.length = 16
theorem ad0_ok : okD ad0 := rfl
instance (a : Ad) : PlL (adc a) := by unfold adc; infer_instance
instance (a : Ad) : ClL (adc a) := by unfold adc; infer_instance
section
variable {a g : Ad}
theorem adc_sc : (adc a).all scalar = true := adr_sc _ _
theorem adc_len (h : okD a) : (adc a).length = 17 := by unfold adc; rw [adr_len, h]
theorem adc_all (h : okD a) : cut (adc a) 0 (some 17) = some (.agg (adc a)) := by
  have := adc_len h
  simp only [cut]; rw [if_pos (by omega), List.drop_zero, List.take_of_length_le (by omega)]
theorem adc_s : cut (adc a) 0 none = some (.int .i64 a.s) := rfl
theorem adc_b0 (_h : okD a) {x : UInt8} (hx : a.b[0]? = some x) : cut (adc a) 1 none = some (byt x) := cut_adr (i := 0) hx
def okAd (a : Ad) : Bool := okA a.s a.b
theorem okAd_s (h : okAd a = true) : a.s = 0 ∨ a.s = 4 ∨ a.s = 16 := by
  unfold okAd okA at h; simp at h; omega
theorem uRightD (h : okD a) : U Tryz.prog 19 [.agg (adc a)] (.bool (okAd a)) := uRightA h
end
section
variable {a b X B v r : List PV} {n o o' : Nat}
theorem cut_sk {sz : Option Nat} {r : Option PV} (ha : a.length = n) (ho : o' = n + o) (h : cut b o sz = r) : cut (a ++ b) o' sz = r := by
  subst ha ho h
  cases sz with
  | none => simp only [cut]; rw [List.getElem?_append_right (by omega), Nat.add_sub_cancel_left]
  | some k =>
    simp only [cut]
    rw [List.length_append, List.drop_append, Nat.add_sub_cancel_left, List.drop_of_length_le (by omega), List.nil_append]
    by_cases hk : o + k ≤ b.length
    · rw [if_pos hk, if_pos (by omega)]
    · rw [if_neg hk, if_neg (by omega)]
theorem cut_hd (h : X.length = n) : cut (X ++ B) 0 (some n) = some (.agg X) := by
  subst h; simp only [cut]; rw [if_pos (by simp), List.drop_zero, List.take_left]
theorem cut_hd0 (h : X.length = n) : cut X 0 (some n) = some (.agg X) := by
  subst h; simp only [cut]; rw [if_pos (by simp), List.drop_zero, List.take_length]
theorem spl_sk (ha : a.length = n) (ho : o' = n + o) (h : splice b o v = r) : splice (a ++ b) o' v = a ++ r := by
  subst ha ho h
  unfold splice
  rw [List.take_append, List.drop_append, List.take_of_length_le (by omega), Nat.add_sub_cancel_left, List.drop_of_length_le (by omega), List.nil_append]
  have : a.length + o + v.length - a.length = o + v.length := by omega
  rw [this]; simp [List.append_assoc]
theorem spl_hd (h : v.length = X.length) : splice (X ++ B) 0 v = v ++ B := by
  unfold splice; rw [Nat.zero_add, h, List.drop_left]; rfl
theorem spl_hd0 (h : v.length = X.length) : splice X 0 v = v := by
  unfold splice; rw [Nat.zero_add, h, List.drop_length]; simp
end
theorem eqC_app {ks1 ks2 : List CK} {a1 a2 b1 b2 : List PV} {x y : Bool} (h1 : eqCells ks1 a1 b1 = some x) (h2 : eqCells ks2 a2 b2 = some y) : eqCells (ks1 ++ ks2) (a1 ++ a2) (b1 ++ b2) = some (x && y) := by
  induction ks1 generalizing a1 b1 x with
  | nil =>
    cases a1 with
    | nil =>
      cases b1 with
      | nil => simp only [eqCells, Option.some.injEq] at h1; subst h1; simpa using h2
      | cons _ _ => cases h1
    | cons _ _ => cases h1
  | cons k ks ih =>
    cases a1 with
    | nil => cases h1
    | cons c a1 =>
      cases b1 with
      | nil => cases h1
      | cons d b1 =>
        simp only [eqCells] at h1
        split at h1
        · rename_i u v e1 e2
          cases h1
          simp only [List.cons_append, eqCells, e1, ih e2, Bool.and_assoc]
        · cases h1
theorem eqC_u8 (a b : List UInt8) (h : a.length = b.length) : eqCells (List.replicate a.length (.i .u8)) (u8c a) (u8c b) = some (a == b) := by
  induction a generalizing b with
  | nil => cases b with
    | nil => rfl
    | cons _ _ => cases h
  | cons x r ih => cases b with
    | nil => cases h
    | cons y q =>
      have h1 := ih q (by simpa using h)
      rw [List.length_cons, List.replicate_succ]
      simp only [u8c, List.map_cons] at h1 ⊢
      have h2 : eqCell (.i .u8) (byt x) (byt y) = some (x == y) := by
        simp only [eqCell, eqI]
        simp only [and_self, if_true, Option.some.injEq]
        rw [Bool.eq_iff_iff, beq_iff_eq, beq_iff_eq]
        exact ⟨fun e => UInt8.toNat_inj.1 (by exact_mod_cast e), fun e => by rw [e]⟩
      simp only [eqCells, h1, h2]
      rfl
theorem eqC_i (a b : Int) : eqCells [.i .i64] [.int .i64 a] [.int .i64 b] = some (a == b) := by simp [eqCells, eqCell, eqI]
theorem eqC_ad {a b : Ad} (ha : okD a) (hb : okD b) : eqCells ([.i .i64] ++ List.replicate 16 (.i .u8)) (adc a) (adc b) = some (a == b) := by
  have h := eqC_app (eqC_i a.s b.s) (eqC_u8 a.b b.b (by rw [ha, hb]))
  rw [ha] at h
  have e : (a == b) = (a.s == b.s && (a.b == b.b)) := by
    cases a; cases b
    rw [Bool.eq_iff_iff]
    simp [Ad.mk.injEq]
  rw [e]
  exact h
theorem fin {Post : KP} {v w : PV} {σ : VHeap} (hk : Post v σ) (e : v = w) : Post w σ := e ▸ hk
/-- Cells of a part that nothing looks into. -/
structure Cs where
  l : List PV
  sc : l.all scalar = true
  pl : PlL l
  cl : ClL l
def csC (x : Cs) : List PV := x.l
instance (x : Cs) : PlL (csC x) := x.pl
instance (x : Cs) : ClL (csC x) := x.cl
def okCs (x : Cs) : Prop := x.l.length = 26
theorem csC_sc {x : Cs} : (csC x).all scalar = true := x.sc
theorem csC_len {x : Cs} (h : okCs x) : (csC x).length = 26 := h
/-- An update of which nothing is told, as it stands behind a call's boundary. -/
def up0 : List PV := [.int .i64 0, .sl [], .int .i64 0, .int .i64 0] ++ (adc ad0 ++ [.sl [], .sl [], .sl [], .sl [], .sl []])
def cs0 : Cs := ⟨up0, rfl, by unfold up0; infer_instance, by unfold up0; infer_instance⟩
/-- A row in a cell: none, or one of ours. -/
inductive RV where
  | nil
  | row (id g : Nat)
def rvc : RV → PV
  | .nil => .nils
  | .row id g => .row id g
theorem rvc_sc {x : RV} : scalar (rvc x) = true := by cases x <;> rfl
structure Fm where
  size : Int
  safi : Int
def fmC (x : Fm) : List PV := [.int .i64 x.size] ++ ([.int .i64 x.safi])
instance (x : Fm) : PlL (fmC x) := by unfold fmC; infer_instance
instance (x : Fm) : ClL (fmC x) := by unfold fmC; infer_instance
structure okFm (x : Fm) : Prop where
  tt : True
def fm0 : Fm := ⟨0, 0⟩
section
variable {x : Fm}
theorem fmC_sc : (fmC x).all scalar = true := by
  unfold fmC
  simp only [List.all_append, List.all_cons, List.all_nil, scalar, Bool.and_self]
theorem fmC_len (h : okFm x) : (fmC x).length = 2 := by
  unfold fmC
  simp only [List.length_append, List.length_cons, List.length_nil]
theorem fmC_all (h : okFm x) : cut (fmC x) 0 (some 2) = some (.agg (fmC x)) := cut_hd0 (fmC_len h)
theorem fmC_any (h : okFm x) {cs : List PV} (hc : cs.length = 2) : splice cs 0 (fmC x) = fmC x := spl_hd0 (by rw [hc, fmC_len h])
theorem fmC_gsize (h : okFm x) : cut (fmC x) 0 none = some (.int .i64 x.size) := rfl
theorem fmC_ssize (h : okFm x) {v : Int} : splice (fmC x) 0 [.int .i64 v] = fmC { x with size := v } := spl_hd rfl
theorem fmC_gsafi (h : okFm x) : cut (fmC x) 1 none = some (.int .i64 x.safi) := cut_sk (o := 0) rfl rfl (rfl)
theorem fmC_ssafi (h : okFm x) {v : Int} : splice (fmC x) 1 [.int .i64 v] = fmC { x with safi := v } := spl_sk (o := 0) rfl rfl (spl_hd0 rfl)
end
structure Opn where
  asn : Int
  hold : Int
  id : Ad
  fams : List Fm
  ref : Bool
def opC (x : Opn) : List PV := [.int .i64 x.asn] ++ ([.int .i64 x.hold] ++ (adc x.id ++ ([.sl (x.fams.map fmC)] ++ ([.bool x.ref]))))
instance (x : Opn) : PlL (opC x) := by unfold opC; infer_instance
instance (x : Opn) : ClL (opC x) := by unfold opC; infer_instance
structure okOp (x : Opn) : Prop where
  id : okD x.id
def op0 : Opn := ⟨0, 0, ad0, [], false⟩
section
variable {x : Opn}
theorem opC_sc : (opC x).all scalar = true := by
  unfold opC
  simp only [List.all_append, adc_sc, List.all_cons, List.all_nil, scalar, Bool.and_self]
theorem opC_len (h : okOp x) : (opC x).length = 21 := by
  unfold opC
  simp only [List.length_append, List.length_cons, List.length_nil, (adc_len h.id)]
theorem opC_all (h : okOp x) : cut (opC x) 0 (some 21) = some (.agg (opC x)) := cut_hd0 (opC_len h)
theorem opC_any (h : okOp x) {cs : List PV} (hc : cs.length = 21) : splice cs 0 (opC x) = opC x := spl_hd0 (by rw [hc, opC_len h])
theorem opC_gasn (h : okOp x) : cut (opC x) 0 none = some (.int .i64 x.asn) := rfl
theorem opC_sasn (h : okOp x) {v : Int} : splice (opC x) 0 [.int .i64 v] = opC { x with asn := v } := spl_hd rfl
theorem opC_ghold (h : okOp x) : cut (opC x) 1 none = some (.int .i64 x.hold) := cut_sk (o := 0) rfl rfl (rfl)
theorem opC_shold (h : okOp x) {v : Int} : splice (opC x) 1 [.int .i64 v] = opC { x with hold := v } := spl_sk (o := 0) rfl rfl (spl_hd rfl)
theorem opC_gid (h : okOp x) : cut (opC x) 2 (some 17) = some (.agg (adc x.id)) := cut_sk (o := 1) rfl rfl (cut_sk (o := 0) rfl rfl (cut_hd (adc_len h.id)))
theorem opC_sid (h : okOp x) {v : Ad} (hv : okD v) : splice (opC x) 2 (adc v) = opC { x with id := v } := spl_sk (o := 1) rfl rfl (spl_sk (o := 0) rfl rfl (spl_hd (by rw [adc_len hv, adc_len h.id])))
theorem opC_gfams (h : okOp x) : cut (opC x) 19 none = some (.sl (x.fams.map fmC)) := cut_sk (o := 18) rfl rfl (cut_sk (o := 17) rfl rfl (cut_sk (o := 0) (adc_len h.id) rfl (rfl)))
theorem opC_sfams (h : okOp x) {v : List Fm} : splice (opC x) 19 [.sl (v.map fmC)] = opC { x with fams := v } := spl_sk (o := 18) rfl rfl (spl_sk (o := 17) rfl rfl (spl_sk (o := 0) (adc_len h.id) rfl (spl_hd rfl)))
theorem opC_gref (h : okOp x) : cut (opC x) 20 none = some (.bool x.ref) := cut_sk (o := 19) rfl rfl (cut_sk (o := 18) rfl rfl (cut_sk (o := 1) (adc_len h.id) rfl (cut_sk (o := 0) rfl rfl (rfl))))
theorem opC_sref (h : okOp x) {v : Bool} : splice (opC x) 20 [.bool v] = opC { x with ref := v } := spl_sk (o := 19) rfl rfl (spl_sk (o := 18) rfl rfl (spl_sk (o := 1) (adc_len h.id) rfl (spl_sk (o := 0) rfl rfl (spl_hd0 rfl))))
end
structure Nt where
  code : Int
  subc : Int
  data : List UInt8
def ntC (x : Nt) : List PV := [.int .i64 x.code] ++ ([.int .i64 x.subc] ++ ([.sl (bsl x.data)]))
instance (x : Nt) : PlL (ntC x) := by unfold ntC; infer_instance
instance (x : Nt) : ClL (ntC x) := by unfold ntC; infer_instance
structure okNt (x : Nt) : Prop where
  tt : True
def nt0 : Nt := ⟨0, 0, []⟩
section
variable {x : Nt}
theorem ntC_sc : (ntC x).all scalar = true := by
  unfold ntC
  simp only [List.all_append, List.all_cons, List.all_nil, scalar, Bool.and_self]
theorem ntC_len (h : okNt x) : (ntC x).length = 3 := by
  unfold ntC
  simp only [List.length_append, List.length_cons, List.length_nil]
theorem ntC_all (h : okNt x) : cut (ntC x) 0 (some 3) = some (.agg (ntC x)) := cut_hd0 (ntC_len h)
theorem ntC_any (h : okNt x) {cs : List PV} (hc : cs.length = 3) : splice cs 0 (ntC x) = ntC x := spl_hd0 (by rw [hc, ntC_len h])
theorem ntC_gcode (h : okNt x) : cut (ntC x) 0 none = some (.int .i64 x.code) := rfl
theorem ntC_scode (h : okNt x) {v : Int} : splice (ntC x) 0 [.int .i64 v] = ntC { x with code := v } := spl_hd rfl
theorem ntC_gsubc (h : okNt x) : cut (ntC x) 1 none = some (.int .i64 x.subc) := cut_sk (o := 0) rfl rfl (rfl)
theorem ntC_ssubc (h : okNt x) {v : Int} : splice (ntC x) 1 [.int .i64 v] = ntC { x with subc := v } := spl_sk (o := 0) rfl rfl (spl_hd rfl)
theorem ntC_gdata (h : okNt x) : cut (ntC x) 2 none = some (.sl (bsl x.data)) := cut_sk (o := 1) rfl rfl (cut_sk (o := 0) rfl rfl (rfl))
theorem ntC_sdata (h : okNt x) {v : List UInt8} : splice (ntC x) 2 [.sl (bsl v)] = ntC { x with data := v } := spl_sk (o := 1) rfl rfl (spl_sk (o := 0) rfl rfl (spl_hd0 rfl))
end
structure Ms where
  kind : Int
  op : Opn
  up : Cs
  nt : Nt
  fam : Fm
def msC (x : Ms) : List PV := [.int .i64 x.kind] ++ (opC x.op ++ (csC x.up ++ (ntC x.nt ++ (fmC x.fam))))
instance (x : Ms) : PlL (msC x) := by unfold msC; infer_instance
instance (x : Ms) : ClL (msC x) := by unfold msC; infer_instance
structure okMs (x : Ms) : Prop where
  op : okOp x.op
  up : okCs x.up
  nt : okNt x.nt
  fam : okFm x.fam
def ms0 : Ms := ⟨0, op0, cs0, nt0, fm0⟩
section
variable {x : Ms}
theorem msC_sc : (msC x).all scalar = true := by
  unfold msC
  simp only [List.all_append, opC_sc, csC_sc, ntC_sc, fmC_sc, List.all_cons, List.all_nil, scalar, Bool.and_self]
theorem msC_len (h : okMs x) : (msC x).length = 53 := by
  unfold msC
  simp only [List.length_append, List.length_cons, List.length_nil, (opC_len h.op), (csC_len h.up), (ntC_len h.nt), (fmC_len h.fam)]
theorem msC_all (h : okMs x) : cut (msC x) 0 (some 53) = some (.agg (msC x)) := cut_hd0 (msC_len h)
theorem msC_any (h : okMs x) {cs : List PV} (hc : cs.length = 53) : splice cs 0 (msC x) = msC x := spl_hd0 (by rw [hc, msC_len h])
theorem msC_gkind (h : okMs x) : cut (msC x) 0 none = some (.int .i64 x.kind) := rfl
theorem msC_skind (h : okMs x) {v : Int} : splice (msC x) 0 [.int .i64 v] = msC { x with kind := v } := spl_hd rfl
theorem msC_gop (h : okMs x) : cut (msC x) 1 (some 21) = some (.agg (opC x.op)) := cut_sk (o := 0) rfl rfl (cut_hd (opC_len h.op))
theorem msC_sop (h : okMs x) {v : Opn} (hv : okOp v) : splice (msC x) 1 (opC v) = msC { x with op := v } := spl_sk (o := 0) rfl rfl (spl_hd (by rw [opC_len hv, opC_len h.op]))
theorem msC_gup (h : okMs x) : cut (msC x) 22 (some 26) = some (.agg (csC x.up)) := cut_sk (o := 21) rfl rfl (cut_sk (o := 0) (opC_len h.op) rfl (cut_hd (csC_len h.up)))
theorem msC_sup (h : okMs x) {v : Cs} (hv : okCs v) : splice (msC x) 22 (csC v) = msC { x with up := v } := spl_sk (o := 21) rfl rfl (spl_sk (o := 0) (opC_len h.op) rfl (spl_hd (by rw [csC_len hv, csC_len h.up])))
theorem msC_gnt (h : okMs x) : cut (msC x) 48 (some 3) = some (.agg (ntC x.nt)) := cut_sk (o := 47) rfl rfl (cut_sk (o := 26) (opC_len h.op) rfl (cut_sk (o := 0) (csC_len h.up) rfl (cut_hd (ntC_len h.nt))))
theorem msC_snt (h : okMs x) {v : Nt} (hv : okNt v) : splice (msC x) 48 (ntC v) = msC { x with nt := v } := spl_sk (o := 47) rfl rfl (spl_sk (o := 26) (opC_len h.op) rfl (spl_sk (o := 0) (csC_len h.up) rfl (spl_hd (by rw [ntC_len hv, ntC_len h.nt]))))
theorem msC_gfam (h : okMs x) : cut (msC x) 51 (some 2) = some (.agg (fmC x.fam)) := cut_sk (o := 50) rfl rfl (cut_sk (o := 29) (opC_len h.op) rfl (cut_sk (o := 3) (csC_len h.up) rfl (cut_sk (o := 0) (ntC_len h.nt) rfl (cut_hd0 (fmC_len h.fam)))))
theorem msC_sfam (h : okMs x) {v : Fm} (hv : okFm v) : splice (msC x) 51 (fmC v) = msC { x with fam := v } := spl_sk (o := 50) rfl rfl (spl_sk (o := 29) (opC_len h.op) rfl (spl_sk (o := 3) (csC_len h.up) rfl (spl_sk (o := 0) (ntC_len h.nt) rfl (spl_hd0 (by rw [fmC_len hv, fmC_len h.fam])))))
end
structure Ev where
  do_ : Int
  h : Ms
  out : Int
  nt : Nt
def evC (x : Ev) : List PV := [.int .i64 x.do_] ++ (msC x.h ++ ([.int .i64 x.out] ++ (ntC x.nt)))
instance (x : Ev) : PlL (evC x) := by unfold evC; infer_instance
instance (x : Ev) : ClL (evC x) := by unfold evC; infer_instance
structure okEv (x : Ev) : Prop where
  h : okMs x.h
  nt : okNt x.nt
def ev0 : Ev := ⟨0, ms0, 0, nt0⟩
section
variable {x : Ev}
theorem evC_sc : (evC x).all scalar = true := by
  unfold evC
  simp only [List.all_append, msC_sc, ntC_sc, List.all_cons, List.all_nil, scalar, Bool.and_self]
theorem evC_len (h : okEv x) : (evC x).length = 58 := by
  unfold evC
  simp only [List.length_append, List.length_cons, List.length_nil, (msC_len h.h), (ntC_len h.nt)]
theorem evC_all (h : okEv x) : cut (evC x) 0 (some 58) = some (.agg (evC x)) := cut_hd0 (evC_len h)
theorem evC_any (h : okEv x) {cs : List PV} (hc : cs.length = 58) : splice cs 0 (evC x) = evC x := spl_hd0 (by rw [hc, evC_len h])
theorem evC_gdo_ (h : okEv x) : cut (evC x) 0 none = some (.int .i64 x.do_) := rfl
theorem evC_sdo_ (h : okEv x) {v : Int} : splice (evC x) 0 [.int .i64 v] = evC { x with do_ := v } := spl_hd rfl
theorem evC_gh (h : okEv x) : cut (evC x) 1 (some 53) = some (.agg (msC x.h)) := cut_sk (o := 0) rfl rfl (cut_hd (msC_len h.h))
theorem evC_sh (h : okEv x) {v : Ms} (hv : okMs v) : splice (evC x) 1 (msC v) = evC { x with h := v } := spl_sk (o := 0) rfl rfl (spl_hd (by rw [msC_len hv, msC_len h.h]))
theorem evC_gout (h : okEv x) : cut (evC x) 54 none = some (.int .i64 x.out) := cut_sk (o := 53) rfl rfl (cut_sk (o := 0) (msC_len h.h) rfl (rfl))
theorem evC_sout (h : okEv x) {v : Int} : splice (evC x) 54 [.int .i64 v] = evC { x with out := v } := spl_sk (o := 53) rfl rfl (spl_sk (o := 0) (msC_len h.h) rfl (spl_hd rfl))
theorem evC_gnt (h : okEv x) : cut (evC x) 55 (some 3) = some (.agg (ntC x.nt)) := cut_sk (o := 54) rfl rfl (cut_sk (o := 1) (msC_len h.h) rfl (cut_sk (o := 0) rfl rfl (cut_hd0 (ntC_len h.nt))))
theorem evC_snt (h : okEv x) {v : Nt} (hv : okNt v) : splice (evC x) 55 (ntC v) = evC { x with nt := v } := spl_sk (o := 54) rfl rfl (spl_sk (o := 1) (msC_len h.h) rfl (spl_sk (o := 0) rfl rfl (spl_hd0 (by rw [ntC_len hv, ntC_len h.nt]))))
end
structure Pr where
  asn : Int
  id : Ad
  hold : Int
  other : Int
  fams : List Fm
def prC (x : Pr) : List PV := [.int .i64 x.asn] ++ (adc x.id ++ ([.int .i64 x.hold] ++ ([.int .i64 x.other] ++ ([.sl (x.fams.map fmC)]))))
instance (x : Pr) : PlL (prC x) := by unfold prC; infer_instance
instance (x : Pr) : ClL (prC x) := by unfold prC; infer_instance
structure okPr (x : Pr) : Prop where
  id : okD x.id
def pr0 : Pr := ⟨0, ad0, 0, 0, []⟩
section
variable {x : Pr}
theorem prC_sc : (prC x).all scalar = true := by
  unfold prC
  simp only [List.all_append, adc_sc, List.all_cons, List.all_nil, scalar, Bool.and_self]
theorem prC_len (h : okPr x) : (prC x).length = 21 := by
  unfold prC
  simp only [List.length_append, List.length_cons, List.length_nil, (adc_len h.id)]
theorem prC_all (h : okPr x) : cut (prC x) 0 (some 21) = some (.agg (prC x)) := cut_hd0 (prC_len h)
theorem prC_any (h : okPr x) {cs : List PV} (hc : cs.length = 21) : splice cs 0 (prC x) = prC x := spl_hd0 (by rw [hc, prC_len h])
theorem prC_gasn (h : okPr x) : cut (prC x) 0 none = some (.int .i64 x.asn) := rfl
theorem prC_sasn (h : okPr x) {v : Int} : splice (prC x) 0 [.int .i64 v] = prC { x with asn := v } := spl_hd rfl
theorem prC_gid (h : okPr x) : cut (prC x) 1 (some 17) = some (.agg (adc x.id)) := cut_sk (o := 0) rfl rfl (cut_hd (adc_len h.id))
theorem prC_sid (h : okPr x) {v : Ad} (hv : okD v) : splice (prC x) 1 (adc v) = prC { x with id := v } := spl_sk (o := 0) rfl rfl (spl_hd (by rw [adc_len hv, adc_len h.id]))
theorem prC_ghold (h : okPr x) : cut (prC x) 18 none = some (.int .i64 x.hold) := cut_sk (o := 17) rfl rfl (cut_sk (o := 0) (adc_len h.id) rfl (rfl))
theorem prC_shold (h : okPr x) {v : Int} : splice (prC x) 18 [.int .i64 v] = prC { x with hold := v } := spl_sk (o := 17) rfl rfl (spl_sk (o := 0) (adc_len h.id) rfl (spl_hd rfl))
theorem prC_gother (h : okPr x) : cut (prC x) 19 none = some (.int .i64 x.other) := cut_sk (o := 18) rfl rfl (cut_sk (o := 1) (adc_len h.id) rfl (cut_sk (o := 0) rfl rfl (rfl)))
theorem prC_sother (h : okPr x) {v : Int} : splice (prC x) 19 [.int .i64 v] = prC { x with other := v } := spl_sk (o := 18) rfl rfl (spl_sk (o := 1) (adc_len h.id) rfl (spl_sk (o := 0) rfl rfl (spl_hd rfl)))
theorem prC_gfams (h : okPr x) : cut (prC x) 20 none = some (.sl (x.fams.map fmC)) := cut_sk (o := 19) rfl rfl (cut_sk (o := 2) (adc_len h.id) rfl (cut_sk (o := 1) rfl rfl (cut_sk (o := 0) rfl rfl (rfl))))
theorem prC_sfams (h : okPr x) {v : List Fm} : splice (prC x) 20 [.sl (v.map fmC)] = prC { x with fams := v } := spl_sk (o := 19) rfl rfl (spl_sk (o := 2) (adc_len h.id) rfl (spl_sk (o := 1) rfl rfl (spl_sk (o := 0) rfl rfl (spl_hd0 rfl))))
end
structure Sc where
  peer : Pr
  st : Int
  stopped : Bool
  tm : Nat
  oid : Ad
  hold : Int
  fv : RV
  sv : RV
  dial : Bool
  close : Bool
  up : Bool
  down : Bool
def scC (x : Sc) : List PV := prC x.peer ++ ([.int .i64 x.st] ++ ([.bool x.stopped] ++ ([.ptr x.tm 1 0] ++ (adc x.oid ++ ([.int .i64 x.hold] ++ ([rvc x.fv] ++ ([rvc x.sv] ++ ([.bool x.dial] ++ ([.bool x.close] ++ ([.bool x.up] ++ ([.bool x.down])))))))))))
structure okSc (x : Sc) : Prop where
  peer : okPr x.peer
  oid : okD x.oid
def sc0 : Sc := ⟨pr0, 0, false, 0, ad0, 0, .nil, .nil, false, false, false, false⟩
section
variable {x : Sc}
theorem scC_sc : (scC x).all scalar = true := by
  unfold scC
  simp only [List.all_append, prC_sc, adc_sc, List.all_cons, List.all_nil, rvc_sc, Bool.and_true, Bool.true_and]
  rfl
theorem scC_len (h : okSc x) : (scC x).length = 48 := by
  unfold scC
  simp only [List.length_append, List.length_cons, List.length_nil, (prC_len h.peer), (adc_len h.oid)]
theorem scC_all (h : okSc x) : cut (scC x) 0 (some 48) = some (.agg (scC x)) := cut_hd0 (scC_len h)
theorem scC_any (h : okSc x) {cs : List PV} (hc : cs.length = 48) : splice cs 0 (scC x) = scC x := spl_hd0 (by rw [hc, scC_len h])
theorem scC_gpeer (h : okSc x) : cut (scC x) 0 (some 21) = some (.agg (prC x.peer)) := cut_hd (prC_len h.peer)
theorem scC_speer (h : okSc x) {v : Pr} (hv : okPr v) : splice (scC x) 0 (prC v) = scC { x with peer := v } := spl_hd (by rw [prC_len hv, prC_len h.peer])
theorem scC_gst (h : okSc x) : cut (scC x) 21 none = some (.int .i64 x.st) := cut_sk (o := 0) (prC_len h.peer) rfl (rfl)
theorem scC_sst (h : okSc x) {v : Int} : splice (scC x) 21 [.int .i64 v] = scC { x with st := v } := spl_sk (o := 0) (prC_len h.peer) rfl (spl_hd rfl)
theorem scC_gstopped (h : okSc x) : cut (scC x) 22 none = some (.bool x.stopped) := cut_sk (o := 1) (prC_len h.peer) rfl (cut_sk (o := 0) rfl rfl (rfl))
theorem scC_sstopped (h : okSc x) {v : Bool} : splice (scC x) 22 [.bool v] = scC { x with stopped := v } := spl_sk (o := 1) (prC_len h.peer) rfl (spl_sk (o := 0) rfl rfl (spl_hd rfl))
theorem scC_gtm (h : okSc x) : cut (scC x) 23 none = some (.ptr x.tm 1 0) := cut_sk (o := 2) (prC_len h.peer) rfl (cut_sk (o := 1) rfl rfl (cut_sk (o := 0) rfl rfl (rfl)))
theorem scC_stm (h : okSc x) {v : Nat} : splice (scC x) 23 [.ptr v 1 0] = scC { x with tm := v } := spl_sk (o := 2) (prC_len h.peer) rfl (spl_sk (o := 1) rfl rfl (spl_sk (o := 0) rfl rfl (spl_hd rfl)))
theorem scC_goid (h : okSc x) : cut (scC x) 24 (some 17) = some (.agg (adc x.oid)) := cut_sk (o := 3) (prC_len h.peer) rfl (cut_sk (o := 2) rfl rfl (cut_sk (o := 1) rfl rfl (cut_sk (o := 0) rfl rfl (cut_hd (adc_len h.oid)))))
theorem scC_soid (h : okSc x) {v : Ad} (hv : okD v) : splice (scC x) 24 (adc v) = scC { x with oid := v } := spl_sk (o := 3) (prC_len h.peer) rfl (spl_sk (o := 2) rfl rfl (spl_sk (o := 1) rfl rfl (spl_sk (o := 0) rfl rfl (spl_hd (by rw [adc_len hv, adc_len h.oid])))))
theorem scC_ghold (h : okSc x) : cut (scC x) 41 none = some (.int .i64 x.hold) := cut_sk (o := 20) (prC_len h.peer) rfl (cut_sk (o := 19) rfl rfl (cut_sk (o := 18) rfl rfl (cut_sk (o := 17) rfl rfl (cut_sk (o := 0) (adc_len h.oid) rfl (rfl)))))
theorem scC_shold (h : okSc x) {v : Int} : splice (scC x) 41 [.int .i64 v] = scC { x with hold := v } := spl_sk (o := 20) (prC_len h.peer) rfl (spl_sk (o := 19) rfl rfl (spl_sk (o := 18) rfl rfl (spl_sk (o := 17) rfl rfl (spl_sk (o := 0) (adc_len h.oid) rfl (spl_hd rfl)))))
theorem scC_gfv (h : okSc x) : cut (scC x) 42 none = some (rvc x.fv) := cut_sk (o := 21) (prC_len h.peer) rfl (cut_sk (o := 20) rfl rfl (cut_sk (o := 19) rfl rfl (cut_sk (o := 18) rfl rfl (cut_sk (o := 1) (adc_len h.oid) rfl (cut_sk (o := 0) rfl rfl (rfl))))))
theorem scC_sfv (h : okSc x) {v : RV} : splice (scC x) 42 [rvc v] = scC { x with fv := v } := spl_sk (o := 21) (prC_len h.peer) rfl (spl_sk (o := 20) rfl rfl (spl_sk (o := 19) rfl rfl (spl_sk (o := 18) rfl rfl (spl_sk (o := 1) (adc_len h.oid) rfl (spl_sk (o := 0) rfl rfl (spl_hd rfl))))))
theorem scC_gsv (h : okSc x) : cut (scC x) 43 none = some (rvc x.sv) := cut_sk (o := 22) (prC_len h.peer) rfl (cut_sk (o := 21) rfl rfl (cut_sk (o := 20) rfl rfl (cut_sk (o := 19) rfl rfl (cut_sk (o := 2) (adc_len h.oid) rfl (cut_sk (o := 1) rfl rfl (cut_sk (o := 0) rfl rfl (rfl)))))))
theorem scC_ssv (h : okSc x) {v : RV} : splice (scC x) 43 [rvc v] = scC { x with sv := v } := spl_sk (o := 22) (prC_len h.peer) rfl (spl_sk (o := 21) rfl rfl (spl_sk (o := 20) rfl rfl (spl_sk (o := 19) rfl rfl (spl_sk (o := 2) (adc_len h.oid) rfl (spl_sk (o := 1) rfl rfl (spl_sk (o := 0) rfl rfl (spl_hd rfl)))))))
theorem scC_gdial (h : okSc x) : cut (scC x) 44 none = some (.bool x.dial) := cut_sk (o := 23) (prC_len h.peer) rfl (cut_sk (o := 22) rfl rfl (cut_sk (o := 21) rfl rfl (cut_sk (o := 20) rfl rfl (cut_sk (o := 3) (adc_len h.oid) rfl (cut_sk (o := 2) rfl rfl (cut_sk (o := 1) rfl rfl (cut_sk (o := 0) rfl rfl (rfl))))))))
theorem scC_sdial (h : okSc x) {v : Bool} : splice (scC x) 44 [.bool v] = scC { x with dial := v } := spl_sk (o := 23) (prC_len h.peer) rfl (spl_sk (o := 22) rfl rfl (spl_sk (o := 21) rfl rfl (spl_sk (o := 20) rfl rfl (spl_sk (o := 3) (adc_len h.oid) rfl (spl_sk (o := 2) rfl rfl (spl_sk (o := 1) rfl rfl (spl_sk (o := 0) rfl rfl (spl_hd rfl))))))))
theorem scC_gclose (h : okSc x) : cut (scC x) 45 none = some (.bool x.close) := cut_sk (o := 24) (prC_len h.peer) rfl (cut_sk (o := 23) rfl rfl (cut_sk (o := 22) rfl rfl (cut_sk (o := 21) rfl rfl (cut_sk (o := 4) (adc_len h.oid) rfl (cut_sk (o := 3) rfl rfl (cut_sk (o := 2) rfl rfl (cut_sk (o := 1) rfl rfl (cut_sk (o := 0) rfl rfl (rfl)))))))))
theorem scC_sclose (h : okSc x) {v : Bool} : splice (scC x) 45 [.bool v] = scC { x with close := v } := spl_sk (o := 24) (prC_len h.peer) rfl (spl_sk (o := 23) rfl rfl (spl_sk (o := 22) rfl rfl (spl_sk (o := 21) rfl rfl (spl_sk (o := 4) (adc_len h.oid) rfl (spl_sk (o := 3) rfl rfl (spl_sk (o := 2) rfl rfl (spl_sk (o := 1) rfl rfl (spl_sk (o := 0) rfl rfl (spl_hd rfl)))))))))
theorem scC_gup (h : okSc x) : cut (scC x) 46 none = some (.bool x.up) := cut_sk (o := 25) (prC_len h.peer) rfl (cut_sk (o := 24) rfl rfl (cut_sk (o := 23) rfl rfl (cut_sk (o := 22) rfl rfl (cut_sk (o := 5) (adc_len h.oid) rfl (cut_sk (o := 4) rfl rfl (cut_sk (o := 3) rfl rfl (cut_sk (o := 2) rfl rfl (cut_sk (o := 1) rfl rfl (cut_sk (o := 0) rfl rfl (rfl))))))))))
theorem scC_sup (h : okSc x) {v : Bool} : splice (scC x) 46 [.bool v] = scC { x with up := v } := spl_sk (o := 25) (prC_len h.peer) rfl (spl_sk (o := 24) rfl rfl (spl_sk (o := 23) rfl rfl (spl_sk (o := 22) rfl rfl (spl_sk (o := 5) (adc_len h.oid) rfl (spl_sk (o := 4) rfl rfl (spl_sk (o := 3) rfl rfl (spl_sk (o := 2) rfl rfl (spl_sk (o := 1) rfl rfl (spl_sk (o := 0) rfl rfl (spl_hd rfl))))))))))
theorem scC_gdown (h : okSc x) : cut (scC x) 47 none = some (.bool x.down) := cut_sk (o := 26) (prC_len h.peer) rfl (cut_sk (o := 25) rfl rfl (cut_sk (o := 24) rfl rfl (cut_sk (o := 23) rfl rfl (cut_sk (o := 6) (adc_len h.oid) rfl (cut_sk (o := 5) rfl rfl (cut_sk (o := 4) rfl rfl (cut_sk (o := 3) rfl rfl (cut_sk (o := 2) rfl rfl (cut_sk (o := 1) rfl rfl (cut_sk (o := 0) rfl rfl (rfl)))))))))))
theorem scC_sdown (h : okSc x) {v : Bool} : splice (scC x) 47 [.bool v] = scC { x with down := v } := spl_sk (o := 26) (prC_len h.peer) rfl (spl_sk (o := 25) rfl rfl (spl_sk (o := 24) rfl rfl (spl_sk (o := 23) rfl rfl (spl_sk (o := 6) (adc_len h.oid) rfl (spl_sk (o := 5) rfl rfl (spl_sk (o := 4) rfl rfl (spl_sk (o := 3) rfl rfl (spl_sk (o := 2) rfl rfl (spl_sk (o := 1) rfl rfl (spl_sk (o := 0) rfl rfl (spl_hd0 rfl)))))))))))
end
end Go.Proofs.YtocnjlfnapefjaaGreatDoor
