/- The law UrouteLabels as a triple. -/
import Derived.Test.YtdkjcadffhnjgaaDoorL1
namespace Go.Proofs.YtdkjcadffhnjgaaDoor
open Go Go.V
set_option maxRecDepth 10000
/-- Guarded calls where the order is open. -/
theorem s1t {P : Program} {n : Nat} {J : VHeap → Prop} {K : Env → VHeap → Prop} {r : List (Nat × VO)} {d : Option Nat} {env : Env} {h : VHeap} {v : PV} {f : FuncId} {args : List VA} {vs : List PV} {s : Nat} {b : Bool} (u : U P f vs v) (k : vseq P n J K r (eput env d v) h)
    (hg : env s = .bool b := by exact z_vv) (hm : args.map (va env) = vs := by exact z_ma) (hp : PlL vs := by infer_instance) : vseq P n J K ((1, ⟨d, .call false f args, some (s, b)⟩) :: r) env h := sv1t hg (y_call u hm) k
theorem s2t {P : Program} {n : Nat} {J : VHeap → Prop} {K : Env → VHeap → Prop} {r : List (Nat × VO)} {d : Option Nat} {env : Env} {h : VHeap} {v : PV} {f : FuncId} {args : List VA} {vs : List PV} {s : Nat} {b : Bool} (u : U P f vs v) (k : vseq P n J K r (eput env d v) h)
    (hg : env s = .bool b := by exact z_vv) (hm : args.map (va env) = vs := by exact z_ma) (hp : PlL vs := by infer_instance) : vseq P n J K ((2, ⟨d, .call false f args, some (s, b)⟩) :: r) env h := sv2t hg (fun _ _ => y_call u hm) k
theorem big_be (n : Nat) : ∀ (k a : Nat), big (be n k) a = a * 256 ^ k + n % 256 ^ k
  | 0, a => by simp [big, be, Nat.mod_one]
  | k + 1, a => by
    rw [be, big, big_be n k]
    have h1 : (UInt8.ofNat (n / 256 ^ k)).toNat = n / 256 ^ k % 256 := by simp
    rw [h1, Nat.pow_succ, Nat.mod_mul, Nat.add_mul, Nat.mul_assoc, Nat.mul_comm (n / 256 ^ k % 256), Nat.add_assoc, Nat.add_comm (256 ^ k * _), Nat.mul_comm 256]
theorem be_inj {n m k : Nat} (h1 : n < 256 ^ k) (h2 : m < 256 ^ k) (h : be n k = be m k) : n = m := by
  have e1 := big_be n k 0
  have e2 := big_be m k 0
  rw [h, e2, Nat.mod_eq_of_lt h1, Nat.mod_eq_of_lt h2] at e1
  omega
def uz : List PV := [.int .u8 0, .int .u8 0, .int .u8 0, .int .u8 0, .int .u8 0, .int .u8 0, .int .u8 0, .int .u8 0, .int .i64 0, .int .u8 0, .int .u8 0, .int .u8 0, .int .u8 0, .int .u8 0, .int .u8 0, .int .u8 0, .int .u8 0, .int .u8 0, .int .u8 0, .int .u8 0, .int .u8 0, .int .u8 0, .int .u8 0, .int .u8 0, .int .u8 0, .int .i64 0, .int .i64 0]
def ubN (x : Nm) (a : Int) : List UInt8 := ubytes x.rd x.b x.k a
def okR (x : Nm) (a : Int) : Bool := okU x.s x.b x.k a
section
variable {x y : Nm} {a b l : Int}
theorem spl_all (h : okN x) : splice uz 0 (nmU x a) = nmU x a := by
  unfold splice
  rw [List.drop_of_length_le (by rw [nmU_len h]; exact Nat.le_refl _)]
  simp
theorem spl_all' {cs : List PV} (hc : cs.length = 27) (h : okN x) : splice cs 0 (nmU x a) = nmU x a := by
  unfold splice
  rw [List.drop_of_length_le (by rw [nmU_len h, hc]; exact Nat.le_refl _)]
  simp
theorem spl_label (h : okN x) : splice (nmU x a) 26 [.int .i64 l] = nmU x l := by
  have h1 : (u8c x.rd ++ pfx x.s x.b x.k).length = 26 := by rw [List.length_append, u8c_len, pfx_len, h.1, h.2]
  unfold splice nmU urc
  rw [← List.append_assoc, ← List.append_assoc, List.take_left' h1, List.drop_of_length_le (by simp only [List.length_append] at h1 ⊢; simp only [List.length_cons, List.length_nil]; omega), List.append_nil]
abbrev ukk : List CK := [.i .u8, .i .u8, .i .u8, .i .u8, .i .u8, .i .u8, .i .u8, .i .u8, .i .i64, .i .u8, .i .u8, .i .u8, .i .u8, .i .u8, .i .u8, .i .u8, .i .u8, .i .u8, .i .u8, .i .u8, .i .u8, .i .u8, .i .u8, .i .u8, .i .u8, .i .i64, .i .i64]
theorem eqC_U (h : okN x) (h' : okN y) : eqCells ukk (nmU x a) (nmU y b) = some (sameU x.rd x.s x.b x.k y.rd y.s y.b y.k && (a == b)) := by
  have h1 := eqC_app (eqC_nm (s := x.s) (s' := y.s) (k := x.k) (k' := y.k) h.1 h'.1 h.2 h'.2) (eqC_i a b)
  have e : ∀ (z : Nm) (c : Int), nmc z.rd z.s z.b z.k ++ [.int .i64 c] = nmU z c := fun z c => by unfold nmc nmU urc; rw [List.append_assoc]
  rw [e, e] at h1
  exact h1
theorem same_self (x : Nm) : sameU x.rd x.s x.b x.k x.rd x.s x.b x.k = true := by simp [sameU]
theorem cmp_self (x : Nm) : nmCmp x x = 0 := (nm_zero x x).2 (same_self x)
theorem okR_lab (h : okR x a = true) : 0 ≤ a ∧ a ≤ 1048575 := by
  unfold okR okU at h; simp only [Bool.and_eq_true, decide_eq_true_eq] at h; exact ⟨h.1.2, h.2⟩
theorem ubN_cons (x : Nm) (a : Int) : ubN x a = UInt8.ofNat (88 + x.k).toNat :: (be (a.toNat * 16 + 1) 3 ++ (x.rd ++ x.b.take ((x.k + 7) / 8).toNat)) := by unfold ubN ubytes; rw [List.append_assoc]
theorem ubN_drop (x : Nm) (a : Int) : (ubN x a).drop 4 = x.rd ++ x.b.take ((x.k + 7) / 8).toNat := by
  rw [ubN_cons, List.drop_succ_cons, List.drop_left' (be_len _ 3)]
theorem ubN_len (h : okN x) : (ubN x a).length = 12 + min ((x.k + 7) / 8).toNat 16 := by
  rw [ubN_cons]; simp [be_len, h.1, h.2]; omega
theorem ubN_inj (ha : okR x a = true) (hb : okR x b = true) (h : ubN x a = ubN x b) : a = b := by
  have h1 := okR_lab ha
  have h2 := okR_lab hb
  rw [ubN_cons, ubN_cons, List.cons.injEq] at h
  have h3 := (List.append_inj h.2 (by rw [be_len, be_len])).1
  have := be_inj (k := 3) (by omega) (by omega) h3
  omega
theorem uNmBytes (h : okN x) (ho : okR x a = true) : U Tryd.prog 13 [.agg (nmU x a)] (.tup [.sl (bsl (ubN x a)), .int .i64 0]) := (uBytesU h.1 h.2).1 ho
theorem uNmBytes0 (h : okN x) (ho : okR x a = false) : U Tryd.prog 13 [.agg (nmU x a)] (.tup [.sl [], .int .i64 1]) := (uBytesU h.1 h.2).2 ho
set_option maxHeartbeats 4000000 in
theorem tLabels (hx : okN x) : U Tryd.prog 7 [.agg (nmU x a), .int .i64 l] (.bool true) := by
  intro σ Post hk
  have hs1 := nmU_sc (x := x) (a := a)
  have hs2 := nmU_sc (x := x) (a := l)
  have c1 := nmU_all (a := a) hx
  have c2 := nmU_all (a := l) hx
  have l1 := nmU_len (a := a) hx
  have l2 := nmU_len (a := l) hx
  have d1 : splice [.int .u8 0, .int .u8 0, .int .u8 0, .int .u8 0, .int .u8 0, .int .u8 0, .int .u8 0, .int .u8 0, .int .i64 0, .int .u8 0, .int .u8 0, .int .u8 0, .int .u8 0, .int .u8 0, .int .u8 0, .int .u8 0, .int .u8 0, .int .u8 0, .int .u8 0, .int .u8 0, .int .u8 0, .int .u8 0, .int .u8 0, .int .u8 0, .int .u8 0, .int .i64 0, .int .i64 0] 0 (nmU x a) = nmU x a := spl_all hx
  have d2 := spl_label (a := a) (l := l) hx
  have u1 := uNmSame (a := a) (b := l) hx hx
  have u2 := uNmCmp (a := a) (b := l) hx hx
  rw [cmp_self] at u1 u2
  have d : decide ((0 : Int) = 0) = true := rfl
  rw [d] at u1
  refine T7 fun hB hA => ?_
  refine W ?_
  refine cu uSmall ?_
  refine W ?_
  cases oa : okR x a with
  | false =>
    refine cu (uNmBytes0 hx oa) ?_
    refine W ?_
    cases ol : okR x l with
    | false =>
      refine cu (uNmBytes0 hx ol) ?_
      refine W ?_
      refine cu u1 ?_
      refine W ?_
      refine cu u2 ?_
      refine W ?_
      exact hk
    | true =>
      refine cu (uNmBytes hx ol) ?_
      refine W ?_
      refine cu u1 ?_
      refine W ?_
      refine cu u2 ?_
      refine W ?_
      exact hk
  | true =>
    refine cu (uNmBytes hx oa) ?_
    refine W ?_
    cases ol : okR x l with
    | false =>
      refine cu (uNmBytes0 hx ol) ?_
      refine W ?_
      refine cu u1 ?_
      refine W ?_
      refine cu u2 ?_
      refine W ?_
      exact hk
    | true =>
      refine cu (uNmBytes hx ol) ?_
      have e1 : sbin .eql ((ubN x a).drop 4) ((ubN x l).drop 4) = some (.bool true) := by rw [ubN_drop, ubN_drop]; exact sb_eqlT rfl
      have e2 := ubN_len (a := a) hx
      have e3 := ubN_len (a := l) hx
      have e4 : (ubN x a)[(0 : Int).toNat]? = some (UInt8.ofNat (88 + x.k).toNat) := by rw [ubN_cons]; rfl
      have e5 : (ubN x l)[(0 : Int).toNat]? = some (UInt8.ofNat (88 + x.k).toNat) := by rw [ubN_cons]; rfl
      have e6 := eqC_U (a := a) (b := l) hx hx
      rw [same_self, Bool.true_and] at e6
      have e7 : sbin .eql (ubN x a) (ubN x l) = some (.bool (a == l)) := by
        by_cases h : a = l
        · subst h; rw [beq_self_eq_true]; exact sb_eqlT rfl
        · have : ubN x a ≠ ubN x l := fun e => h (ubN_inj oa ol e)
          rw [sb_eql]; simp [h, this]
      refine W ?_
      refine s1t u1 ?_
      refine W ?_
      refine s1t u2 ?_
      refine W ?_
      cases hal : (a == l) with
      | true =>
        rw [hal] at e6 e7
        refine W ?_
        exact hk
      | false =>
        rw [hal] at e6 e7
        refine W ?_
        exact hk
end
end Go.Proofs.YtdkjcadffhnjgaaDoor
