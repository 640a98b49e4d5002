/- Runs of closed calls: the seat's table. -/
import Derived.Test.YtdkjcadffhnjgaaDoorEC
import Derived.Test.YtdkjcadffhnjgaaDoorF1
import Derived.Test.YtdkjcadffhnjgaaDoorF2
import Derived.Test.YtdkjcadffhnjgaaDoorGA
import Derived.Lib.Bytealg
import Derived.Test.YtdkjcadffhnjgaaDoorGB
namespace Go.Proofs.YtdkjcadffhnjgaaDoor
open Go Go.V
set_option maxRecDepth 10000
def vf13r : VFun := ⟨38, 6, vb13, [.tmp 2, .tmp 3], true⟩
theorem cf13r : cFun Tryd.prog rawF true Tryd.f13 = some vf13r := by kernel_rfl
def vf76r : VFun := ⟨8, 3, vb76, [.tmp 2], true⟩
open D in
def vb11s : VC :=
  .seq (.region [m 0 (.mov (.c (.bool false)))]) <|
  .seq (.region [m 7 (.build [(b 0), (b 0), (b 0), (b 0), (b 0), (b 0), (b 0), (b 0)] [(0, 1, (.c (b 0))), (1, 1, (.c (b 0))), (2, 1, (.c (b 0))), (3, 1, (.c (b 1))), (4, 1, (.c (b 0))), (5, 1, (.c (b 0))), (6, 1, (.c (b 0))), (7, 1, (.c (b 1)))]), m 8 (.call false 39 [(.c (b 10)), (.c (b 1)), (.c (b 0)), (.c (b 0))]), m 9 (.build [(i 0), (b 0), (b 0), (b 0), (b 0), (b 0), (b 0), (b 0), (b 0), (b 0), (b 0), (b 0), (b 0), (b 0), (b 0), (b 0), (b 0), (i 0)] [(0, 17, (t 8)), (17, 1, (.c (i 16)))]), m 10 (.build [(b 0), (b 0), (b 0), (b 0), (b 0), (b 0), (b 0), (b 0), (i 0), (b 0), (b 0), (b 0), (b 0), (b 0), (b 0), (b 0), (b 0), (b 0), (b 0), (b 0), (b 0), (b 0), (b 0), (b 0), (b 0), (i 0), (i 0)] [(0, 8, (t 7)), (8, 18, (t 9)), (26, 1, (.c (i 16)))]), m 1 (.alloc 0 [(b 0), (b 0), (b 0), (b 0), (b 0), (b 0), (b 0), (b 0), (i 0), (b 0), (b 0), (b 0), (b 0), (b 0), (b 0), (b 0), (b 0), (b 0), (b 0), (b 0), (b 0), (b 0), (b 0), (b 0), (b 0), (i 0), (i 0)]), e (.store 27 (t 1) (t 10))]) <|
  .seq (.region [m 12 (.load (some 27) (t 1)), m 13 (.call false 13 [(t 12)]), m 11 (.mov (t 13)), m 14 (.extract 0 (t 11)), m 15 (.extract 1 (t 11)), m 2 (.snap (t 14)), m 3 (.mov (t 15))]) <|
  .seq (.region [m 17 (.mov (t 2)), m 18 (.buildSlice 1 1 1 [(b 0)] [(0, (.c (b 7)))]), m 19 (.append 2 1 1 (t 17) (t 18)), m 20 (.call false 14 [(t 19), (.c (i 4))]), m 16 (.mov (t 20)), m 21 (.extract 0 (t 16)), m 22 (.extract 1 (t 16)), m 23 (.extract 2 (t 16)), m 4 (.alloc 3 [(b 0), (b 0), (b 0), (b 0), (b 0), (b 0), (b 0), (b 0), (i 0), (b 0), (b 0), (b 0), (b 0), (b 0), (b 0), (b 0), (b 0), (b 0), (b 0), (b 0), (b 0), (b 0), (b 0), (b 0), (b 0), (i 0), (i 0)]), e (.store 27 (t 4) (t 21)), m 5 (.mov (t 22)), m 6 (.mov (t 23))]) <|
  .seq (.region [m 24 (.mov (t 3)), m 25 (.bin .eql .num (t 24) (.c (i 0))), m 26 (.mov (t 25)), g 27 26 true (.mov (t 2)), g 28 26 true (.b2s (t 27)), g 29 26 true (.bin .eql .num (t 28) (.c (.str [104, 0, 1, 1, 0, 0, 0, 1, 0, 0, 0, 1, 10, 1]))), m 30 (.pick (t 26) (t 29) (.c (.bool false))), m 31 (.mov (t 30)), g 32 31 true (.mov (t 6)), g 33 31 true (.bin .eql .num (t 32) (.c (i 0))), m 34 (.pick (t 31) (t 33) (.c (.bool false))), m 35 (.mov (t 34)), g 36 35 true (.mov (t 5)), g 37 35 true (.bin .eql .num (t 36) (.c (i 14))), m 38 (.pick (t 35) (t 37) (.c (.bool false))), m 39 (.mov (t 38)), g 40 39 true (.load (some 27) (t 4)), g 41 39 true (.load (some 27) (t 1)), g 42 39 true (.eqAgg [(.i .u8), (.i .u8), (.i .u8), (.i .u8), (.i .u8), (.i .u8), (.i .u8), (.i .u8), (.i .i64), (.i .u8), (.i .u8), (.i .u8), (.i .u8), (.i .u8), (.i .u8), (.i .u8), (.i .u8), (.i .u8), (.i .u8), (.i .u8), (.i .u8), (.i .u8), (.i .u8), (.i .u8), (.i .u8), (.i .i64), (.i .i64)] false (t 40) (t 41)), m 43 (.pick (t 39) (t 42) (.c (.bool false))), m 44 (.mov (t 43)), g 45 44 true (.load (some 27) (t 1)), g 46 44 true (.call false 40 [(t 45)]), g 47 44 true (.bin .eql .num (t 46) (.c (.str [48, 58, 49, 58, 49, 32, 49, 48, 46, 49, 46, 48, 46, 48, 47, 49, 54, 32, 49, 54]))), m 48 (.pick (t 44) (t 47) (.c (.bool false))), m 0 (.mov (t 48))]) <|
  .ret
def vf11s : VFun := ⟨49, 4, vb11s, [.tmp 0], false⟩
def rawS (f : FuncId) : Bool := Nat.beq f 1000002
open D in
theorem cf11s : cFun Tryd.prog rawS false Tryd.f11 = some vf11s := by kernel_rfl
/-- The functions, for runs by the kernel. -/
def vtab : List (Nat × VFun) := [(13, vf13r), (14, vf14), (15, vf15), (16, vf16), (19, vf19), (20, vf20), (21, vf21), (22, vf22), (23, vf23), (24, vf24), (25, vf25), (26, vf26), (27, vf27), (40, vf40), (41, vf41), (42, vf42), (43, vf43), (44, vf44), (45, vf45), (46, vf46), (47, vf47), (48, vf48), (49, vf49), (50, vf50), (51, vf51), (52, vf52), (53, vf53), (54, vf54), (55, vf55), (56, vf56), (57, vf57), (58, vf58), (59, vf59), (61, vf61), (63, vf63), (68, vf68), (70, vf70), (72, vf72), (76, vf76r), (77, vf77), (78, vf78), (79, vf79), (80, vf80), (81, vf81), (82, vf82), (83, vf83), (84, vf84), (85, vf85), (86, vf86), (88, vf88), (89, vf89), (90, vf90), (96, vf96), (97, vf97), (100, vf100), (101, vf101), (102, vf102), (103, vf103), (106, vf106), (107, vf107), (108, vf108), (121, vf121), (3, vf3), (5, vf5), (6, vf6), (7, vf7), (11, vf11s), (12, vf12), (17, vf17), (18, vf18), (39, vf39), (4, vf4), (99, vf99), (117, vf117), (118, vf118), (129, vf129), (130, vf130), (134, vf134)]
theorem vtab_ok : TabOk Tryd.prog vtab := (TabOk.cons ⟨_, rawF, Tryd.func13, cf13r⟩ (TabOk.cons ⟨_, rawF, Tryd.func14, cf14⟩ (TabOk.cons ⟨_, rawF, Tryd.func15, cf15⟩ (TabOk.cons ⟨_, rawF, Tryd.func16, cf16⟩ (TabOk.cons ⟨_, rawF, Tryd.func19, cf19⟩ (TabOk.cons ⟨_, rawF, Tryd.func20, cf20⟩ (TabOk.cons ⟨_, rawF, Tryd.func21, cf21⟩ (TabOk.cons ⟨_, rawF, Tryd.func22, cf22⟩ (TabOk.cons ⟨_, rawF, Tryd.func23, cf23⟩ (TabOk.cons ⟨_, rawF, Tryd.func24, cf24⟩ (TabOk.cons ⟨_, rawF, Tryd.func25, cf25⟩ (TabOk.cons ⟨_, rawF, Tryd.func26, cf26⟩ (TabOk.cons ⟨_, rawF, Tryd.func27, cf27⟩ (TabOk.cons ⟨_, rawF, Tryd.func40, cf40⟩ (TabOk.cons ⟨_, rawF, Tryd.func41, cf41⟩ (TabOk.cons ⟨_, rawF, Tryd.func42, cf42⟩ (TabOk.cons ⟨_, rawF, Tryd.func43, cf43⟩ (TabOk.cons ⟨_, rawF, Tryd.func44, cf44⟩ (TabOk.cons ⟨_, rawF, Tryd.func45, cf45⟩ (TabOk.cons ⟨_, rawF, Tryd.func46, cf46⟩ (TabOk.cons ⟨_, rawF, Tryd.func47, cf47⟩ (TabOk.cons ⟨_, rawF, Tryd.func48, cf48⟩ (TabOk.cons ⟨_, rawF, Tryd.func49, cf49⟩ (TabOk.cons ⟨_, rawF, Tryd.func50, cf50⟩ (TabOk.cons ⟨_, rawF, Tryd.func51, cf51⟩ (TabOk.cons ⟨_, rawF, Tryd.func52, cf52⟩ (TabOk.cons ⟨_, rawF, Tryd.func53, cf53⟩ (TabOk.cons ⟨_, rawF, Tryd.func54, cf54⟩ (TabOk.cons ⟨_, rawF, Tryd.func55, cf55⟩ (TabOk.cons ⟨_, rawF, Tryd.func56, cf56⟩ (TabOk.cons ⟨_, rawF, Tryd.func57, cf57⟩ (TabOk.cons ⟨_, rawF, Tryd.func58, cf58⟩ (TabOk.cons ⟨_, rawF, Tryd.func59, cf59⟩ (TabOk.cons ⟨_, rawF, Tryd.func61, cf61⟩ (TabOk.cons ⟨_, rawF, Tryd.func63, cf63⟩ (TabOk.cons ⟨_, rawF, Tryd.func68, cf68⟩ (TabOk.cons ⟨_, rawF, Tryd.func70, cf70⟩ (TabOk.cons ⟨_, rawF, Tryd.func72, cf72⟩ (TabOk.cons ⟨_, rawF, Tryd.func76, cf76r⟩ (TabOk.cons ⟨_, rawF, Tryd.func77, cf77⟩ (TabOk.cons ⟨_, rawF, Tryd.func78, cf78⟩ (TabOk.cons ⟨_, rawF, Tryd.func79, cf79⟩ (TabOk.cons ⟨_, rawF, Tryd.func80, cf80⟩ (TabOk.cons ⟨_, rawF, Tryd.func81, cf81⟩ (TabOk.cons ⟨_, rawF, Tryd.func82, cf82⟩ (TabOk.cons ⟨_, rawF, Tryd.func83, cf83⟩ (TabOk.cons ⟨_, rawF, Tryd.func84, cf84⟩ (TabOk.cons ⟨_, rawF, Tryd.func85, cf85⟩ (TabOk.cons ⟨_, rawF, Tryd.func86, cf86⟩ (TabOk.cons ⟨_, rawF, Tryd.func88, cf88⟩ (TabOk.cons ⟨_, rawF, Tryd.func89, cf89⟩ (TabOk.cons ⟨_, rawF, Tryd.func90, cf90⟩ (TabOk.cons ⟨_, rawF, Tryd.func96, cf96⟩ (TabOk.cons ⟨_, rawF, Tryd.func97, cf97⟩ (TabOk.cons ⟨_, rawF, Tryd.func100, cf100⟩ (TabOk.cons ⟨_, rawF, Tryd.func101, cf101⟩ (TabOk.cons ⟨_, rawF, Tryd.func102, cf102⟩ (TabOk.cons ⟨_, rawF, Tryd.func103, cf103⟩ (TabOk.cons ⟨_, rawF, Tryd.func106, cf106⟩ (TabOk.cons ⟨_, rawF, Tryd.func107, cf107⟩ (TabOk.cons ⟨_, rawF, Tryd.func108, cf108⟩ (TabOk.cons ⟨_, rawF, Tryd.func121, cf121⟩ (TabOk.cons ⟨_, rawF, Tryd.func3, cf3⟩ (TabOk.cons ⟨_, rawF, Tryd.func5, cf5⟩ (TabOk.cons ⟨_, rawF, Tryd.func6, cf6⟩ (TabOk.cons ⟨_, rawF, Tryd.func7, cf7⟩ (TabOk.cons ⟨_, rawS, Tryd.func11, cf11s⟩ (TabOk.cons ⟨_, rawF, Tryd.func12, cf12⟩ (TabOk.cons ⟨_, rawF, Tryd.func17, cf17⟩ (TabOk.cons ⟨_, rawF, Tryd.func18, cf18⟩ (TabOk.cons ⟨_, rawF, Tryd.func39, cf39⟩ (TabOk.cons ⟨_, rawF, Tryd.func4, cf4⟩ (TabOk.cons ⟨_, rawF, Tryd.func99, cf99⟩ (TabOk.cons ⟨_, rawF, Tryd.func117, cf117⟩ (TabOk.cons ⟨_, rawF, Tryd.func118, cf118⟩ (TabOk.cons ⟨_, rawF, Tryd.func129, cf129⟩ (TabOk.cons ⟨_, rawF, Tryd.func130, cf130⟩ (TabOk.cons ⟨_, rawF, Tryd.func134, cf134⟩ TabOk.nil))))))))))))))))))))))))))))))))))))))))))))))))))))))))))))))))))))))))))))))
def ddx : Nat → Nat → List UInt8
  | 0, n => [UInt8.ofNat (48 + n)]
  | k + 1, n => if n < 10 then [UInt8.ofNat (48 + n)] else ddx k (n / 10) ++ [UInt8.ofNat (48 + n % 10)]
theorem ddx_ok : ∀ (k n : Nat), n < 10 ^ (k + 1) → ddx k n = Lib.decDigits n
  | 0, n, h => by rw [Lib.decDigits, dif_pos (by simpa using h)]; rfl
  | k + 1, n, h => by
    rw [Lib.decDigits, ddx]
    split
    · rfl
    · rw [ddx_ok k (n / 10) (by rw [Nat.pow_succ] at h; omega)]
def itoaX (n : Int) : List UInt8 := if n < 0 then 45 :: ddx 20 n.natAbs else ddx 20 n.toNat
theorem itoaX_ok {n : Int} (h0 : -9223372036854775808 ≤ n) (h1 : n ≤ 9223372036854775807) : itoaX n = Lib.itoa n := by
  have e : (10 : Nat) ^ (20 + 1) = 1000000000000000000000 := by decide
  unfold itoaX Lib.itoa
  rw [ddx_ok _ _ (by omega), ddx_ok _ _ (by omega)]
def strOf : List PV → Option (List UInt8)
  | [.str s] => some s
  | _ => none
def bytesX (es : List (List PV)) : Option (List UInt8) := match es.mapM V.byteOf with
  | some l => if eqLL (eqPV 1) (bsl l) es = true then some l else none
  | none => none
theorem bytesX_ok {es : List (List PV)} {l : List UInt8} (h : bytesX es = some l) : es = bsl l := by
  unfold bytesX at h
  split at h
  · split at h
    · rename_i hh; cases h; exact (eqLL_ok (eqPV_ok 1) _ _ hh).symm
    · cases h
  · cases h
def specItoa : List PV → Option PV
  | [.int .i64 n] => if -9223372036854775808 ≤ n ∧ n ≤ 9223372036854775807 then some (.str (itoaX n)) else none
  | _ => none
def specJoin : List PV → Option PV
  | [.sl rows, .str sep] => match rows.mapM strOf with
    | some ss => if eqLL (eqPV 1) (strRow ss) rows = true ∧ ss.length ≤ 140737488355328 ∧ (Lib.join ss sep).length ≤ 140737488355328 then some (.str (Lib.join ss sep)) else none
    | none => none
  | _ => none
def specClone : List PV → Option PV
  | [.sl es] => match bytesX es with
    | some l => if l.length ≤ 140737488355328 then some (.sl (bsl l)) else none
    | none => none
  | _ => none
def specPut : List PV → Option PV
  | [.sl es, .int .i64 (.ofNat n), .int .i64 (.ofNat z)] => match bytesX es with
    | some l => if 1 ≤ z ∧ z ≤ 4 ∧ n < 256 ^ z ∧ l.length ≤ 1000000 then some (.tup [.sl (bsl (l ++ be n z)), .int .i64 0]) else none
    | none => none
  | _ => none
def specX : XE := fun f args => cond (Nat.beq f 69) (specItoa args) (cond (Nat.beq f 73) (specJoin args) (cond (Nat.beq f 76) (specClone args) (cond (Nat.beq f 61) (specPut args) none)))
theorem specX_ok : SpecOk Tryd.prog specX := by
  intro f args v h
  unfold specX at h
  cases e1 : Nat.beq f 69 with
  | true =>
    rw [e1] at h; have e1 := Nat.eq_of_beq_eq_true e1; subst e1
    dsimp only [cond] at h
    unfold specItoa at h
    split at h
    · split at h
      · rename_i hh; cases h; rw [itoaX_ok hh.1 hh.2]; exact uItoa hh.1 hh.2
      · cases h
    · cases h
  | false =>
  rw [e1] at h
  cases e1 : Nat.beq f 73 with
  | true =>
    rw [e1] at h; have e1 := Nat.eq_of_beq_eq_true e1; subst e1
    dsimp only [cond] at h
    unfold specJoin at h
    split at h
    · split at h
      · split at h
        · rename_i hh; cases h; rw [← eqLL_ok (eqPV_ok 1) _ _ hh.1]; exact uJoin hh.2.1 hh.2.2
        · cases h
      · cases h
    · cases h
  | false =>
  rw [e1] at h
  cases e1 : Nat.beq f 76 with
  | true =>
    rw [e1] at h; have e1 := Nat.eq_of_beq_eq_true e1; subst e1
    dsimp only [cond] at h
    unfold specClone at h
    split at h
    · split at h
      · rename_i hb; split at h
        · rename_i hl; cases h; rw [bytesX_ok hb]; exact uClone hl
        · cases h
      · cases h
    · cases h
  | false =>
  rw [e1] at h
  cases e1 : Nat.beq f 61 with
  | true =>
    rw [e1] at h; have e1 := Nat.eq_of_beq_eq_true e1; subst e1
    dsimp only [cond] at h
    unfold specPut at h
    split at h
    · split at h
      · rename_i hb; split at h
        · rename_i hl; cases h; rw [bytesX_ok hb]; exact uPut hl.1 hl.2.1 hl.2.2.1 hl.2.2.2
        · cases h
      · cases h
    · cases h
  | false =>
  rw [e1] at h; cases h
def extX : XE := fun _ _ => none
theorem extX_ok : ExtOk Tryd.prog extX := fun _ _ _ h => by cases h
theorem u8s_cl (l : List Int) : ClL (u8s l) := clL_iff fun c hc => by obtain ⟨x, _, rfl⟩ := List.mem_map.1 hc; infer_instance
theorem glob_cl : ∀ g cells, Glob.tab g = some cells → ClL cells := by
  intro g cells h
  have e : g = 1 ∧ cells = gt1 ∨ g = 4 ∧ cells = gt4 ∨ g = 5 ∧ cells = gt5 := by
    simp only [Glob.tab] at h
    split at h
    · cases h; exact .inl ⟨rfl, rfl⟩
    · cases h; exact .inr (.inl ⟨rfl, rfl⟩)
    · cases h; exact .inr (.inr ⟨rfl, rfl⟩)
    · cases h
  rcases e with ⟨_, rfl⟩ | ⟨_, rfl⟩ | ⟨_, rfl⟩
  · unfold gt1; infer_instance
  · exact u8s_cl _
  · exact u8s_cl _
theorem uSmall : U Tryd.prog 11 [] (.bool true) := U_kernel (tab := vtab) (ext := extX) (spec := specX) 100 20 (.bool true) vtab_ok extX_ok specX_ok glob_cl rfl (by kernel_rfl)
end Go.Proofs.YtdkjcadffhnjgaaDoor
/- Plain laws of orders: no program in sight. -/
namespace Go.V
open Go.Lib
/-- An order as -1, 0, 1: what two answers say of the third. -/
def Ord3 (x y z : Int) : Prop := (x ≤ 0 → y ≤ 0 → z ≤ 0) ∧ (x ≤ 0 → y < 0 → z < 0) ∧ (x < 0 → y ≤ 0 → z < 0) ∧ (x = 0 → y = 0 → z = 0)
theorem cb_range (a b : List UInt8) : -1 ≤ compareBytes a b ∧ compareBytes a b ≤ 1 := by
  induction a generalizing b with
  | nil => cases b <;> simp [compareBytes]
  | cons x r ih =>
    cases b with
    | nil => simp [compareBytes]
    | cons y q =>
      have := ih q
      simp only [compareBytes]
      split
      · omega
      · split
        · omega
        · exact this
theorem cb_neg (a b : List UInt8) : compareBytes b a = - compareBytes a b := by
  induction a generalizing b with
  | nil => cases b <;> simp [compareBytes]
  | cons x r ih =>
    cases b with
    | nil => simp [compareBytes]
    | cons y q =>
      have := ih q
      simp only [compareBytes, UInt8.lt_iff_toNat_lt]
      split <;> split <;> first | omega | exact this
theorem cb_zero (a b : List UInt8) : compareBytes a b = 0 ↔ a = b := by
  induction a generalizing b with
  | nil => cases b <;> simp [compareBytes]
  | cons x r ih =>
    cases b with
    | nil => simp [compareBytes]
    | cons y q =>
      have := ih q
      simp only [compareBytes, UInt8.lt_iff_toNat_lt, List.cons.injEq]
      rw [← this, ← UInt8.toNat_inj]
      split
      · constructor <;> intro h <;> omega
      · split
        · constructor <;> intro h <;> omega
        · constructor
          · intro h; exact ⟨by omega, h⟩
          · intro h; exact h.2
theorem cb_trans (a b c : List UInt8) : Ord3 (compareBytes a b) (compareBytes b c) (compareBytes a c) := by
  induction a generalizing b c with
  | nil => cases b <;> cases c <;> simp [compareBytes, Ord3]
  | cons x r ih =>
    cases b with
    | nil => cases c <;> simp [compareBytes, Ord3]
    | cons y q =>
      cases c with
      | nil => simp [compareBytes, Ord3]
      | cons z p =>
        have := ih q p
        simp only [compareBytes, UInt8.lt_iff_toNat_lt]
        unfold Ord3 at *
        (repeat split) <;> omega
/-- An order that is antisymmetric. -/
structure Ordr {α : Type} (f : α → α → Int) : Prop where
  lo : ∀ a b, -1 ≤ f a b
  hi : ∀ a b, f a b ≤ 1
  neg : ∀ a b, f b a = - f a b
  tr : ∀ a b c, Ord3 (f a b) (f b c) (f a c)
theorem cb_ordr : Ordr compareBytes := ⟨fun a b => (cb_range a b).1, fun a b => (cb_range a b).2, cb_neg, cb_trans⟩
theorem lex3 {x y z u v w : Int} (h1 : Ord3 x y z) (h3 : Ord3 (-x) z y) (h4 : Ord3 z (-y) x) (h2 : Ord3 u v w) : Ord3 (if x = 0 then u else x) (if y = 0 then v else y) (if z = 0 then w else z) := by
  obtain ⟨a1, a2, a3, a4⟩ := h1
  by_cases hx : x = 0
  · by_cases hy : y = 0
    · have hz := a4 hx hy
      rw [if_pos hx, if_pos hy, if_pos hz]; exact h2
    · rw [if_pos hx, if_neg hy]
      have hz : z ≠ 0 := fun hz => hy (h3.2.2.2 (by omega) hz)
      rw [if_neg hz]
      have b1 := h3.1
      refine ⟨fun _ h => a1 (by omega) h, fun _ h => a2 (by omega) h, fun _ h => ?_, fun _ h => absurd h hy⟩
      have := a2 (by omega) (by omega); exact this
  · by_cases hy : y = 0
    · rw [if_neg hx, if_pos hy]
      have hz : z ≠ 0 := fun hz => hx (h4.2.2.2 hz (by omega))
      rw [if_neg hz]
      refine ⟨fun h _ => a1 h (by omega), fun h _ => a3 (by omega) (by omega), fun h _ => a3 h (by omega), fun h => absurd h hx⟩
    · rw [if_neg hx, if_neg hy]
      have hz : x ≤ 0 → y ≤ 0 → z < 0 := fun h k => a2 h (by omega)
      have hz2 : x ≤ 0 → y ≤ 0 → (if z = 0 then w else z) < 0 := fun h k => by
        have := hz h k; rw [if_neg (by omega)]; exact this
      exact ⟨fun h k => Int.le_of_lt (hz2 h k), fun h k => hz2 h (by omega), fun h k => hz2 (by omega) k, fun h => absurd h hx⟩
/-- One order behind another. -/
theorem Ordr.lex {α β γ : Type} {f : α → α → Int} {g : β → β → Int} (p : γ → α) (q : γ → β) (hf : Ordr f) (hg : Ordr g) : Ordr fun x y => if f (p x) (p y) = 0 then g (q x) (q y) else f (p x) (p y) := by
  constructor
  · intro a b; split
    · exact hg.lo _ _
    · exact hf.lo _ _
  · intro a b; split
    · exact hg.hi _ _
    · exact hf.hi _ _
  · intro a b
    have h1 := hf.neg (p a) (p b)
    have h2 := hg.neg (q a) (q b)
    split <;> split <;> first | exact h1 | exact h2 | omega
  · intro a b c
    have h3 := hf.tr (p b) (p a) (p c)
    have h4 := hf.tr (p a) (p c) (p b)
    rw [hf.neg (p a) (p b)] at h3
    rw [hf.neg (p b) (p c)] at h4
    exact lex3 (hf.tr (p a) (p b) (p c)) h3 h4 (hg.tr (q a) (q b) (q c))
end Go.V
/- The law UrouteSorts as a triple. -/
namespace Go.Proofs.YtdkjcadffhnjgaaDoor
open Go Go.V
set_option maxRecDepth 10000
theorem cmpI_ordr : Ordr cmpI := by
  constructor
  · intro a b; unfold cmpI; split <;> (try split) <;> omega
  · intro a b; unfold cmpI; split <;> (try split) <;> omega
  · intro a b; unfold cmpI; split <;> split <;> (try split) <;> (try split) <;> omega
  · intro a b c; unfold cmpI Ord3
    refine ⟨?_, ?_, ?_, ?_⟩ <;> (split <;> (try split) <;> (try split) <;> (try split) <;> (try split) <;> (try split) <;> omega)
theorem rdCmp_eq : rdCmp = Lib.compareBytes := by
  funext a b
  unfold rdCmp
  split
  · rename_i h; exact ((cb_zero a b).2 h).symm
  · rfl
structure Nm where
  rd : List UInt8
  s : Int
  b : List UInt8
  k : Int
def nmCmp (x y : Nm) : Int := ucmp x.rd x.s x.b x.k y.rd y.s y.b y.k
theorem or2 (x y : Int) : orI [x, y] = if x = 0 then y else x := by
  simp only [orI]; by_cases h : y = 0 <;> simp [h]
theorem or3 (x y z : Int) : orI [x, y, z] = if x = 0 then (if y = 0 then z else y) else x := by
  simp only [orI]; by_cases h : z = 0 <;> simp [h]
theorem adr_ordr : Ordr fun (x y : Nm) => adrCmp x.s x.b y.s y.b := by
  have := Ordr.lex (γ := Nm) (fun x => x.s) (fun x => x.b) cmpI_ordr cb_ordr
  unfold adrCmp
  simp only [or2]; exact this
theorem nm_ordr : Ordr nmCmp := by
  have h1 := Ordr.lex (γ := Nm) (fun x => x) (fun x => x.k) adr_ordr cmpI_ordr
  have h2 := Ordr.lex (γ := Nm) (fun x => x.rd) (fun x => x) cb_ordr h1
  unfold nmCmp ucmp
  simp only [or3, rdCmp_eq]; exact h2
theorem nm_zero (x y : Nm) : nmCmp x y = 0 ↔ sameU x.rd x.s x.b x.k y.rd y.s y.b y.k = true := by
  unfold nmCmp ucmp adrCmp sameU
  rw [or3, or2, rdCmp_eq]
  simp only [Bool.and_eq_true, beq_iff_eq]
  have h1 := cb_zero x.rd y.rd
  have h2 := cb_zero x.b y.b
  have h3 : ∀ a b, cmpI a b = 0 ↔ a = b := fun a b => by unfold cmpI; split <;> (try split) <;> omega
  have h4 := h3 x.s y.s
  have h5 := h3 x.k y.k
  by_cases a1 : x.rd = y.rd
  · by_cases a2 : x.s = y.s
    · by_cases a3 : x.b = y.b
      · rw [if_pos (h1.2 a1), if_pos (by rw [if_pos (h4.2 a2)]; exact h2.2 a3), h5]; simp [a1, a2, a3]
      · have e : ¬ Lib.compareBytes x.b y.b = 0 := fun e => a3 (h2.1 e)
        rw [if_pos (h1.2 a1), if_pos (h4.2 a2), if_neg e]; simp [e, a3]
    · have e : ¬ cmpI x.s y.s = 0 := fun e => a2 (h4.1 e)
      rw [if_pos (h1.2 a1), if_neg e, if_neg e]; simp [e, a2]
  · have e : ¬ Lib.compareBytes x.rd y.rd = 0 := fun e => a1 (h1.1 e)
    rw [if_neg e]; simp [e, a1]
section
variable {x y z : Nm} {a b c : Int}
def nmU (x : Nm) (a : Int) : List PV := urc x.rd x.s x.b x.k a
def okN (x : Nm) : Prop := x.rd.length = 8 ∧ x.b.length = 16
instance (x : Nm) (a : Int) : PlL (nmU x a) := by unfold nmU; infer_instance
instance (x : Nm) (a : Int) : ClL (nmU x a) := by unfold nmU; infer_instance
theorem nmU_sc : (nmU x a).all scalar = true := urc_sc _ _ _ _ _
theorem nmU_all (h : okN x) : cut (nmU x a) 0 (some 27) = some (.agg (nmU x a)) := urc_all h.1 h.2
theorem nmU_len (h : okN x) : (nmU x a).length = 27 := urc_len h.1 h.2
theorem uNmCmp (hx : okN x) (hy : okN y) : U Tryd.prog 26 [.agg (nmU x a), .agg (nmU y b)] (.int .i64 (nmCmp x y)) := uCmpU hx.1 hy.1 hx.2 hy.2
theorem uNmSame (hx : okN x) (hy : okN y) : U Tryd.prog 27 [.agg (nmU x a), .agg (nmU y b)] (.bool (decide (nmCmp x y = 0))) := by
  have h := uSame (s := x.s) (s' := y.s) (k := x.k) (k' := y.k) (a := a) (a' := b) hx.1 hy.1 hx.2 hy.2
  have e : sameU x.rd x.s x.b x.k y.rd y.s y.b y.k = decide (nmCmp x y = 0) := by
    rw [Bool.eq_iff_iff, decide_eq_true_iff]; exact (nm_zero x y).symm
  rw [e] at h; exact h
set_option maxHeartbeats 2000000 in
theorem tSorts (hx : okN x) (hy : okN y) (hz : okN z) : U Tryd.prog 6 [.agg (nmU x a), .agg (nmU y b), .agg (nmU z c)] (.bool true) := by
  intro σ Post hk
  have hs1 := nmU_sc (x := x) (a := a)
  have hs2 := nmU_sc (x := y) (a := b)
  have hs3 := nmU_sc (x := z) (a := c)
  have c1 := nmU_all (a := a) hx
  have c2 := nmU_all (a := b) hy
  have c3 := nmU_all (a := c) hz
  have n1 := nm_ordr.lo x y
  have n2 := nm_ordr.hi x y
  have n3 := nm_ordr.neg x y
  have n4 := nm_ordr.tr x y z
  have n5 := nm_ordr.lo y z
  have n6 := nm_ordr.hi y z
  have n7 := nm_ordr.lo x z
  have n8 := nm_ordr.hi x z
  obtain ⟨o1, o2, o3, o4⟩ := n4
  have u1 := uNmCmp (a := a) (b := b) hx hy
  have u2 := uNmCmp (a := b) (b := c) hy hz
  have u3 := uNmCmp (a := a) (b := c) hx hz
  have u4 := uNmCmp (a := b) (b := a) hy hx
  have u5 := uNmSame (a := a) (b := b) hx hy
  rw [n3] at u4
  generalize nmCmp x y = p at *
  generalize nmCmp y z = q at *
  generalize nmCmp x z = r at *
  have w1 : IntKind.i64.wrap (0 - p) = -p := by rw [w_i64 (by omega) (by omega)]; omega
  refine T6 fun hB hA => ?_
  refine W ?_
  refine cu uSmall ?_
  refine W ?_
  refine cu u1 ?_
  refine W ?_
  refine cu u2 ?_
  refine W ?_
  refine cu u3 ?_
  by_cases hp : p = 0
  · subst hp
    refine W ?_
    refine cu u4 ?_
    refine W ?_
    refine cu u5 ?_
    have d : decide ((0 : Int) = 0) = true := rfl
    rw [d]
    by_cases hq : q = 0
    · have hr := o4 rfl hq
      subst hq hr
      refine W ?_
      exact hk
    · by_cases hq2 : q < 0
      · have hr := o2 (by omega) hq2
        refine W ?_
        exact hk
      · refine W ?_
        exact hk
  · have d : decide (p = 0) = false := by simp [hp]
    rw [d] at u5
    refine W ?_
    refine cu u4 ?_
    refine W ?_
    refine cu u5 ?_
    by_cases hp2 : p < 0
    · by_cases hq : q ≤ 0
      · have hr := o3 hp2 hq
        refine W ?_
        exact hk
      · refine W ?_
        exact hk
    · refine W ?_
      exact hk
end
end Go.Proofs.YtdkjcadffhnjgaaDoor
/- The law UrouteLabels as a triple. -/
namespace Go.Proofs.YtdkjcadffhnjgaaDoor
open Go Go.V
set_option maxRecDepth 10000
/-- Guarded calls where the order is open. -/
theorem s1t {P : Program} {n : Nat} {J : VHeap → Prop} {K : Env → VHeap → Prop} {r : List (Nat × VO)} {d : Option Nat} {env : Env} {h : VHeap} {v : PV} {f : FuncId} {args : List VA} {vs : List PV} {s : Nat} {b : Bool} (u : U P f vs v) (k : vseq P n J K r (eput env d v) h)
    (hg : env s = .bool b := by exact z_vv) (hm : args.map (va env) = vs := by exact z_ma) (hp : PlL vs := by infer_instance) : vseq P n J K ((1, ⟨d, .call false f args, some (s, b)⟩) :: r) env h := sv1t hg (y_call u hm) k
theorem s2t {P : Program} {n : Nat} {J : VHeap → Prop} {K : Env → VHeap → Prop} {r : List (Nat × VO)} {d : Option Nat} {env : Env} {h : VHeap} {v : PV} {f : FuncId} {args : List VA} {vs : List PV} {s : Nat} {b : Bool} (u : U P f vs v) (k : vseq P n J K r (eput env d v) h)
    (hg : env s = .bool b := by exact z_vv) (hm : args.map (va env) = vs := by exact z_ma) (hp : PlL vs := by infer_instance) : vseq P n J K ((2, ⟨d, .call false f args, some (s, b)⟩) :: r) env h := sv2t hg (fun _ _ => y_call u hm) k
theorem big_be (n : Nat) : ∀ (k a : Nat), big (be n k) a = a * 256 ^ k + n % 256 ^ k
  | 0, a => by simp [big, be, Nat.mod_one]
  | k + 1, a => by
    rw [be, big, big_be n k]
    have h1 : (UInt8.ofNat (n / 256 ^ k)).toNat = n / 256 ^ k % 256 := by simp
    rw [h1, Nat.pow_succ, Nat.mod_mul, Nat.add_mul, Nat.mul_assoc, Nat.mul_comm (n / 256 ^ k % 256), Nat.add_assoc, Nat.add_comm (256 ^ k * _), Nat.mul_comm 256]
theorem be_inj {n m k : Nat} (h1 : n < 256 ^ k) (h2 : m < 256 ^ k) (h : be n k = be m k) : n = m := by
  have e1 := big_be n k 0
  have e2 := big_be m k 0
  rw [h, e2, Nat.mod_eq_of_lt h1, Nat.mod_eq_of_lt h2] at e1
  omega
def uz : List PV := [.int .u8 0, .int .u8 0, .int .u8 0, .int .u8 0, .int .u8 0, .int .u8 0, .int .u8 0, .int .u8 0, .int .i64 0, .int .u8 0, .int .u8 0, .int .u8 0, .int .u8 0, .int .u8 0, .int .u8 0, .int .u8 0, .int .u8 0, .int .u8 0, .int .u8 0, .int .u8 0, .int .u8 0, .int .u8 0, .int .u8 0, .int .u8 0, .int .u8 0, .int .i64 0, .int .i64 0]
def ubN (x : Nm) (a : Int) : List UInt8 := ubytes x.rd x.b x.k a
def okR (x : Nm) (a : Int) : Bool := okU x.s x.b x.k a
section
variable {x y : Nm} {a b l : Int}
theorem spl_all (h : okN x) : splice uz 0 (nmU x a) = nmU x a := by
  unfold splice
  rw [List.drop_of_length_le (by rw [nmU_len h]; exact Nat.le_refl _)]
  simp
theorem spl_all' {cs : List PV} (hc : cs.length = 27) (h : okN x) : splice cs 0 (nmU x a) = nmU x a := by
  unfold splice
  rw [List.drop_of_length_le (by rw [nmU_len h, hc]; exact Nat.le_refl _)]
  simp
theorem spl_label (h : okN x) : splice (nmU x a) 26 [.int .i64 l] = nmU x l := by
  have h1 : (u8c x.rd ++ pfx x.s x.b x.k).length = 26 := by rw [List.length_append, u8c_len, pfx_len, h.1, h.2]
  unfold splice nmU urc
  rw [← List.append_assoc, ← List.append_assoc, List.take_left' h1, List.drop_of_length_le (by simp only [List.length_append] at h1 ⊢; simp only [List.length_cons, List.length_nil]; omega), List.append_nil]
abbrev ukk : List CK := [.i .u8, .i .u8, .i .u8, .i .u8, .i .u8, .i .u8, .i .u8, .i .u8, .i .i64, .i .u8, .i .u8, .i .u8, .i .u8, .i .u8, .i .u8, .i .u8, .i .u8, .i .u8, .i .u8, .i .u8, .i .u8, .i .u8, .i .u8, .i .u8, .i .u8, .i .i64, .i .i64]
theorem eqC_U (h : okN x) (h' : okN y) : eqCells ukk (nmU x a) (nmU y b) = some (sameU x.rd x.s x.b x.k y.rd y.s y.b y.k && (a == b)) := by
  have h1 := eqC_app (eqC_nm (s := x.s) (s' := y.s) (k := x.k) (k' := y.k) h.1 h'.1 h.2 h'.2) (eqC_i a b)
  have e : ∀ (z : Nm) (c : Int), nmc z.rd z.s z.b z.k ++ [.int .i64 c] = nmU z c := fun z c => by unfold nmc nmU urc; rw [List.append_assoc]
  rw [e, e] at h1
  exact h1
theorem same_self (x : Nm) : sameU x.rd x.s x.b x.k x.rd x.s x.b x.k = true := by simp [sameU]
theorem cmp_self (x : Nm) : nmCmp x x = 0 := (nm_zero x x).2 (same_self x)
theorem okR_lab (h : okR x a = true) : 0 ≤ a ∧ a ≤ 1048575 := by
  unfold okR okU at h; simp only [Bool.and_eq_true, decide_eq_true_eq] at h; exact ⟨h.1.2, h.2⟩
theorem ubN_cons (x : Nm) (a : Int) : ubN x a = UInt8.ofNat (88 + x.k).toNat :: (be (a.toNat * 16 + 1) 3 ++ (x.rd ++ x.b.take ((x.k + 7) / 8).toNat)) := by unfold ubN ubytes; rw [List.append_assoc]
theorem ubN_drop (x : Nm) (a : Int) : (ubN x a).drop 4 = x.rd ++ x.b.take ((x.k + 7) / 8).toNat := by
  rw [ubN_cons, List.drop_succ_cons, List.drop_left' (be_len _ 3)]
theorem ubN_len (h : okN x) : (ubN x a).length = 12 + min ((x.k + 7) / 8).toNat 16 := by
  rw [ubN_cons]; simp [be_len, h.1, h.2]; omega
theorem ubN_inj (ha : okR x a = true) (hb : okR x b = true) (h : ubN x a = ubN x b) : a = b := by
  have h1 := okR_lab ha
  have h2 := okR_lab hb
  rw [ubN_cons, ubN_cons, List.cons.injEq] at h
  have h3 := (List.append_inj h.2 (by rw [be_len, be_len])).1
  have := be_inj (k := 3) (by omega) (by omega) h3
  omega
theorem uNmBytes (h : okN x) (ho : okR x a = true) : U Tryd.prog 13 [.agg (nmU x a)] (.tup [.sl (bsl (ubN x a)), .int .i64 0]) := (uBytesU h.1 h.2).1 ho
theorem uNmBytes0 (h : okN x) (ho : okR x a = false) : U Tryd.prog 13 [.agg (nmU x a)] (.tup [.sl [], .int .i64 1]) := (uBytesU h.1 h.2).2 ho
set_option maxHeartbeats 4000000 in
theorem tLabels (hx : okN x) : U Tryd.prog 7 [.agg (nmU x a), .int .i64 l] (.bool true) := by
  intro σ Post hk
  have hs1 := nmU_sc (x := x) (a := a)
  have hs2 := nmU_sc (x := x) (a := l)
  have c1 := nmU_all (a := a) hx
  have c2 := nmU_all (a := l) hx
  have l1 := nmU_len (a := a) hx
  have l2 := nmU_len (a := l) hx
  have d1 : splice [.int .u8 0, .int .u8 0, .int .u8 0, .int .u8 0, .int .u8 0, .int .u8 0, .int .u8 0, .int .u8 0, .int .i64 0, .int .u8 0, .int .u8 0, .int .u8 0, .int .u8 0, .int .u8 0, .int .u8 0, .int .u8 0, .int .u8 0, .int .u8 0, .int .u8 0, .int .u8 0, .int .u8 0, .int .u8 0, .int .u8 0, .int .u8 0, .int .u8 0, .int .i64 0, .int .i64 0] 0 (nmU x a) = nmU x a := spl_all hx
  have d2 := spl_label (a := a) (l := l) hx
  have u1 := uNmSame (a := a) (b := l) hx hx
  have u2 := uNmCmp (a := a) (b := l) hx hx
  rw [cmp_self] at u1 u2
  have d : decide ((0 : Int) = 0) = true := rfl
  rw [d] at u1
  refine T7 fun hB hA => ?_
  refine W ?_
  refine cu uSmall ?_
  refine W ?_
  cases oa : okR x a with
  | false =>
    refine cu (uNmBytes0 hx oa) ?_
    refine W ?_
    cases ol : okR x l with
    | false =>
      refine cu (uNmBytes0 hx ol) ?_
      refine W ?_
      refine cu u1 ?_
      refine W ?_
      refine cu u2 ?_
      refine W ?_
      exact hk
    | true =>
      refine cu (uNmBytes hx ol) ?_
      refine W ?_
      refine cu u1 ?_
      refine W ?_
      refine cu u2 ?_
      refine W ?_
      exact hk
  | true =>
    refine cu (uNmBytes hx oa) ?_
    refine W ?_
    cases ol : okR x l with
    | false =>
      refine cu (uNmBytes0 hx ol) ?_
      refine W ?_
      refine cu u1 ?_
      refine W ?_
      refine cu u2 ?_
      refine W ?_
      exact hk
    | true =>
      refine cu (uNmBytes hx ol) ?_
      have e1 : sbin .eql ((ubN x a).drop 4) ((ubN x l).drop 4) = some (.bool true) := by rw [ubN_drop, ubN_drop]; exact sb_eqlT rfl
      have e2 := ubN_len (a := a) hx
      have e3 := ubN_len (a := l) hx
      have e4 : (ubN x a)[(0 : Int).toNat]? = some (UInt8.ofNat (88 + x.k).toNat) := by rw [ubN_cons]; rfl
      have e5 : (ubN x l)[(0 : Int).toNat]? = some (UInt8.ofNat (88 + x.k).toNat) := by rw [ubN_cons]; rfl
      have e6 := eqC_U (a := a) (b := l) hx hx
      rw [same_self, Bool.true_and] at e6
      have e7 : sbin .eql (ubN x a) (ubN x l) = some (.bool (a == l)) := by
        by_cases h : a = l
        · subst h; rw [beq_self_eq_true]; exact sb_eqlT rfl
        · have : ubN x a ≠ ubN x l := fun e => h (ubN_inj oa ol e)
          rw [sb_eql]; simp [h, this]
      refine W ?_
      refine s1t u1 ?_
      refine W ?_
      refine s1t u2 ?_
      refine W ?_
      cases hal : (a == l) with
      | true =>
        rw [hal] at e6 e7
        refine W ?_
        exact hk
      | false =>
        rw [hal] at e6 e7
        refine W ?_
        exact hk
end
end Go.Proofs.YtdkjcadffhnjgaaDoor
