/- Runs of closed calls: the seat's table. -/
import Derived.Test.YtdkjcadffhnjgaaDoorVR
import Derived.Test.YtdkjcadffhnjgaaDoorF1
import Derived.Test.YtdkjcadffhnjgaaDoorF2
import Derived.Test.YtdkjcadffhnjgaaDoorG5
namespace Go.Proofs.YtdkjcadffhnjgaaDoor
open Go Go.V
set_option maxRecDepth 10000
def vf13r : VFun := ⟨38, 6, vb13, [.tmp 2, .tmp 3], true⟩
theorem cf13r : cFun Tryd.prog rawF true Tryd.f13 = some vf13r := by kernel_rfl
def vf76r : VFun := ⟨8, 3, vb76, [.tmp 2], true⟩
open D in
def vb11s : VC :=
  .seq (.region [m 0 (.mov (.c (.bool false)))]) <|
  .seq (.region [m 7 (.build [(b 0), (b 0), (b 0), (b 0), (b 0), (b 0), (b 0), (b 0)] [(0, 1, (.c (b 0))), (1, 1, (.c (b 0))), (2, 1, (.c (b 0))), (3, 1, (.c (b 1))), (4, 1, (.c (b 0))), (5, 1, (.c (b 0))), (6, 1, (.c (b 0))), (7, 1, (.c (b 1)))]), m 8 (.call false 39 [(.c (b 10)), (.c (b 1)), (.c (b 0)), (.c (b 0))]), m 9 (.build [(i 0), (b 0), (b 0), (b 0), (b 0), (b 0), (b 0), (b 0), (b 0), (b 0), (b 0), (b 0), (b 0), (b 0), (b 0), (b 0), (b 0), (i 0)] [(0, 17, (t 8)), (17, 1, (.c (i 16)))]), m 10 (.build [(b 0), (b 0), (b 0), (b 0), (b 0), (b 0), (b 0), (b 0), (i 0), (b 0), (b 0), (b 0), (b 0), (b 0), (b 0), (b 0), (b 0), (b 0), (b 0), (b 0), (b 0), (b 0), (b 0), (b 0), (b 0), (i 0), (i 0)] [(0, 8, (t 7)), (8, 18, (t 9)), (26, 1, (.c (i 16)))]), m 1 (.alloc 0 [(b 0), (b 0), (b 0), (b 0), (b 0), (b 0), (b 0), (b 0), (i 0), (b 0), (b 0), (b 0), (b 0), (b 0), (b 0), (b 0), (b 0), (b 0), (b 0), (b 0), (b 0), (b 0), (b 0), (b 0), (b 0), (i 0), (i 0)]), e (.store 27 (t 1) (t 10))]) <|
  .seq (.region [m 12 (.load (some 27) (t 1)), m 13 (.call false 13 [(t 12)]), m 11 (.mov (t 13)), m 14 (.extract 0 (t 11)), m 15 (.extract 1 (t 11)), m 2 (.snap (t 14)), m 3 (.mov (t 15))]) <|
  .seq (.region [m 17 (.mov (t 2)), m 18 (.buildSlice 1 1 1 [(b 0)] [(0, (.c (b 7)))]), m 19 (.append 2 1 1 (t 17) (t 18)), m 20 (.call false 14 [(t 19), (.c (i 4))]), m 16 (.mov (t 20)), m 21 (.extract 0 (t 16)), m 22 (.extract 1 (t 16)), m 23 (.extract 2 (t 16)), m 4 (.alloc 3 [(b 0), (b 0), (b 0), (b 0), (b 0), (b 0), (b 0), (b 0), (i 0), (b 0), (b 0), (b 0), (b 0), (b 0), (b 0), (b 0), (b 0), (b 0), (b 0), (b 0), (b 0), (b 0), (b 0), (b 0), (b 0), (i 0), (i 0)]), e (.store 27 (t 4) (t 21)), m 5 (.mov (t 22)), m 6 (.mov (t 23))]) <|
  .seq (.region [m 24 (.mov (t 3)), m 25 (.bin .eql .num (t 24) (.c (i 0))), m 26 (.mov (t 25)), g 27 26 true (.mov (t 2)), g 28 26 true (.b2s (t 27)), g 29 26 true (.bin .eql .num (t 28) (.c (.str [104, 0, 1, 1, 0, 0, 0, 1, 0, 0, 0, 1, 10, 1]))), m 30 (.pick (t 26) (t 29) (.c (.bool false))), m 31 (.mov (t 30)), g 32 31 true (.mov (t 6)), g 33 31 true (.bin .eql .num (t 32) (.c (i 0))), m 34 (.pick (t 31) (t 33) (.c (.bool false))), m 35 (.mov (t 34)), g 36 35 true (.mov (t 5)), g 37 35 true (.bin .eql .num (t 36) (.c (i 14))), m 38 (.pick (t 35) (t 37) (.c (.bool false))), m 39 (.mov (t 38)), g 40 39 true (.load (some 27) (t 4)), g 41 39 true (.load (some 27) (t 1)), g 42 39 true (.eqAgg [(.i .u8), (.i .u8), (.i .u8), (.i .u8), (.i .u8), (.i .u8), (.i .u8), (.i .u8), (.i .i64), (.i .u8), (.i .u8), (.i .u8), (.i .u8), (.i .u8), (.i .u8), (.i .u8), (.i .u8), (.i .u8), (.i .u8), (.i .u8), (.i .u8), (.i .u8), (.i .u8), (.i .u8), (.i .u8), (.i .i64), (.i .i64)] false (t 40) (t 41)), m 43 (.pick (t 39) (t 42) (.c (.bool false))), m 44 (.mov (t 43)), g 45 44 true (.load (some 27) (t 1)), g 46 44 true (.call false 40 [(t 45)]), g 47 44 true (.bin .eql .num (t 46) (.c (.str [48, 58, 49, 58, 49, 32, 49, 48, 46, 49, 46, 48, 46, 48, 47, 49, 54, 32, 49, 54]))), m 48 (.pick (t 44) (t 47) (.c (.bool false))), m 0 (.mov (t 48))]) <|
  .ret
def vf11s : VFun := ⟨49, 4, vb11s, [.tmp 0], false⟩
def rawS (f : FuncId) : Bool := Nat.beq f 1000002
open D in
theorem cf11s : cFun Tryd.prog rawS false Tryd.f11 = some vf11s := by kernel_rfl
/-- The functions, for runs by the kernel. -/
def vtab : List (Nat × VFun) := [(13, vf13r), (14, vf14), (15, vf15), (16, vf16), (19, vf19), (20, vf20), (21, vf21), (22, vf22), (23, vf23), (24, vf24), (25, vf25), (26, vf26), (27, vf27), (40, vf40), (41, vf41), (42, vf42), (43, vf43), (44, vf44), (45, vf45), (46, vf46), (47, vf47), (48, vf48), (49, vf49), (50, vf50), (51, vf51), (52, vf52), (53, vf53), (54, vf54), (55, vf55), (56, vf56), (57, vf57), (58, vf58), (59, vf59), (61, vf61), (63, vf63), (68, vf68), (70, vf70), (72, vf72), (76, vf76r), (77, vf77), (78, vf78), (79, vf79), (80, vf80), (81, vf81), (82, vf82), (83, vf83), (84, vf84), (85, vf85), (86, vf86), (88, vf88), (89, vf89), (90, vf90), (96, vf96), (97, vf97), (100, vf100), (101, vf101), (102, vf102), (103, vf103), (106, vf106), (107, vf107), (108, vf108), (121, vf121), (3, vf3), (5, vf5), (6, vf6), (7, vf7), (11, vf11s), (12, vf12), (17, vf17), (18, vf18), (39, vf39), (4, vf4), (99, vf99), (117, vf117), (118, vf118), (129, vf129), (130, vf130), (134, vf134)]
theorem vtab_ok : TabOk Tryd.prog vtab := (TabOk.cons ⟨_, rawF, Tryd.func13, cf13r⟩ (TabOk.cons ⟨_, rawF, Tryd.func14, cf14⟩ (TabOk.cons ⟨_, rawF, Tryd.func15, cf15⟩ (TabOk.cons ⟨_, rawF, Tryd.func16, cf16⟩ (TabOk.cons ⟨_, rawF, Tryd.func19, cf19⟩ (TabOk.cons ⟨_, rawF, Tryd.func20, cf20⟩ (TabOk.cons ⟨_, rawF, Tryd.func21, cf21⟩ (TabOk.cons ⟨_, rawF, Tryd.func22, cf22⟩ (TabOk.cons ⟨_, rawF, Tryd.func23, cf23⟩ (TabOk.cons ⟨_, rawF, Tryd.func24, cf24⟩ (TabOk.cons ⟨_, rawF, Tryd.func25, cf25⟩ (TabOk.cons ⟨_, rawF, Tryd.func26, cf26⟩ (TabOk.cons ⟨_, rawF, Tryd.func27, cf27⟩ (TabOk.cons ⟨_, rawF, Tryd.func40, cf40⟩ (TabOk.cons ⟨_, rawF, Tryd.func41, cf41⟩ (TabOk.cons ⟨_, rawF, Tryd.func42, cf42⟩ (TabOk.cons ⟨_, rawF, Tryd.func43, cf43⟩ (TabOk.cons ⟨_, rawF, Tryd.func44, cf44⟩ (TabOk.cons ⟨_, rawF, Tryd.func45, cf45⟩ (TabOk.cons ⟨_, rawF, Tryd.func46, cf46⟩ (TabOk.cons ⟨_, rawF, Tryd.func47, cf47⟩ (TabOk.cons ⟨_, rawF, Tryd.func48, cf48⟩ (TabOk.cons ⟨_, rawF, Tryd.func49, cf49⟩ (TabOk.cons ⟨_, rawF, Tryd.func50, cf50⟩ (TabOk.cons ⟨_, rawF, Tryd.func51, cf51⟩ (TabOk.cons ⟨_, rawF, Tryd.func52, cf52⟩ (TabOk.cons ⟨_, rawF, Tryd.func53, cf53⟩ (TabOk.cons ⟨_, rawF, Tryd.func54, cf54⟩ (TabOk.cons ⟨_, rawF, Tryd.func55, cf55⟩ (TabOk.cons ⟨_, rawF, Tryd.func56, cf56⟩ (TabOk.cons ⟨_, rawF, Tryd.func57, cf57⟩ (TabOk.cons ⟨_, rawF, Tryd.func58, cf58⟩ (TabOk.cons ⟨_, rawF, Tryd.func59, cf59⟩ (TabOk.cons ⟨_, rawF, Tryd.func61, cf61⟩ (TabOk.cons ⟨_, rawF, Tryd.func63, cf63⟩ (TabOk.cons ⟨_, rawF, Tryd.func68, cf68⟩ (TabOk.cons ⟨_, rawF, Tryd.func70, cf70⟩ (TabOk.cons ⟨_, rawF, Tryd.func72, cf72⟩ (TabOk.cons ⟨_, rawF, Tryd.func76, cf76r⟩ (TabOk.cons ⟨_, rawF, Tryd.func77, cf77⟩ (TabOk.cons ⟨_, rawF, Tryd.func78, cf78⟩ (TabOk.cons ⟨_, rawF, Tryd.func79, cf79⟩ (TabOk.cons ⟨_, rawF, Tryd.func80, cf80⟩ (TabOk.cons ⟨_, rawF, Tryd.func81, cf81⟩ (TabOk.cons ⟨_, rawF, Tryd.func82, cf82⟩ (TabOk.cons ⟨_, rawF, Tryd.func83, cf83⟩ (TabOk.cons ⟨_, rawF, Tryd.func84, cf84⟩ (TabOk.cons ⟨_, rawF, Tryd.func85, cf85⟩ (TabOk.cons ⟨_, rawF, Tryd.func86, cf86⟩ (TabOk.cons ⟨_, rawF, Tryd.func88, cf88⟩ (TabOk.cons ⟨_, rawF, Tryd.func89, cf89⟩ (TabOk.cons ⟨_, rawF, Tryd.func90, cf90⟩ (TabOk.cons ⟨_, rawF, Tryd.func96, cf96⟩ (TabOk.cons ⟨_, rawF, Tryd.func97, cf97⟩ (TabOk.cons ⟨_, rawF, Tryd.func100, cf100⟩ (TabOk.cons ⟨_, rawF, Tryd.func101, cf101⟩ (TabOk.cons ⟨_, rawF, Tryd.func102, cf102⟩ (TabOk.cons ⟨_, rawF, Tryd.func103, cf103⟩ (TabOk.cons ⟨_, rawF, Tryd.func106, cf106⟩ (TabOk.cons ⟨_, rawF, Tryd.func107, cf107⟩ (TabOk.cons ⟨_, rawF, Tryd.func108, cf108⟩ (TabOk.cons ⟨_, rawF, Tryd.func121, cf121⟩ (TabOk.cons ⟨_, rawF, Tryd.func3, cf3⟩ (TabOk.cons ⟨_, rawF, Tryd.func5, cf5⟩ (TabOk.cons ⟨_, rawF, Tryd.func6, cf6⟩ (TabOk.cons ⟨_, rawF, Tryd.func7, cf7⟩ (TabOk.cons ⟨_, rawS, Tryd.func11, cf11s⟩ (TabOk.cons ⟨_, rawF, Tryd.func12, cf12⟩ (TabOk.cons ⟨_, rawF, Tryd.func17, cf17⟩ (TabOk.cons ⟨_, rawF, Tryd.func18, cf18⟩ (TabOk.cons ⟨_, rawF, Tryd.func39, cf39⟩ (TabOk.cons ⟨_, rawF, Tryd.func4, cf4⟩ (TabOk.cons ⟨_, rawF, Tryd.func99, cf99⟩ (TabOk.cons ⟨_, rawF, Tryd.func117, cf117⟩ (TabOk.cons ⟨_, rawF, Tryd.func118, cf118⟩ (TabOk.cons ⟨_, rawF, Tryd.func129, cf129⟩ (TabOk.cons ⟨_, rawF, Tryd.func130, cf130⟩ (TabOk.cons ⟨_, rawF, Tryd.func134, cf134⟩ TabOk.nil))))))))))))))))))))))))))))))))))))))))))))))))))))))))))))))))))))))))))))))
def ddx : Nat → Nat → List UInt8
  | 0, n => [UInt8.ofNat (48 + n)]
  | k + 1, n => if n < 10 then [UInt8.ofNat (48 + n)] else ddx k (n / 10) ++ [UInt8.ofNat (48 + n % 10)]
theorem ddx_ok : ∀ (k n : Nat), n < 10 ^ (k + 1) → ddx k n = Lib.decDigits n
  | 0, n, h => by rw [Lib.decDigits, dif_pos (by simpa using h)]; rfl
  | k + 1, n, h => by
    rw [Lib.decDigits, ddx]
    split
    · rfl
    · rw [ddx_ok k (n / 10) (by rw [Nat.pow_succ] at h; omega)]
def itoaX (n : Int) : List UInt8 := if n < 0 then 45 :: ddx 20 n.natAbs else ddx 20 n.toNat
theorem itoaX_ok {n : Int} (h0 : -9223372036854775808 ≤ n) (h1 : n ≤ 9223372036854775807) : itoaX n = Lib.itoa n := by
  have e : (10 : Nat) ^ (20 + 1) = 1000000000000000000000 := by decide
  unfold itoaX Lib.itoa
  rw [ddx_ok _ _ (by omega), ddx_ok _ _ (by omega)]
def strOf : List PV → Option (List UInt8)
  | [.str s] => some s
  | _ => none
def bytesX (es : List (List PV)) : Option (List UInt8) := match es.mapM V.byteOf with
  | some l => if eqLL (eqPV 1) (bsl l) es = true then some l else none
  | none => none
theorem bytesX_ok {es : List (List PV)} {l : List UInt8} (h : bytesX es = some l) : es = bsl l := by
  unfold bytesX at h
  split at h
  · split at h
    · rename_i hh; cases h; exact (eqLL_ok (eqPV_ok 1) _ _ hh).symm
    · cases h
  · cases h
def specItoa : List PV → Option PV
  | [.int .i64 n] => if -9223372036854775808 ≤ n ∧ n ≤ 9223372036854775807 then some (.str (itoaX n)) else none
  | _ => none
def specJoin : List PV → Option PV
  | [.sl rows, .str sep] => match rows.mapM strOf with
    | some ss => if eqLL (eqPV 1) (strRow ss) rows = true ∧ ss.length ≤ 140737488355328 ∧ (Lib.join ss sep).length ≤ 140737488355328 then some (.str (Lib.join ss sep)) else none
    | none => none
  | _ => none
def specClone : List PV → Option PV
  | [.sl es] => match bytesX es with
    | some l => if l.length ≤ 140737488355328 then some (.sl (bsl l)) else none
    | none => none
  | _ => none
def specPut : List PV → Option PV
  | [.sl es, .int .i64 (.ofNat n), .int .i64 (.ofNat z)] => match bytesX es with
    | some l => if 1 ≤ z ∧ z ≤ 4 ∧ n < 256 ^ z ∧ l.length ≤ 1000000 then some (.tup [.sl (bsl (l ++ be n z)), .int .i64 0]) else none
    | none => none
  | _ => none
def specX : XE := fun f args => cond (Nat.beq f 69) (specItoa args) (cond (Nat.beq f 73) (specJoin args) (cond (Nat.beq f 76) (specClone args) (cond (Nat.beq f 61) (specPut args) none)))
theorem specX_ok : SpecOk Tryd.prog specX := by
  intro f args v h
  unfold specX at h
  cases e1 : Nat.beq f 69 with
  | true =>
    rw [e1] at h; have e1 := Nat.eq_of_beq_eq_true e1; subst e1
    dsimp only [cond] at h
    unfold specItoa at h
    split at h
    · split at h
      · rename_i hh; cases h; rw [itoaX_ok hh.1 hh.2]; exact uItoa hh.1 hh.2
      · cases h
    · cases h
  | false =>
  rw [e1] at h
  cases e1 : Nat.beq f 73 with
  | true =>
    rw [e1] at h; have e1 := Nat.eq_of_beq_eq_true e1; subst e1
    dsimp only [cond] at h
    unfold specJoin at h
    split at h
    · split at h
      · split at h
        · rename_i hh; cases h; rw [← eqLL_ok (eqPV_ok 1) _ _ hh.1]; exact uJoin hh.2.1 hh.2.2
        · cases h
      · cases h
    · cases h
  | false =>
  rw [e1] at h
  cases e1 : Nat.beq f 76 with
  | true =>
    rw [e1] at h; have e1 := Nat.eq_of_beq_eq_true e1; subst e1
    dsimp only [cond] at h
    unfold specClone at h
    split at h
    · split at h
      · rename_i hb; split at h
        · rename_i hl; cases h; rw [bytesX_ok hb]; exact uClone hl
        · cases h
      · cases h
    · cases h
  | false =>
  rw [e1] at h
  cases e1 : Nat.beq f 61 with
  | true =>
    rw [e1] at h; have e1 := Nat.eq_of_beq_eq_true e1; subst e1
    dsimp only [cond] at h
    unfold specPut at h
    split at h
    · split at h
      · rename_i hb; split at h
        · rename_i hl; cases h; rw [bytesX_ok hb]; exact uPut hl.1 hl.2.1 hl.2.2.1 hl.2.2.2
        · cases h
      · cases h
    · cases h
  | false =>
  rw [e1] at h; cases h
def extX : XE := fun _ _ => none
theorem extX_ok : ExtOk Tryd.prog extX := fun _ _ _ h => by cases h
theorem u8s_cl (l : List Int) : ClL (u8s l) := clL_iff fun c hc => by obtain ⟨x, _, rfl⟩ := List.mem_map.1 hc; infer_instance
theorem glob_cl : ∀ g cells, Glob.tab g = some cells → ClL cells := by
  intro g cells h
  have e : g = 1 ∧ cells = gt1 ∨ g = 4 ∧ cells = gt4 ∨ g = 5 ∧ cells = gt5 := by
    simp only [Glob.tab] at h
    split at h
    · cases h; exact .inl ⟨rfl, rfl⟩
    · cases h; exact .inr (.inl ⟨rfl, rfl⟩)
    · cases h; exact .inr (.inr ⟨rfl, rfl⟩)
    · cases h
  rcases e with ⟨_, rfl⟩ | ⟨_, rfl⟩ | ⟨_, rfl⟩
  · unfold gt1; infer_instance
  · exact u8s_cl _
  · exact u8s_cl _
theorem uSmall : U Tryd.prog 11 [] (.bool true) := U_kernel (tab := vtab) (ext := extX) (spec := specX) 100 20 (.bool true) vtab_ok extX_ok specX_ok glob_cl rfl (by kernel_rfl)
end Go.Proofs.YtdkjcadffhnjgaaDoor
