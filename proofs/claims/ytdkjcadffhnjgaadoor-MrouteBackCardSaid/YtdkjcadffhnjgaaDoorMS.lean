/- vinerylaw07.small, reckoned by the kernel. -/
import Derived.Test.YtdkjcadffhnjgaaDoorM19
import Derived.Test.YtdkjcadffhnjgaaDoorVJ
namespace Go.Proofs.YtdkjcadffhnjgaaDoor
open Go Go.V
set_option maxRecDepth 10000
/-- Facts about single calls, as a spec. -/
def factSpec : List (Nat × List PV × PV) → XE → XE
  | [], e => e
  | (f, a, r) :: l, e => fun g args => cond (Nat.beq g f) (cond (eqL (eqPV 9) a args) (some r) (factSpec l e g args)) (factSpec l e g args)
theorem factSpec_ok {e : XE} (he : SpecOk Tryd.prog e) : ∀ (l : List (Nat × List PV × PV)), (∀ p, p ∈ l → U Tryd.prog p.1 p.2.1 p.2.2) → SpecOk Tryd.prog (factSpec l e)
  | [], _ => he
  | (f, a, r) :: l, h => by
    have ih := factSpec_ok he l fun p hp => h p (List.mem_cons_of_mem _ hp)
    have h0 := h (f, a, r) List.mem_cons_self
    intro g args v hv
    unfold factSpec at hv
    cases e1 : Nat.beq g f with
    | false => rw [e1] at hv; exact ih g args v hv
    | true =>
      rw [e1] at hv; have e1 := Nat.eq_of_beq_eq_true e1; subst e1
      dsimp only [cond] at hv
      cases e2 : eqL (eqPV 9) a args with
      | false => rw [e2] at hv; exact ih g args v hv
      | true =>
        rw [e2] at hv
        dsimp only at hv
        cases hv
        rw [← eqL_ok (eqPV_ok 9) _ _ e2]; exact h0
/-- The functions, for runs by the kernel. -/
def vtabM : List (Nat × VFun) := [(13, vf13r), (14, vf14), (15, vf15), (16, vf16), (19, vf19), (20, vf20), (21, vf21), (22, vf22), (23, vf23), (24, vf24), (25, vf25), (26, vf26), (27, vf27), (40, vf40), (41, vf41), (42, vf42), (43, vf43), (44, vf44), (45, vf45), (46, vf46), (47, vf47), (48, vf48), (49, vf49), (50, vf50), (51, vf51), (52, vf52), (53, vf53), (54, vf54), (55, vf55), (56, vf56), (57, vf57), (58, vf58), (59, vf59), (61, vf61), (63, vf63), (68, vf68), (70, vf70), (72, vf72), (76, vf76r), (77, vf77), (78, vf78), (79, vf79), (80, vf80), (81, vf81), (82, vf82), (83, vf83), (84, vf84), (85, vf85), (86, vf86), (88, vf88), (89, vf89), (90, vf90), (96, vf96), (97, vf97), (100, vf100), (101, vf101), (102, vf102), (103, vf103), (106, vf106), (107, vf107), (108, vf108), (121, vf121), (3, vf3), (5, vf5), (6, vf6), (7, vf7), (11, vf11), (12, vf12), (17, vf17), (18, vf18), (39, vf39), (4, vf4), (99, vf99), (117, vf117), (118, vf118), (129, vf129), (130, vf130), (134, vf134), (29, vf29), (60, vf60), (64, vf64), (65, vf65), (66, vf66), (62, vf62), (67, vf67), (32, vf32), (31, vf31), (94, vf94), (95, vf95), (74, vf74), (75, vf75), (36, vf36), (35, vf35), (30, vf30), (37, vf37), (38, vf38), (33, vf33), (71, vf71), (34, vf34), (28, vf28), (8, vf8), (9, vf9), (10, vf10)]
theorem vtabM_ok : TabOk Tryd.prog vtabM := (TabOk.cons ⟨_, rawF, Tryd.func13, cf13r⟩ (TabOk.cons ⟨_, rawF, Tryd.func14, cf14⟩ (TabOk.cons ⟨_, rawF, Tryd.func15, cf15⟩ (TabOk.cons ⟨_, rawF, Tryd.func16, cf16⟩ (TabOk.cons ⟨_, rawF, Tryd.func19, cf19⟩ (TabOk.cons ⟨_, rawF, Tryd.func20, cf20⟩ (TabOk.cons ⟨_, rawF, Tryd.func21, cf21⟩ (TabOk.cons ⟨_, rawF, Tryd.func22, cf22⟩ (TabOk.cons ⟨_, rawF, Tryd.func23, cf23⟩ (TabOk.cons ⟨_, rawF, Tryd.func24, cf24⟩ (TabOk.cons ⟨_, rawF, Tryd.func25, cf25⟩ (TabOk.cons ⟨_, rawF, Tryd.func26, cf26⟩ (TabOk.cons ⟨_, rawF, Tryd.func27, cf27⟩ (TabOk.cons ⟨_, rawF, Tryd.func40, cf40⟩ (TabOk.cons ⟨_, rawF, Tryd.func41, cf41⟩ (TabOk.cons ⟨_, rawF, Tryd.func42, cf42⟩ (TabOk.cons ⟨_, rawF, Tryd.func43, cf43⟩ (TabOk.cons ⟨_, rawF, Tryd.func44, cf44⟩ (TabOk.cons ⟨_, rawF, Tryd.func45, cf45⟩ (TabOk.cons ⟨_, rawF, Tryd.func46, cf46⟩ (TabOk.cons ⟨_, rawF, Tryd.func47, cf47⟩ (TabOk.cons ⟨_, rawF, Tryd.func48, cf48⟩ (TabOk.cons ⟨_, rawF, Tryd.func49, cf49⟩ (TabOk.cons ⟨_, rawF, Tryd.func50, cf50⟩ (TabOk.cons ⟨_, rawF, Tryd.func51, cf51⟩ (TabOk.cons ⟨_, rawF, Tryd.func52, cf52⟩ (TabOk.cons ⟨_, rawF, Tryd.func53, cf53⟩ (TabOk.cons ⟨_, rawF, Tryd.func54, cf54⟩ (TabOk.cons ⟨_, rawF, Tryd.func55, cf55⟩ (TabOk.cons ⟨_, rawF, Tryd.func56, cf56⟩ (TabOk.cons ⟨_, rawF, Tryd.func57, cf57⟩ (TabOk.cons ⟨_, rawF, Tryd.func58, cf58⟩ (TabOk.cons ⟨_, rawF, Tryd.func59, cf59⟩ (TabOk.cons ⟨_, rawF, Tryd.func61, cf61⟩ (TabOk.cons ⟨_, rawF, Tryd.func63, cf63⟩ (TabOk.cons ⟨_, rawF, Tryd.func68, cf68⟩ (TabOk.cons ⟨_, rawF, Tryd.func70, cf70⟩ (TabOk.cons ⟨_, rawF, Tryd.func72, cf72⟩ (TabOk.cons ⟨_, rawF, Tryd.func76, cf76r⟩ (TabOk.cons ⟨_, rawF, Tryd.func77, cf77⟩ (TabOk.cons ⟨_, rawF, Tryd.func78, cf78⟩ (TabOk.cons ⟨_, rawF, Tryd.func79, cf79⟩ (TabOk.cons ⟨_, rawF, Tryd.func80, cf80⟩ (TabOk.cons ⟨_, rawF, Tryd.func81, cf81⟩ (TabOk.cons ⟨_, rawF, Tryd.func82, cf82⟩ (TabOk.cons ⟨_, rawF, Tryd.func83, cf83⟩ (TabOk.cons ⟨_, rawF, Tryd.func84, cf84⟩ (TabOk.cons ⟨_, rawF, Tryd.func85, cf85⟩ (TabOk.cons ⟨_, rawF, Tryd.func86, cf86⟩ (TabOk.cons ⟨_, rawF, Tryd.func88, cf88⟩ (TabOk.cons ⟨_, rawF, Tryd.func89, cf89⟩ (TabOk.cons ⟨_, rawF, Tryd.func90, cf90⟩ (TabOk.cons ⟨_, rawF, Tryd.func96, cf96⟩ (TabOk.cons ⟨_, rawF, Tryd.func97, cf97⟩ (TabOk.cons ⟨_, rawF, Tryd.func100, cf100⟩ (TabOk.cons ⟨_, rawF, Tryd.func101, cf101⟩ (TabOk.cons ⟨_, rawF, Tryd.func102, cf102⟩ (TabOk.cons ⟨_, rawF, Tryd.func103, cf103⟩ (TabOk.cons ⟨_, rawF, Tryd.func106, cf106⟩ (TabOk.cons ⟨_, rawF, Tryd.func107, cf107⟩ (TabOk.cons ⟨_, rawF, Tryd.func108, cf108⟩ (TabOk.cons ⟨_, rawF, Tryd.func121, cf121⟩ (TabOk.cons ⟨_, rawF, Tryd.func3, cf3⟩ (TabOk.cons ⟨_, rawF, Tryd.func5, cf5⟩ (TabOk.cons ⟨_, rawF, Tryd.func6, cf6⟩ (TabOk.cons ⟨_, rawF, Tryd.func7, cf7⟩ (TabOk.cons ⟨_, rawF, Tryd.func11, cf11⟩ (TabOk.cons ⟨_, rawF, Tryd.func12, cf12⟩ (TabOk.cons ⟨_, rawF, Tryd.func17, cf17⟩ (TabOk.cons ⟨_, rawF, Tryd.func18, cf18⟩ (TabOk.cons ⟨_, rawF, Tryd.func39, cf39⟩ (TabOk.cons ⟨_, rawF, Tryd.func4, cf4⟩ (TabOk.cons ⟨_, rawF, Tryd.func99, cf99⟩ (TabOk.cons ⟨_, rawF, Tryd.func117, cf117⟩ (TabOk.cons ⟨_, rawF, Tryd.func118, cf118⟩ (TabOk.cons ⟨_, rawF, Tryd.func129, cf129⟩ (TabOk.cons ⟨_, rawF, Tryd.func130, cf130⟩ (TabOk.cons ⟨_, rawF, Tryd.func134, cf134⟩ (TabOk.cons ⟨_, rawF, Tryd.func29, cf29⟩ (TabOk.cons ⟨_, rawF, Tryd.func60, cf60⟩ (TabOk.cons ⟨_, rawF, Tryd.func64, cf64⟩ (TabOk.cons ⟨_, rawF, Tryd.func65, cf65⟩ (TabOk.cons ⟨_, rawF, Tryd.func66, cf66⟩ (TabOk.cons ⟨_, rawF, Tryd.func62, cf62⟩ (TabOk.cons ⟨_, rawF, Tryd.func67, cf67⟩ (TabOk.cons ⟨_, rawF, Tryd.func32, cf32⟩ (TabOk.cons ⟨_, rawF, Tryd.func31, cf31⟩ (TabOk.cons ⟨_, rawF, Tryd.func94, cf94⟩ (TabOk.cons ⟨_, rawF, Tryd.func95, cf95⟩ (TabOk.cons ⟨_, rawF, Tryd.func74, cf74⟩ (TabOk.cons ⟨_, rawF, Tryd.func75, cf75⟩ (TabOk.cons ⟨_, rawF, Tryd.func36, cf36⟩ (TabOk.cons ⟨_, rawF, Tryd.func35, cf35⟩ (TabOk.cons ⟨_, rawF, Tryd.func30, cf30⟩ (TabOk.cons ⟨_, rawF, Tryd.func37, cf37⟩ (TabOk.cons ⟨_, rawF, Tryd.func38, cf38⟩ (TabOk.cons ⟨_, rawF, Tryd.func33, cf33⟩ (TabOk.cons ⟨_, rawF, Tryd.func71, cf71⟩ (TabOk.cons ⟨_, rawF, Tryd.func34, cf34⟩ (TabOk.cons ⟨_, rawF, Tryd.func28, cf28⟩ (TabOk.cons ⟨_, rawF, Tryd.func8, cf8⟩ (TabOk.cons ⟨_, rawF, Tryd.func9, cf9⟩ (TabOk.cons ⟨_, rawF, Tryd.func10, cf10⟩ TabOk.nil)))))))))))))))))))))))))))))))))))))))))))))))))))))))))))))))))))))))))))))))))))))))))))))))))))))))
/-- The small case's route, and its bytes. -/
def m3 : Mr := ⟨3, [0, 0, 0, 1, 0, 0, 0, 1], 0, ad0, ⟨4, [224, 0, 0, 1, 0, 0, 0, 0, 0, 0, 0, 0, 0, 0, 0, 0]⟩, ⟨4, [10, 0, 0, 1, 0, 0, 0, 0, 0, 0, 0, 0, 0, 0, 0, 0]⟩, []⟩
def l3 : List UInt8 := [3, 18, 0, 0, 0, 1, 0, 0, 0, 1, 0, 32, 224, 0, 0, 1, 10, 0, 0, 1]
def a3 : Ad := ⟨4, [10, 0, 0, 2, 0, 0, 0, 0, 0, 0, 0, 0, 0, 0, 0, 0]⟩
def l4 : List UInt8 := [4, 24, 3, 18, 0, 0, 0, 1, 0, 0, 0, 1, 0, 32, 224, 0, 0, 1, 10, 0, 0, 1, 10, 0, 0, 2]
def m4 : Mr := ⟨4, z8, 0, ad0, ad0, a3, l3⟩
theorem m3_ok : okM m3 := ⟨rfl, rfl, rfl, rfl⟩
theorem m3_p : RightP m3 := ⟨rfl, rfl, by decide, by decide, fun _ => rfl, fun _ => rfl⟩
theorem m3_right : rightF m3 = true := rightG_of m3_p (fun h => by cases h)
theorem m3_bytes : mbytes m3 = l3 := by decide
theorem m4_eq : leafM m3 a3 = m4 := by unfold leafM; rw [m3_bytes]; rfl
theorem m4_ok : okM m4 := ⟨rfl, rfl, rfl, rfl⟩
theorem l3_ans : (ansF l3).2 = true := by
  have := ansF_back m3_ok m3_p (.inr rfl)
  rw [m3_bytes] at this; exact this
theorem m4_right : rightF m4 = true := by
  have := leaf_right (m := m3) (a := a3)
  rw [m3_bytes, l3_ans, m4_eq] at this
  rw [this]; rfl
theorem m4_bytes : mbytes m4 = l4 := by decide
theorem m3_size : szF 4 m3 = true := by
  unfold szF sizedG
  rw [show sizeOk m3 4 = true from rfl, show decide (m3.k ≠ 4) = true from rfl]; rfl
theorem f1 : U Tryd.prog 31 [.agg (mrc m3)] (.tup [.sl (bsl l3), .int .i64 0]) := by
  have := uMBytes m3_ok (by decide) m3_right
  rw [m3_bytes] at this; exact this
theorem f2 : U Tryd.prog 31 [.agg (mrc m4)] (.tup [.sl (bsl l4), .int .i64 0]) := by
  have := uMBytes m4_ok (by decide) m4_right
  rw [m4_bytes] at this; exact this
theorem f3 : U Tryd.prog 32 [.agg (mrc m3)] (.bool true) := by
  have := uRightM m3_ok (by decide)
  rw [m3_right] at this; exact this
theorem f4 : U Tryd.prog 32 [.agg (mrc m4)] (.bool true) := by
  have := uRightM m4_ok (by decide)
  rw [m4_right] at this; exact this
theorem f5 : U Tryd.prog 35 [.sl (bsl l3), .int .i64 4] (.tup [.agg (mrc m3), .int .i64 0]) := by
  have := uParseM (l := l3) (s := 4) (by decide)
  have h := parseM_back m3_ok m3_right (.inl rfl)
  rw [m3_bytes, if_pos m3_size] at h
  rw [h] at this; exact this
theorem f6 : U Tryd.prog 30 [.agg (mrc m3), .agg (adc a3)] (.tup [.agg (mrc m4), .int .i64 0]) := by
  have := uLeaf m3_ok (a := a3) rfl (by decide)
  unfold leafF at this
  rw [m4_eq, if_pos ⟨m3_right, m4_right⟩] at this; exact this
theorem f7 : U Tryd.prog 67 [.str l3] (.tup [.agg (mrc m3), .bool true]) := by
  have := uAns (key := l3) (by decide)
  have h := ansF_good l3_ans
  obtain ⟨u, s, h1, h2, h3, h4, h5, h6, h7⟩ := h
  rw [l3_ans, h7] at this
  have e : u = m3 := by
    have e1 := parseM_back m3_ok m3_right h5
    have e2 := takeG_back (rt := rtN) (sz := szN s) (t := []) m3_ok m3_p (rightG_of m3_p (fun h => by cases h)) h5 (by decide) (fun h => by cases h)
    rw [List.append_nil, m3_bytes] at e2
    obtain ⟨p1, p2, p3⟩ := prs_n (t := takeN l3 s) (n := l3.length) (by have := congrArg Prod.snd h6; exact this)
    have e3 := congrArg Prod.fst h6
    unfold parseN at e3
    rw [p3] at e3
    unfold takeN at e3 p1
    rw [e2] at e3 p1
    split at e3
    · exact e3.symm
    · rename_i hz
      rw [if_neg hz] at p1; cases p1
  rw [e] at this; exact this
def facts : List (Nat × List PV × PV) := [(31, [.agg (mrc m3)], .tup [.sl (bsl l3), .int .i64 0]), (31, [.agg (mrc m4)], .tup [.sl (bsl l4), .int .i64 0]), (32, [.agg (mrc m3)], .bool true), (32, [.agg (mrc m4)], .bool true), (35, [.sl (bsl l3), .int .i64 4], .tup [.agg (mrc m3), .int .i64 0]), (30, [.agg (mrc m3), .agg (adc a3)], .tup [.agg (mrc m4), .int .i64 0]), (67, [.str l3], .tup [.agg (mrc m3), .bool true])]
theorem facts_ok : ∀ p, p ∈ facts → U Tryd.prog p.1 p.2.1 p.2.2 := by
  intro p hp
  simp only [facts, List.mem_cons, List.not_mem_nil, or_false] at hp
  rcases hp with rfl | rfl | rfl | rfl | rfl | rfl | rfl
  · exact f1
  · exact f2
  · exact f3
  · exact f4
  · exact f5
  · exact f6
  · exact f7
theorem specM_ok : SpecOk Tryd.prog (factSpec facts specX) := factSpec_ok specX_ok facts facts_ok
def t3 : List UInt8 := [51, 32, 48, 58, 49, 58, 49, 32, 42, 32, 50, 50, 52, 46, 48, 46, 48, 46, 49, 32, 49, 48, 46, 48, 46, 48, 46, 49]
def t4 : List UInt8 := [52, 32, 91, 51, 32, 48, 58, 49, 58, 49, 32, 42, 32, 50, 50, 52, 46, 48, 46, 48, 46, 49, 32, 49, 48, 46, 48, 46, 48, 46, 49, 93, 32, 49, 48, 46, 48, 46, 48, 46, 50]
theorem g1 : U Tryd.prog 34 [.agg (mrc m3)] (.str t3) := U_kernelA (tab := vtabM) (ext := extX) (spec := factSpec facts specX) 200 40 [.agg (mrc m3)] (.str t3) vtabM_ok extX_ok specM_ok glob_cl (by kernel_rfl) (by kernel_rfl)
def facts2 : List (Nat × List PV × PV) := (34, [.agg (mrc m3)], .str t3) :: facts
theorem facts2_ok : ∀ p, p ∈ facts2 → U Tryd.prog p.1 p.2.1 p.2.2 := by
  intro p hp
  rcases List.mem_cons.1 hp with rfl | hp
  · exact g1
  · exact facts_ok p hp
theorem spec2_ok : SpecOk Tryd.prog (factSpec facts2 specX) := factSpec_ok specX_ok facts2 facts2_ok
theorem g2 : U Tryd.prog 34 [.agg (mrc m4)] (.str t4) := U_kernelA (tab := vtabM) (ext := extX) (spec := factSpec facts2 specX) 200 40 [.agg (mrc m4)] (.str t4) vtabM_ok extX_ok spec2_ok glob_cl (by kernel_rfl) (by kernel_rfl)
def facts3 : List (Nat × List PV × PV) := (34, [.agg (mrc m4)], .str t4) :: facts2
theorem facts3_ok : ∀ p, p ∈ facts3 → U Tryd.prog p.1 p.2.1 p.2.2 := by
  intro p hp
  rcases List.mem_cons.1 hp with rfl | hp
  · exact g2
  · exact facts2_ok p hp
theorem spec3_ok : SpecOk Tryd.prog (factSpec facts3 specX) := factSpec_ok specX_ok facts3 facts3_ok
theorem uSmallM : U Tryd.prog 28 [] (.bool true) := U_kernel (tab := vtabM) (ext := extX) (spec := factSpec facts3 specX) 200 40 (.bool true) vtabM_ok extX_ok spec3_ok glob_cl rfl (by kernel_rfl)
end Go.Proofs.YtdkjcadffhnjgaaDoor
