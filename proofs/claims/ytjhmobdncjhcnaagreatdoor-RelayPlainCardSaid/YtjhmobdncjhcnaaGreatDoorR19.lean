/- vinerylaw17.small: what it calls, closed. -/
import Derived.Test.YtjhmobdncjhcnaaGreatDoorR14
import Derived.Test.YtjhmobdncjhcnaaGreatDoorF3
import Derived.Test.YtjhmobdncjhcnaaGreatDoorF4
import Derived.Test.YtjhmobdncjhcnaaGreatDoorF5
import Derived.Test.YtjhmobdncjhcnaaGreatDoorGC
import Derived.Test.YtjhmobdncjhcnaaGreatDoorR17
namespace Go.Proofs.YtjhmobdncjhcnaaGreatDoor
open Go Go.V
set_option maxRecDepth 10000
def ip4 (a b c d : UInt8) : Ad := ⟨4, [a, b, c, d, 0, 0, 0, 0, 0, 0, 0, 0, 0, 0, 0, 0]⟩
def w1 : Ad := ip4 10 0 0 1
def w2 : Ad := ip4 10 0 0 2
def w9 : Ad := ip4 10 0 0 9
def mI : Mr := ⟨1, [0, 0, 0, 1, 0, 0, 0, 1], 0, ad0, ad0, w1, []⟩
def r0 : Rt := ⟨4, 5, mI, (nm0, 0), w1, ⟨0, [], -1, 100, ad0, [], [], []⟩⟩
def r1 : Rt := ⟨4, 5, mI, (nm0, 0), w1, ⟨0, [], -1, 100, w1, [w9], [], []⟩⟩
def c0 : Ch := ⟨r0, 1, w1⟩
theorem mI_p : RightP mI := ⟨rfl, rfl, by decide, by decide, fun _ => rfl, fun h => by revert h; decide⟩
theorem mI_right : rightF mI = true := rightG_of mI_p (fun h => by cases h)
theorem mI_size : szF 4 mI = true := by
  unfold szF sizedG
  rw [show sizeOk mI 4 = true from rfl, show decide (mI.k ≠ 4) = true from rfl]; rfl
theorem mI_one : mOne mI 4 = true := by unfold mOne; rw [mI_right, mI_size]; rfl
theorem rtT0 : rtT r0 = true := by
  unfold rtT
  rw [show r0.m = mI from rfl, show r0.size = 4 from rfl, show r0.safi = 5 from rfl, if_pos rfl, mI_one]; rfl
theorem rtT1 : rtT r1 = true := by
  unfold rtT
  rw [show r1.m = mI from rfl, show r1.size = 4 from rfl, show r1.safi = 5 from rfl, if_pos rfl, mI_one]; rfl
theorem rtR0 : rtR r0 = true := by
  unfold rtR
  rw [rtT0, show r0.safi = 5 from rfl, if_pos rfl, show r0.u = (nm0, 0) from rfl, eqUr_self]; rfl
theorem rtR1 : rtR r1 = true := by
  unfold rtR
  rw [rtT1, show r1.safi = 5 from rfl, if_pos rfl, show r1.u = (nm0, 0) from rfl, eqUr_self]; rfl
theorem tells1 : tellsF w9 true c0 1 0 2 w2 = (r1, true) := by
  have e : clR w9 (origR c0) = r1 := rfl
  unfold tellsF
  rw [show c0.route = r0 from rfl, rtR0, if_neg (by decide), if_neg (by decide), if_neg (by decide)]
  unfold passF
  rw [e, if_pos ⟨rtR1, by decide⟩]
theorem tells2 : tellsF w9 true c0 0 0 2 w2 = (rt0, false) := by
  unfold tellsF
  rw [show c0.route = r0 from rfl, rtR0, if_neg (by decide), if_neg (by decide), if_pos (by decide)]
theorem takes1 : takesF 65000 w9 ad0 r0 = true := by
  unfold takesF; rw [rtR0]; rfl
theorem takes2 : takesF 65000 w9 w9 r1 = false := by
  unfold takesF; rw [rtR1]; rfl
theorem okR0 : okRib r0 :=
  ⟨⟨⟨rfl, rfl, rfl, rfl⟩, (by first | exact ⟨rfl, rfl⟩ | exact ⟨rfl, rfl, rfl⟩ | exact ⟨rfl⟩), rfl, ⟨rfl⟩⟩, fun _ h => (by cases h), fun _ h => (by cases h), fun _ h => (by cases h), by decide⟩
theorem okR1 : okRib r1 :=
  ⟨⟨⟨rfl, rfl, rfl, rfl⟩, okR0.ok.u, rfl, ⟨rfl⟩⟩, fun c h => (by rw [List.mem_singleton.1 (h : c ∈ [w9])]; rfl), fun _ h => (by cases h), fun _ h => (by cases h), by decide⟩
theorem s1 : U Tryz.prog 13 [.agg (adc w9), .bool true, .agg (chC c0), .int .i64 1, .int .i64 0, .int .i64 2, .agg (adc w2)] (.tup [.agg (rtC r1), .bool true]) := by
  have := uTells (k := w9) (o := w2) (c := c0) (fl := true) (fr := 1) (to := 0) (peer := 2) rfl rfl okR0 (fun _ h => by cases h) rfl
  rw [tells1] at this; exact this
theorem s2 : U Tryz.prog 13 [.agg (adc w9), .bool true, .agg (chC c0), .int .i64 0, .int .i64 0, .int .i64 2, .agg (adc w2)] (.tup [.agg (rtC rt0), .bool false]) := by
  have := uTells (k := w9) (o := w2) (c := c0) (fl := true) (fr := 0) (to := 0) (peer := 2) rfl rfl okR0 (fun _ h => by cases h) rfl
  rw [tells2] at this; exact this
theorem s3 : U Tryz.prog 16 [.int .i64 65000, .agg (adc w9), .agg (adc ad0), .agg (rtC r0)] (.bool true) := by
  have := uTakes (v := 65000) (id := w9) (cl := ad0) okR0 rfl rfl
  rw [takes1] at this; exact this
theorem s4 : U Tryz.prog 16 [.int .i64 65000, .agg (adc w9), .agg (adc w9), .agg (rtC r1)] (.bool false) := by
  have := uTakes (v := 65000) (id := w9) (cl := w9) okR1 rfl rfl
  rw [takes2] at this; exact this
def vtabS : List (Nat × VFun) := [(238, vf238), (239, vf239), (254, vf254), (207, vf207), (209, vf209), (255, vf255), (256, vf256), (56, vf56), (58, vf58), (221, vf221), (222, vf222), (257, vf257), (150, vf150), (116, vf116), (188, vf188), (261, vf261), (72, vf72), (74, vf74), (73, vf73), (126, vf126), (57, vf57), (122, vf122), (101, vf101), (103, vf103), (111, vf111), (112, vf112), (124, vf124), (121, vf121), (54, vf54), (65, vf65), (164, vf164), (62, vf62), (148, vf148), (152, vf152), (165, vf165), (108, vf108), (115, vf115), (192, vf192), (193, vf193), (194, vf194), (125, vf125), (156, vf156), (157, vf157), (166, vf166), (31, vf31), (195, vf195), (218, vf218), (214, vf214), (244, vf244), (245, vf245), (259, vf259), (144, vf144), (184, vf184), (185, vf185), (186, vf186), (145, vf145), (187, vf187), (143, vf143), (90, vf90), (246, vf246), (247, vf247), (223, vf223), (224, vf224), (201, vf201), (171, vf171), (208, vf208), (206, vf206), (89, vf89), (39, vf39), (40, vf40), (15, vf15), (88, vf88), (128, vf128), (133, vf133), (137, vf137), (138, vf138), (139, vf139), (180, vf180), (140, vf140), (141, vf141), (142, vf142), (174, vf174), (175, vf175), (91, vf91), (41, vf41), (176, vf176), (177, vf177), (204, vf204), (178, vf178), (179, vf179), (205, vf205), (236, vf236), (253, vf253), (237, vf237), (43, vf43), (92, vf92), (181, vf181), (182, vf182), (183, vf183), (210, vf210), (211, vf211), (34, vf34), (36, vf36), (12, vf12), (33, vf33), (13, vf13), (35, vf35), (37, vf37), (84, vf84), (127, vf127), (113, vf113), (114, vf114), (167, vf167), (168, vf168), (169, vf169), (170, vf170), (16, vf16), (42, vf42), (44, vf44), (45, vf45), (93, vf93), (32, vf32), (14, vf14), (38, vf38), (85, vf85), (86, vf86), (87, vf87), (136, vf136), (17, vf17), (46, vf46), (94, vf94), (95, vf95), (96, vf96), (97, vf97), (98, vf98), (99, vf99), (146, vf146), (147, vf147), (30, vf30), (11, vf11), (3, vf3), (4, vf4), (5, vf5)]
theorem vtabS_ok : TabOk Tryz.prog vtabS := (TabOk.cons ⟨_, rawF, Tryz.func238, cf238⟩ (TabOk.cons ⟨_, rawF, Tryz.func239, cf239⟩ (TabOk.cons ⟨_, rawF, Tryz.func254, cf254⟩ (TabOk.cons ⟨_, rawF, Tryz.func207, cf207⟩ (TabOk.cons ⟨_, rawF, Tryz.func209, cf209⟩ (TabOk.cons ⟨_, rawF, Tryz.func255, cf255⟩ (TabOk.cons ⟨_, rawF, Tryz.func256, cf256⟩ (TabOk.cons ⟨_, rawF, Tryz.func56, cf56⟩ (TabOk.cons ⟨_, rawF, Tryz.func58, cf58⟩ (TabOk.cons ⟨_, rawF, Tryz.func221, cf221⟩ (TabOk.cons ⟨_, rawF, Tryz.func222, cf222⟩ (TabOk.cons ⟨_, rawF, Tryz.func257, cf257⟩ (TabOk.cons ⟨_, rawF, Tryz.func150, cf150⟩ (TabOk.cons ⟨_, rawF, Tryz.func116, cf116⟩ (TabOk.cons ⟨_, rawF, Tryz.func188, cf188⟩ (TabOk.cons ⟨_, rawF, Tryz.func261, cf261⟩ (TabOk.cons ⟨_, rawF, Tryz.func72, cf72⟩ (TabOk.cons ⟨_, rawF, Tryz.func74, cf74⟩ (TabOk.cons ⟨_, rawF, Tryz.func73, cf73⟩ (TabOk.cons ⟨_, rawF, Tryz.func126, cf126⟩ (TabOk.cons ⟨_, rawF, Tryz.func57, cf57⟩ (TabOk.cons ⟨_, rawF, Tryz.func122, cf122⟩ (TabOk.cons ⟨_, rawF, Tryz.func101, cf101⟩ (TabOk.cons ⟨_, rawF, Tryz.func103, cf103⟩ (TabOk.cons ⟨_, rawF, Tryz.func111, cf111⟩ (TabOk.cons ⟨_, rawF, Tryz.func112, cf112⟩ (TabOk.cons ⟨_, rawF, Tryz.func124, cf124⟩ (TabOk.cons ⟨_, rawF, Tryz.func121, cf121⟩ (TabOk.cons ⟨_, rawF, Tryz.func54, cf54⟩ (TabOk.cons ⟨_, rawF, Tryz.func65, cf65⟩ (TabOk.cons ⟨_, rawF, Tryz.func164, cf164⟩ (TabOk.cons ⟨_, rawF, Tryz.func62, cf62⟩ (TabOk.cons ⟨_, rawF, Tryz.func148, cf148⟩ (TabOk.cons ⟨_, rawF, Tryz.func152, cf152⟩ (TabOk.cons ⟨_, rawF, Tryz.func165, cf165⟩ (TabOk.cons ⟨_, rawF, Tryz.func108, cf108⟩ (TabOk.cons ⟨_, rawF, Tryz.func115, cf115⟩ (TabOk.cons ⟨_, rawF, Tryz.func192, cf192⟩ (TabOk.cons ⟨_, rawF, Tryz.func193, cf193⟩ (TabOk.cons ⟨_, rawF, Tryz.func194, cf194⟩ (TabOk.cons ⟨_, rawF, Tryz.func125, cf125⟩ (TabOk.cons ⟨_, rawF, Tryz.func156, cf156⟩ (TabOk.cons ⟨_, rawF, Tryz.func157, cf157⟩ (TabOk.cons ⟨_, rawF, Tryz.func166, cf166⟩ (TabOk.cons ⟨_, rawF, Tryz.func31, cf31⟩ (TabOk.cons ⟨_, rawF, Tryz.func195, cf195⟩ (TabOk.cons ⟨_, rawF, Tryz.func218, cf218⟩ (TabOk.cons ⟨_, rawF, Tryz.func214, cf214⟩ (TabOk.cons ⟨_, rawF, Tryz.func244, cf244⟩ (TabOk.cons ⟨_, rawF, Tryz.func245, cf245⟩ (TabOk.cons ⟨_, rawF, Tryz.func259, cf259⟩ (TabOk.cons ⟨_, rawF, Tryz.func144, cf144⟩ (TabOk.cons ⟨_, rawF, Tryz.func184, cf184⟩ (TabOk.cons ⟨_, rawF, Tryz.func185, cf185⟩ (TabOk.cons ⟨_, rawF, Tryz.func186, cf186⟩ (TabOk.cons ⟨_, rawF, Tryz.func145, cf145⟩ (TabOk.cons ⟨_, rawF, Tryz.func187, cf187⟩ (TabOk.cons ⟨_, rawF, Tryz.func143, cf143⟩ (TabOk.cons ⟨_, rawF, Tryz.func90, cf90⟩ (TabOk.cons ⟨_, rawF, Tryz.func246, cf246⟩ (TabOk.cons ⟨_, rawF, Tryz.func247, cf247⟩ (TabOk.cons ⟨_, rawF, Tryz.func223, cf223⟩ (TabOk.cons ⟨_, rawF, Tryz.func224, cf224⟩ (TabOk.cons ⟨_, rawF, Tryz.func201, cf201⟩ (TabOk.cons ⟨_, rawF, Tryz.func171, cf171⟩ (TabOk.cons ⟨_, rawF, Tryz.func208, cf208⟩ (TabOk.cons ⟨_, rawF, Tryz.func206, cf206⟩ (TabOk.cons ⟨_, rawF, Tryz.func89, cf89⟩ (TabOk.cons ⟨_, rawF, Tryz.func39, cf39⟩ (TabOk.cons ⟨_, rawF, Tryz.func40, cf40⟩ (TabOk.cons ⟨_, rawF, Tryz.func15, cf15⟩ (TabOk.cons ⟨_, rawF, Tryz.func88, cf88⟩ (TabOk.cons ⟨_, rawF, Tryz.func128, cf128⟩ (TabOk.cons ⟨_, rawF, Tryz.func133, cf133⟩ (TabOk.cons ⟨_, rawF, Tryz.func137, cf137⟩ (TabOk.cons ⟨_, rawF, Tryz.func138, cf138⟩ (TabOk.cons ⟨_, rawF, Tryz.func139, cf139⟩ (TabOk.cons ⟨_, rawF, Tryz.func180, cf180⟩ (TabOk.cons ⟨_, rawF, Tryz.func140, cf140⟩ (TabOk.cons ⟨_, rawF, Tryz.func141, cf141⟩ (TabOk.cons ⟨_, rawF, Tryz.func142, cf142⟩ (TabOk.cons ⟨_, rawF, Tryz.func174, cf174⟩ (TabOk.cons ⟨_, rawF, Tryz.func175, cf175⟩ (TabOk.cons ⟨_, rawF, Tryz.func91, cf91⟩ (TabOk.cons ⟨_, rawF, Tryz.func41, cf41⟩ (TabOk.cons ⟨_, rawF, Tryz.func176, cf176⟩ (TabOk.cons ⟨_, rawF, Tryz.func177, cf177⟩ (TabOk.cons ⟨_, rawF, Tryz.func204, cf204⟩ (TabOk.cons ⟨_, rawF, Tryz.func178, cf178⟩ (TabOk.cons ⟨_, rawF, Tryz.func179, cf179⟩ (TabOk.cons ⟨_, rawF, Tryz.func205, cf205⟩ (TabOk.cons ⟨_, rawF, Tryz.func236, cf236⟩ (TabOk.cons ⟨_, rawF, Tryz.func253, cf253⟩ (TabOk.cons ⟨_, rawF, Tryz.func237, cf237⟩ (TabOk.cons ⟨_, rawF, Tryz.func43, cf43⟩ (TabOk.cons ⟨_, rawF, Tryz.func92, cf92⟩ (TabOk.cons ⟨_, rawF, Tryz.func181, cf181⟩ (TabOk.cons ⟨_, rawF, Tryz.func182, cf182⟩ (TabOk.cons ⟨_, rawF, Tryz.func183, cf183⟩ (TabOk.cons ⟨_, rawF, Tryz.func210, cf210⟩ (TabOk.cons ⟨_, rawF, Tryz.func211, cf211⟩ (TabOk.cons ⟨_, rawF, Tryz.func34, cf34⟩ (TabOk.cons ⟨_, rawF, Tryz.func36, cf36⟩ (TabOk.cons ⟨_, rawF, Tryz.func12, cf12⟩ (TabOk.cons ⟨_, rawF, Tryz.func33, cf33⟩ (TabOk.cons ⟨_, rawF, Tryz.func13, cf13⟩ (TabOk.cons ⟨_, rawF, Tryz.func35, cf35⟩ (TabOk.cons ⟨_, rawF, Tryz.func37, cf37⟩ (TabOk.cons ⟨_, rawF, Tryz.func84, cf84⟩ (TabOk.cons ⟨_, rawF, Tryz.func127, cf127⟩ (TabOk.cons ⟨_, rawF, Tryz.func113, cf113⟩ (TabOk.cons ⟨_, rawF, Tryz.func114, cf114⟩ (TabOk.cons ⟨_, rawF, Tryz.func167, cf167⟩ (TabOk.cons ⟨_, rawF, Tryz.func168, cf168⟩ (TabOk.cons ⟨_, rawF, Tryz.func169, cf169⟩ (TabOk.cons ⟨_, rawF, Tryz.func170, cf170⟩ (TabOk.cons ⟨_, rawF, Tryz.func16, cf16⟩ (TabOk.cons ⟨_, rawF, Tryz.func42, cf42⟩ (TabOk.cons ⟨_, rawF, Tryz.func44, cf44⟩ (TabOk.cons ⟨_, rawF, Tryz.func45, cf45⟩ (TabOk.cons ⟨_, rawF, Tryz.func93, cf93⟩ (TabOk.cons ⟨_, rawF, Tryz.func32, cf32⟩ (TabOk.cons ⟨_, rawF, Tryz.func14, cf14⟩ (TabOk.cons ⟨_, rawF, Tryz.func38, cf38⟩ (TabOk.cons ⟨_, rawF, Tryz.func85, cf85⟩ (TabOk.cons ⟨_, rawF, Tryz.func86, cf86⟩ (TabOk.cons ⟨_, rawF, Tryz.func87, cf87⟩ (TabOk.cons ⟨_, rawF, Tryz.func136, cf136⟩ (TabOk.cons ⟨_, rawF, Tryz.func17, cf17⟩ (TabOk.cons ⟨_, rawF, Tryz.func46, cf46⟩ (TabOk.cons ⟨_, rawF, Tryz.func94, cf94⟩ (TabOk.cons ⟨_, rawF, Tryz.func95, cf95⟩ (TabOk.cons ⟨_, rawF, Tryz.func96, cf96⟩ (TabOk.cons ⟨_, rawF, Tryz.func97, cf97⟩ (TabOk.cons ⟨_, rawF, Tryz.func98, cf98⟩ (TabOk.cons ⟨_, rawF, Tryz.func99, cf99⟩ (TabOk.cons ⟨_, rawF, Tryz.func146, cf146⟩ (TabOk.cons ⟨_, rawF, Tryz.func147, cf147⟩ (TabOk.cons ⟨_, rawF, Tryz.func30, cf30⟩ (TabOk.cons ⟨_, rawF, Tryz.func11, cf11⟩ (TabOk.cons ⟨_, rawF, Tryz.func3, cf3⟩ (TabOk.cons ⟨_, rawF, Tryz.func4, cf4⟩ (TabOk.cons ⟨_, rawF, Tryz.func5, cf5⟩ TabOk.nil)))))))))))))))))))))))))))))))))))))))))))))))))))))))))))))))))))))))))))))))))))))))))))))))))))))))))))))))))))))))))))))))))))))))))))))))
def factSpec : List (Nat × List PV × PV) → XE → XE
  | [], e => e
  | (f, a, r) :: l, e => fun g args => cond (Nat.beq g f) (cond (eqL (eqPV 9) a args) (some r) (factSpec l e g args)) (factSpec l e g args)
theorem factSpec_ok {e : XE} (he : SpecOk Tryz.prog e) : ∀ (l : List (Nat × List PV × PV)), (∀ p, p ∈ l → U Tryz.prog p.1 p.2.1 p.2.2) → SpecOk Tryz.prog (factSpec l e)
  | [], _ => he
  | (f, a, r) :: l, h => by
    have ih := factSpec_ok he l fun p hp => h p (List.mem_cons_of_mem _ hp)
    have h0 := h (f, a, r) List.mem_cons_self
    intro g args v hv
    unfold factSpec at hv
    cases e1 : Nat.beq g f with
    | false => rw [e1] at hv; exact ih g args v hv
    | true =>
      rw [e1] at hv; have e1 := Nat.eq_of_beq_eq_true e1; subst e1
      dsimp only [cond] at hv
      cases e2 : eqL (eqPV 9) a args with
      | false => rw [e2] at hv; exact ih g args v hv
      | true =>
        rw [e2] at hv
        dsimp only at hv
        cases hv
        rw [← eqL_ok (eqPV_ok 9) _ _ e2]; exact h0
def factsS : List (Nat × List PV × PV) := [(13, [.agg (adc w9), .bool true, .agg (chC c0), .int .i64 1, .int .i64 0, .int .i64 2, .agg (adc w2)], .tup [.agg (rtC r1), .bool true]), (13, [.agg (adc w9), .bool true, .agg (chC c0), .int .i64 0, .int .i64 0, .int .i64 2, .agg (adc w2)], .tup [.agg (rtC rt0), .bool false]), (16, [.int .i64 65000, .agg (adc w9), .agg (adc ad0), .agg (rtC r0)], .bool true), (16, [.int .i64 65000, .agg (adc w9), .agg (adc w9), .agg (rtC r1)], .bool false)]
theorem factsS_ok : ∀ p, p ∈ factsS → U Tryz.prog p.1 p.2.1 p.2.2 := by
  intro p hp
  simp only [factsS, List.mem_cons, List.not_mem_nil, or_false] at hp
  rcases hp with rfl | rfl | rfl | rfl
  · exact s1
  · exact s2
  · exact s3
  · exact s4
theorem specS_ok : SpecOk Tryz.prog (factSpec factsS specX) := factSpec_ok specX_ok factsS factsS_ok
theorem uSmall17 : U Tryz.prog 11 [] (.bool true) := U_kernel (tab := vtabS) (ext := extX) (spec := factSpec factsS specX) 100 20 (.bool true) vtabS_ok extX_ok specS_ok glob_cl rfl (by kernel_rfl)
end Go.Proofs.YtjhmobdncjhcnaaGreatDoor
