/- vinerylaw18.small: closed. -/
import Derived.Test.YtjhmobdncjhcnaaGreatDoorRF0
import Derived.Test.YtjhmobdncjhcnaaGreatDoorR9
import Derived.Test.YtjhmobdncjhcnaaGreatDoorR20
import Derived.Test.YtjhmobdncjhcnaaGreatDoorVJ
import Derived.Test.YtjhmobdncjhcnaaGreatDoorF6
import Derived.Test.YtjhmobdncjhcnaaGreatDoorF7
namespace Go.Proofs.YtjhmobdncjhcnaaGreatDoor
open Go Go.V
set_option maxRecDepth 10000
def r18 : Rt := ⟨4, 5, mI, (nm0, 0), w1, ⟨0, [], -1, 100, ad0, [], [[0, 2, 0, 1, 0, 0, 0, 1]], []⟩⟩
theorem rtT18 : rtT r18 = true := by
  unfold rtT
  rw [show r18.m = mI from rfl, show r18.size = 4 from rfl, show r18.safi = 5 from rfl, if_pos rfl, mI_one]; rfl
theorem rtR18 : rtR r18 = true := by
  unfold rtR
  rw [rtT18, show r18.safi = 5 from rfl, if_pos rfl, show r18.u = (nm0, 0) from rfl, eqUr_self]; rfl
theorem okR18 : okRib r18 :=
  ⟨⟨⟨rfl, rfl, rfl, rfl⟩, (by first | exact ⟨rfl, rfl⟩ | exact ⟨rfl, rfl, rfl⟩ | exact ⟨rfl⟩), rfl, ⟨rfl⟩⟩, fun _ h => (by cases h), fun _ h => (by cases h), fun _ h => (by cases h), by decide⟩
theorem n18 : U Tryz.prog 15 [.agg (rtC r18)] (.tup [.str (nameR r18), .bool true]) := by
  have := uName15 okR18
  rw [rtR18] at this; exact this
def vtabV : List (Nat × VFun) := [(18, vf18), (20, vf20), (22, vf22), (23, vf23), (30, vf30), (31, vf31), (41, vf41), (47, vf47), (48, vf48), (49, vf49), (50, vf50), (51, vf51), (54, vf54), (55, vf55), (56, vf56), (57, vf57), (58, vf58), (59, vf59), (60, vf60), (61, vf61), (62, vf62), (63, vf63), (64, vf64), (65, vf65), (66, vf66), (91, vf91), (100, vf100), (101, vf101), (102, vf102), (103, vf103), (105, vf105), (106, vf106), (107, vf107), (108, vf108), (109, vf109), (110, vf110), (112, vf112), (113, vf113), (114, vf114), (115, vf115), (116, vf116), (117, vf117), (118, vf118), (148, vf148), (149, vf149), (150, vf150), (152, vf152), (154, vf154), (155, vf155), (156, vf156), (157, vf157), (163, vf163), (192, vf192), (193, vf193), (194, vf194), (195, vf195), (214, vf214), (218, vf218), (244, vf244), (245, vf245), (259, vf259)]
theorem vtabV_ok : TabOk Tryz.prog vtabV := (TabOk.cons ⟨_, rawF, Tryz.func18, cf18⟩ (TabOk.cons ⟨_, rawF, Tryz.func20, cf20⟩ (TabOk.cons ⟨_, rawF, Tryz.func22, cf22⟩ (TabOk.cons ⟨_, rawF, Tryz.func23, cf23⟩ (TabOk.cons ⟨_, rawF, Tryz.func30, cf30⟩ (TabOk.cons ⟨_, rawF, Tryz.func31, cf31⟩ (TabOk.cons ⟨_, rawF, Tryz.func41, cf41⟩ (TabOk.cons ⟨_, rawF, Tryz.func47, cf47⟩ (TabOk.cons ⟨_, rawF, Tryz.func48, cf48⟩ (TabOk.cons ⟨_, rawF, Tryz.func49, cf49⟩ (TabOk.cons ⟨_, rawF, Tryz.func50, cf50⟩ (TabOk.cons ⟨_, rawF, Tryz.func51, cf51⟩ (TabOk.cons ⟨_, rawF, Tryz.func54, cf54⟩ (TabOk.cons ⟨_, rawF, Tryz.func55, cf55⟩ (TabOk.cons ⟨_, rawF, Tryz.func56, cf56⟩ (TabOk.cons ⟨_, rawF, Tryz.func57, cf57⟩ (TabOk.cons ⟨_, rawF, Tryz.func58, cf58⟩ (TabOk.cons ⟨_, rawF, Tryz.func59, cf59⟩ (TabOk.cons ⟨_, rawF, Tryz.func60, cf60⟩ (TabOk.cons ⟨_, rawF, Tryz.func61, cf61⟩ (TabOk.cons ⟨_, rawF, Tryz.func62, cf62⟩ (TabOk.cons ⟨_, rawF, Tryz.func63, cf63⟩ (TabOk.cons ⟨_, rawF, Tryz.func64, cf64⟩ (TabOk.cons ⟨_, rawF, Tryz.func65, cf65⟩ (TabOk.cons ⟨_, rawF, Tryz.func66, cf66⟩ (TabOk.cons ⟨_, rawF, Tryz.func91, cf91⟩ (TabOk.cons ⟨_, rawF, Tryz.func100, cf100⟩ (TabOk.cons ⟨_, rawF, Tryz.func101, cf101⟩ (TabOk.cons ⟨_, rawF, Tryz.func102, cf102⟩ (TabOk.cons ⟨_, rawF, Tryz.func103, cf103⟩ (TabOk.cons ⟨_, rawF, Tryz.func105, cf105⟩ (TabOk.cons ⟨_, rawF, Tryz.func106, cf106⟩ (TabOk.cons ⟨_, rawF, Tryz.func107, cf107⟩ (TabOk.cons ⟨_, rawF, Tryz.func108, cf108⟩ (TabOk.cons ⟨_, rawF, Tryz.func109, cf109⟩ (TabOk.cons ⟨_, rawF, Tryz.func110, cf110⟩ (TabOk.cons ⟨_, rawF, Tryz.func112, cf112⟩ (TabOk.cons ⟨_, rawF, Tryz.func113, cf113⟩ (TabOk.cons ⟨_, rawF, Tryz.func114, cf114⟩ (TabOk.cons ⟨_, rawF, Tryz.func115, cf115⟩ (TabOk.cons ⟨_, rawF, Tryz.func116, cf116⟩ (TabOk.cons ⟨_, rawF, Tryz.func117, cf117⟩ (TabOk.cons ⟨_, rawF, Tryz.func118, cf118⟩ (TabOk.cons ⟨_, rawF, Tryz.func148, cf148⟩ (TabOk.cons ⟨_, rawF, Tryz.func149, cf149⟩ (TabOk.cons ⟨_, rawF, Tryz.func150, cf150⟩ (TabOk.cons ⟨_, rawF, Tryz.func152, cf152⟩ (TabOk.cons ⟨_, rawF, Tryz.func154, cf154⟩ (TabOk.cons ⟨_, rawF, Tryz.func155, cf155⟩ (TabOk.cons ⟨_, rawF, Tryz.func156, cf156⟩ (TabOk.cons ⟨_, rawF, Tryz.func157, cf157⟩ (TabOk.cons ⟨_, rawF, Tryz.func163, cf163⟩ (TabOk.cons ⟨_, rawF, Tryz.func192, cf192⟩ (TabOk.cons ⟨_, rawF, Tryz.func193, cf193⟩ (TabOk.cons ⟨_, rawF, Tryz.func194, cf194⟩ (TabOk.cons ⟨_, rawF, Tryz.func195, cf195⟩ (TabOk.cons ⟨_, rawF, Tryz.func214, cf214⟩ (TabOk.cons ⟨_, rawF, Tryz.func218, cf218⟩ (TabOk.cons ⟨_, rawF, Tryz.func244, cf244⟩ (TabOk.cons ⟨_, rawF, Tryz.func245, cf245⟩ (TabOk.cons ⟨_, rawF, Tryz.func259, cf259⟩ TabOk.nil)))))))))))))))))))))))))))))))))))))))))))))))))))))))))))))
def closK : List Nat := [52, 60, 66, 117, 154]
theorem closK_ok : ∀ f, f ∈ closK → callOk Tryz.prog f = true := by
  intro f hf
  simp only [closK, List.mem_cons, List.not_mem_nil, or_false] at hf
  rcases hf with rfl | rfl | rfl | rfl | rfl <;> kernel_rfl
def rt18 (n : UInt8) : List UInt8 := [0, 2, 0, 1, 0, 0, 0, n]
def tb18 : Vr := ⟨[97], 3, [0, 0, 0, 1, 0, 0, 0, 3], [rt18 1], [rt18 1], ad0, []⟩
theorem tb18_ok : okVrf tb18 := ⟨⟨rfl, rfl⟩, (by show (1 : Nat) ≤ _; decide), fun e h => (by rw [List.mem_singleton.1 (h : e ∈ [rt18 1])]; rfl), fun e h => (by rw [List.mem_singleton.1 (h : e ∈ [rt18 1])]; rfl), fun _ h => (by cases h)⟩
theorem vrR18 : vrR tb18 = true := by kernel_rfl
theorem right18 : U Tryz.prog 23 [.agg (vrC tb18)] (.bool true) := by
  have h := uVrR tb18_ok
  rw [vrR18] at h; exact h
theorem text18 : U Tryz.prog 49 [.agg (u8c [1, 2, 10, 0, 0, 1, 0, 3])] (.str [114, 116, 58, 49, 58, 49, 48, 46, 48, 46, 48, 46, 49, 58, 51]) :=
  U_kernelA (tab := vtabV) (ext := extK closK) (spec := specX) 100 20 _ _ vtabV_ok (extK_ok closK_ok) specX_ok glob_cl rfl (by kernel_rfl)
theorem cl18 : U Tryz.prog 114 [.sl []] (.sl []) := uClA (es := []) (fun e h => by cases h) (by decide)
def factsV : List (Nat × List PV × PV) := [(49, [.agg (u8c [1, 2, 10, 0, 0, 1, 0, 3])], .str [114, 116, 58, 49, 58, 49, 48, 46, 48, 46, 48, 46, 49, 58, 51]), (23, [.agg (vrC tb18)], .bool true), (114, [.sl []], .sl []), (15, [.agg (rtC r18)], .tup [.str (nameR r18), .bool true])]
theorem factsV_ok : ∀ p, p ∈ factsV → U Tryz.prog p.1 p.2.1 p.2.2 := by
  intro p hp
  simp only [factsV, List.mem_cons, List.not_mem_nil, or_false] at hp
  rcases hp with rfl | rfl | rfl | rfl
  · exact text18
  · exact right18
  · exact cl18
  · exact n18
theorem specV_ok : SpecOk Tryz.prog (factSpec factsV specX) := factSpec_ok specX_ok factsV factsV_ok
theorem uSmall18 : U Tryz.prog 18 [] (.bool true) := U_kernel (tab := vtabV) (ext := extK closK) (spec := factSpec factsV specX) 100 20 (.bool true) vtabV_ok (extK_ok closK_ok) specV_ok glob_cl rfl (by kernel_rfl)
end Go.Proofs.YtjhmobdncjhcnaaGreatDoor
