/- vinerylaw19.small: closed. -/
import Derived.Test.YtjhmobdncjhcnaaGreatDoorRF0
import Derived.Test.YtjhmobdncjhcnaaGreatDoorR31a
import Derived.Test.YtjhmobdncjhcnaaGreatDoorVJ
import Derived.Test.YtjhmobdncjhcnaaGreatDoorR27
import Derived.Test.YtjhmobdncjhcnaaGreatDoorF5a
import Derived.Test.YtjhmobdncjhcnaaGreatDoorF6
import Derived.Test.YtjhmobdncjhcnaaGreatDoorF7
import Derived.Test.YtjhmobdncjhcnaaGreatDoorF8
namespace Go.Proofs.YtjhmobdncjhcnaaGreatDoor
open Go Go.V
set_option maxRecDepth 10000
def w19_0 : Rt := ⟨4, 128, mr0, (⟨[0, 0, 0, 1, 0, 0, 0, 3], 4, [10, 1, 0, 0, 0, 0, 0, 0, 0, 0, 0, 0, 0, 0, 0, 0], 16⟩, 16), ip4 10 0 0 1, ⟨0, [], -1, 100, ad0, [], [[0, 2, 0, 1, 0, 0, 0, 1], [1, 11, 10, 0, 0, 1, 0, 3], [2, 9, 0, 0, 253, 232, 0, 0]], []⟩⟩
theorem rtR19_0 : rtR w19_0 = true := by kernel_rfl
theorem okR19_0 : okRib w19_0 :=
  ⟨⟨⟨rfl, rfl, rfl, rfl⟩, (by first | exact ⟨rfl, rfl⟩ | exact ⟨rfl, rfl, rfl⟩ | exact ⟨rfl⟩), rfl, ⟨rfl⟩⟩, fun _ h => (by cases h), fun _ h => (by cases h), fun _ h => (by cases h), by decide⟩
theorem n19_0 : U Tryz.prog 15 [.agg (rtC w19_0)] (.tup [.str (nameR w19_0), .bool true]) := by
  have := uName15 okR19_0
  rw [rtR19_0] at this; exact this
def w19_1 : Rt := ⟨4, 128, mr0, (⟨[0, 0, 0, 1, 0, 0, 0, 3], 4, [10, 1, 0, 0, 0, 0, 0, 0, 0, 0, 0, 0, 0, 0, 0, 0], 24⟩, 16), ip4 10 0 0 2, ⟨0, [], -1, 100, ad0, [], [[0, 2, 0, 1, 0, 0, 0, 1], [1, 11, 10, 0, 0, 2, 0, 3], [2, 9, 0, 0, 253, 232, 0, 0]], []⟩⟩
theorem rtR19_1 : rtR w19_1 = true := by kernel_rfl
theorem okR19_1 : okRib w19_1 :=
  ⟨⟨⟨rfl, rfl, rfl, rfl⟩, (by first | exact ⟨rfl, rfl⟩ | exact ⟨rfl, rfl, rfl⟩ | exact ⟨rfl⟩), rfl, ⟨rfl⟩⟩, fun _ h => (by cases h), fun _ h => (by cases h), fun _ h => (by cases h), by decide⟩
theorem n19_1 : U Tryz.prog 15 [.agg (rtC w19_1)] (.tup [.str (nameR w19_1), .bool true]) := by
  have := uName15 okR19_1
  rw [rtR19_1] at this; exact this
def w19_2 : Rt := ⟨4, 128, mr0, (⟨[0, 0, 0, 1, 0, 0, 0, 3], 4, [10, 1, 0, 0, 0, 0, 0, 0, 0, 0, 0, 0, 0, 0, 0, 0], 24⟩, 16), ip4 10 0 0 4, ⟨0, [], -1, 100, ad0, [], [[0, 2, 0, 1, 0, 0, 0, 2], [1, 11, 10, 0, 0, 4, 0, 3], [2, 9, 0, 0, 253, 232, 0, 0]], []⟩⟩
theorem rtR19_2 : rtR w19_2 = true := by kernel_rfl
theorem okR19_2 : okRib w19_2 :=
  ⟨⟨⟨rfl, rfl, rfl, rfl⟩, (by first | exact ⟨rfl, rfl⟩ | exact ⟨rfl, rfl, rfl⟩ | exact ⟨rfl⟩), rfl, ⟨rfl⟩⟩, fun _ h => (by cases h), fun _ h => (by cases h), fun _ h => (by cases h), by decide⟩
theorem n19_2 : U Tryz.prog 15 [.agg (rtC w19_2)] (.tup [.str (nameR w19_2), .bool true]) := by
  have := uName15 okR19_2
  rw [rtR19_2] at this; exact this
theorem has19_00 : U Tryz.prog 76 [.agg (pfC ⟨⟨4, [10, 1, 0, 0, 0, 0, 0, 0, 0, 0, 0, 0, 0, 0, 0, 0]⟩, 16⟩), .agg (adc (ip4 10 1 0 1))] (.bool true) := by
  have h := uHas (p := ⟨⟨4, [10, 1, 0, 0, 0, 0, 0, 0, 0, 0, 0, 0, 0, 0, 0, 0]⟩, 16⟩) (a := ip4 10 1 0 1) ⟨rfl⟩ rfl
  rw [show hasF ⟨⟨4, [10, 1, 0, 0, 0, 0, 0, 0, 0, 0, 0, 0, 0, 0, 0, 0]⟩, 16⟩ (ip4 10 1 0 1) = true by kernel_rfl] at h; exact h
theorem has19_01 : U Tryz.prog 76 [.agg (pfC ⟨⟨4, [10, 1, 0, 0, 0, 0, 0, 0, 0, 0, 0, 0, 0, 0, 0, 0]⟩, 16⟩), .agg (adc (ip4 10 1 9 1))] (.bool true) := by
  have h := uHas (p := ⟨⟨4, [10, 1, 0, 0, 0, 0, 0, 0, 0, 0, 0, 0, 0, 0, 0, 0]⟩, 16⟩) (a := ip4 10 1 9 1) ⟨rfl⟩ rfl
  rw [show hasF ⟨⟨4, [10, 1, 0, 0, 0, 0, 0, 0, 0, 0, 0, 0, 0, 0, 0, 0]⟩, 16⟩ (ip4 10 1 9 1) = true by kernel_rfl] at h; exact h
theorem has19_02 : U Tryz.prog 76 [.agg (pfC ⟨⟨4, [10, 1, 0, 0, 0, 0, 0, 0, 0, 0, 0, 0, 0, 0, 0, 0]⟩, 16⟩), .agg (adc (ip4 10 2 0 1))] (.bool false) := by
  have h := uHas (p := ⟨⟨4, [10, 1, 0, 0, 0, 0, 0, 0, 0, 0, 0, 0, 0, 0, 0, 0]⟩, 16⟩) (a := ip4 10 2 0 1) ⟨rfl⟩ rfl
  rw [show hasF ⟨⟨4, [10, 1, 0, 0, 0, 0, 0, 0, 0, 0, 0, 0, 0, 0, 0, 0]⟩, 16⟩ (ip4 10 2 0 1) = false by kernel_rfl] at h; exact h
theorem has19_10 : U Tryz.prog 76 [.agg (pfC ⟨⟨4, [10, 1, 0, 0, 0, 0, 0, 0, 0, 0, 0, 0, 0, 0, 0, 0]⟩, 24⟩), .agg (adc (ip4 10 1 0 1))] (.bool true) := by
  have h := uHas (p := ⟨⟨4, [10, 1, 0, 0, 0, 0, 0, 0, 0, 0, 0, 0, 0, 0, 0, 0]⟩, 24⟩) (a := ip4 10 1 0 1) ⟨rfl⟩ rfl
  rw [show hasF ⟨⟨4, [10, 1, 0, 0, 0, 0, 0, 0, 0, 0, 0, 0, 0, 0, 0, 0]⟩, 24⟩ (ip4 10 1 0 1) = true by kernel_rfl] at h; exact h
theorem has19_11 : U Tryz.prog 76 [.agg (pfC ⟨⟨4, [10, 1, 0, 0, 0, 0, 0, 0, 0, 0, 0, 0, 0, 0, 0, 0]⟩, 24⟩), .agg (adc (ip4 10 1 9 1))] (.bool false) := by
  have h := uHas (p := ⟨⟨4, [10, 1, 0, 0, 0, 0, 0, 0, 0, 0, 0, 0, 0, 0, 0, 0]⟩, 24⟩) (a := ip4 10 1 9 1) ⟨rfl⟩ rfl
  rw [show hasF ⟨⟨4, [10, 1, 0, 0, 0, 0, 0, 0, 0, 0, 0, 0, 0, 0, 0, 0]⟩, 24⟩ (ip4 10 1 9 1) = false by kernel_rfl] at h; exact h
theorem has19_12 : U Tryz.prog 76 [.agg (pfC ⟨⟨4, [10, 1, 0, 0, 0, 0, 0, 0, 0, 0, 0, 0, 0, 0, 0, 0]⟩, 24⟩), .agg (adc (ip4 10 2 0 1))] (.bool false) := by
  have h := uHas (p := ⟨⟨4, [10, 1, 0, 0, 0, 0, 0, 0, 0, 0, 0, 0, 0, 0, 0, 0]⟩, 24⟩) (a := ip4 10 2 0 1) ⟨rfl⟩ rfl
  rw [show hasF ⟨⟨4, [10, 1, 0, 0, 0, 0, 0, 0, 0, 0, 0, 0, 0, 0, 0, 0]⟩, 24⟩ (ip4 10 2 0 1) = false by kernel_rfl] at h; exact h
theorem cmp19_12 : U Tryz.prog 122 [.sl (bsl (ip4 10 0 0 1).b), .sl (bsl (ip4 10 0 0 2).b)] (.int .i64 (Lib.compareBytes (ip4 10 0 0 1).b (ip4 10 0 0 2).b)) := uOrderL
theorem cmp19_21 : U Tryz.prog 122 [.sl (bsl (ip4 10 0 0 2).b), .sl (bsl (ip4 10 0 0 1).b)] (.int .i64 (Lib.compareBytes (ip4 10 0 0 2).b (ip4 10 0 0 1).b)) := uOrderL
def vtabH : List (Nat × VFun) := [(20, vf20), (24, vf24), (26, vf26), (27, vf27), (31, vf31), (47, vf47), (48, vf48), (50, vf50), (54, vf54), (55, vf55), (56, vf56), (57, vf57), (58, vf58), (67, vf67), (68, vf68), (69, vf69), (70, vf70), (71, vf71), (72, vf72), (73, vf73), (74, vf74), (75, vf75), (100, vf100), (102, vf102), (105, vf105), (106, vf106), (107, vf107), (108, vf108), (109, vf109), (110, vf110), (112, vf112), (115, vf115), (118, vf118), (119, vf119), (120, vf120), (121, vf121), (123, vf123), (148, vf148), (149, vf149), (150, vf150), (154, vf154), (155, vf155), (156, vf156), (157, vf157), (163, vf163)]
theorem vtabH_ok : TabOk Tryz.prog vtabH := (TabOk.cons ⟨_, rawF, Tryz.func20, cf20⟩ (TabOk.cons ⟨_, rawF, Tryz.func24, cf24⟩ (TabOk.cons ⟨_, rawF, Tryz.func26, cf26⟩ (TabOk.cons ⟨_, rawF, Tryz.func27, cf27⟩ (TabOk.cons ⟨_, rawF, Tryz.func31, cf31⟩ (TabOk.cons ⟨_, rawF, Tryz.func47, cf47⟩ (TabOk.cons ⟨_, rawF, Tryz.func48, cf48⟩ (TabOk.cons ⟨_, rawF, Tryz.func50, cf50⟩ (TabOk.cons ⟨_, rawF, Tryz.func54, cf54⟩ (TabOk.cons ⟨_, rawF, Tryz.func55, cf55⟩ (TabOk.cons ⟨_, rawF, Tryz.func56, cf56⟩ (TabOk.cons ⟨_, rawF, Tryz.func57, cf57⟩ (TabOk.cons ⟨_, rawF, Tryz.func58, cf58⟩ (TabOk.cons ⟨_, rawF, Tryz.func67, cf67⟩ (TabOk.cons ⟨_, rawF, Tryz.func68, cf68⟩ (TabOk.cons ⟨_, rawF, Tryz.func69, cf69⟩ (TabOk.cons ⟨_, rawF, Tryz.func70, cf70⟩ (TabOk.cons ⟨_, rawF, Tryz.func71, cf71⟩ (TabOk.cons ⟨_, rawF, Tryz.func72, cf72⟩ (TabOk.cons ⟨_, rawF, Tryz.func73, cf73⟩ (TabOk.cons ⟨_, rawF, Tryz.func74, cf74⟩ (TabOk.cons ⟨_, rawF, Tryz.func75, cf75⟩ (TabOk.cons ⟨_, rawF, Tryz.func100, cf100⟩ (TabOk.cons ⟨_, rawF, Tryz.func102, cf102⟩ (TabOk.cons ⟨_, rawF, Tryz.func105, cf105⟩ (TabOk.cons ⟨_, rawF, Tryz.func106, cf106⟩ (TabOk.cons ⟨_, rawF, Tryz.func107, cf107⟩ (TabOk.cons ⟨_, rawF, Tryz.func108, cf108⟩ (TabOk.cons ⟨_, rawF, Tryz.func109, cf109⟩ (TabOk.cons ⟨_, rawF, Tryz.func110, cf110⟩ (TabOk.cons ⟨_, rawF, Tryz.func112, cf112⟩ (TabOk.cons ⟨_, rawF, Tryz.func115, cf115⟩ (TabOk.cons ⟨_, rawF, Tryz.func118, cf118⟩ (TabOk.cons ⟨_, rawF, Tryz.func119, cf119⟩ (TabOk.cons ⟨_, rawF, Tryz.func120, cf120⟩ (TabOk.cons ⟨_, rawF, Tryz.func121, cf121⟩ (TabOk.cons ⟨_, rawF, Tryz.func123, cf123⟩ (TabOk.cons ⟨_, rawF, Tryz.func148, cf148⟩ (TabOk.cons ⟨_, rawF, Tryz.func149, cf149⟩ (TabOk.cons ⟨_, rawF, Tryz.func150, cf150⟩ (TabOk.cons ⟨_, rawF, Tryz.func154, cf154⟩ (TabOk.cons ⟨_, rawF, Tryz.func155, cf155⟩ (TabOk.cons ⟨_, rawF, Tryz.func156, cf156⟩ (TabOk.cons ⟨_, rawF, Tryz.func157, cf157⟩ (TabOk.cons ⟨_, rawF, Tryz.func163, cf163⟩ TabOk.nil)))))))))))))))))))))))))))))))))))))))))))))
def v19 : Vr := ⟨[97], 3, [0, 0, 0, 1, 0, 0, 0, 3], [[0, 2, 0, 1, 0, 0, 0, 1]], [[0, 2, 0, 1, 0, 0, 0, 1]], ad0, []⟩
def s19 : Si := ⟨ip4 10 0 0 9, 65000, [], [], [], [], [w19_0, w19_1, w19_2]⟩
theorem own19 : U Tryz.prog 28 [.agg (vrC v19), .agg (siC s19)] (.tup [.agg (usC (ownF v19 s19).1), .int .i64 (ownF v19 s19).2]) := uOwn ⟨rfl, rfl⟩ ⟨rfl⟩
def closH : List Nat := [154, 71]
theorem closH_ok : ∀ f, f ∈ closH → callOk Tryz.prog f = true := by
  intro f hf
  simp only [closH, List.mem_cons, List.not_mem_nil, or_false] at hf
  rcases hf with rfl | rfl <;> kernel_rfl
theorem as19 : U Tryz.prog 105 [.agg (u8c [2, 9, 0, 0, 253, 232, 0, 0])] (.tup [.int .i64 65000, .bool true]) :=
  U_kernelA (tab := vtabH) (ext := extK closH) (spec := specX) 100 20 _ _ vtabH_ok (extK_ok closH_ok) specX_ok glob_cl rfl (by kernel_rfl)
theorem im19_1 : U Tryz.prog 102 [.agg (u8c [1, 11, 10, 0, 0, 1, 0, 3])] (.tup [.agg (adc (ip4 10 0 0 1)), .int .i64 3, .bool true]) :=
  U_kernelA (tab := vtabH) (ext := extK closH) (spec := specX) 100 20 _ _ vtabH_ok (extK_ok closH_ok) specX_ok glob_cl rfl (by kernel_rfl)
theorem im19_2 : U Tryz.prog 102 [.agg (u8c [1, 11, 10, 0, 0, 2, 0, 3])] (.tup [.agg (adc (ip4 10 0 0 2)), .int .i64 3, .bool true]) :=
  U_kernelA (tab := vtabH) (ext := extK closH) (spec := specX) 100 20 _ _ vtabH_ok (extK_ok closH_ok) specX_ok glob_cl rfl (by kernel_rfl)
def factsH : List (Nat × List PV × PV) := [(15, [.agg (rtC w19_0)], .tup [.str (nameR w19_0), .bool true]), (15, [.agg (rtC w19_1)], .tup [.str (nameR w19_1), .bool true]), (15, [.agg (rtC w19_2)], .tup [.str (nameR w19_2), .bool true]), (76, [.agg (pfC ⟨⟨4, [10, 1, 0, 0, 0, 0, 0, 0, 0, 0, 0, 0, 0, 0, 0, 0]⟩, 16⟩), .agg (adc (ip4 10 1 0 1))], .bool true), (76, [.agg (pfC ⟨⟨4, [10, 1, 0, 0, 0, 0, 0, 0, 0, 0, 0, 0, 0, 0, 0, 0]⟩, 16⟩), .agg (adc (ip4 10 1 9 1))], .bool true), (76, [.agg (pfC ⟨⟨4, [10, 1, 0, 0, 0, 0, 0, 0, 0, 0, 0, 0, 0, 0, 0, 0]⟩, 16⟩), .agg (adc (ip4 10 2 0 1))], .bool false), (76, [.agg (pfC ⟨⟨4, [10, 1, 0, 0, 0, 0, 0, 0, 0, 0, 0, 0, 0, 0, 0, 0]⟩, 24⟩), .agg (adc (ip4 10 1 0 1))], .bool true), (76, [.agg (pfC ⟨⟨4, [10, 1, 0, 0, 0, 0, 0, 0, 0, 0, 0, 0, 0, 0, 0, 0]⟩, 24⟩), .agg (adc (ip4 10 1 9 1))], .bool false), (76, [.agg (pfC ⟨⟨4, [10, 1, 0, 0, 0, 0, 0, 0, 0, 0, 0, 0, 0, 0, 0, 0]⟩, 24⟩), .agg (adc (ip4 10 2 0 1))], .bool false), (122, [.sl (bsl (ip4 10 0 0 1).b), .sl (bsl (ip4 10 0 0 2).b)], .int .i64 (Lib.compareBytes (ip4 10 0 0 1).b (ip4 10 0 0 2).b)), (122, [.sl (bsl (ip4 10 0 0 2).b), .sl (bsl (ip4 10 0 0 1).b)], .int .i64 (Lib.compareBytes (ip4 10 0 0 2).b (ip4 10 0 0 1).b)), (102, [.agg (u8c [1, 11, 10, 0, 0, 1, 0, 3])], .tup [.agg (adc (ip4 10 0 0 1)), .int .i64 3, .bool true]), (102, [.agg (u8c [1, 11, 10, 0, 0, 2, 0, 3])], .tup [.agg (adc (ip4 10 0 0 2)), .int .i64 3, .bool true]), (28, [.agg (vrC v19), .agg (siC s19)], .tup [.agg (usC (ownF v19 s19).1), .int .i64 (ownF v19 s19).2]), (105, [.agg (u8c [2, 9, 0, 0, 253, 232, 0, 0])], .tup [.int .i64 65000, .bool true])]
theorem factsH_ok : ∀ p, p ∈ factsH → U Tryz.prog p.1 p.2.1 p.2.2 := by
  intro p hp
  simp only [factsH, List.mem_cons, List.not_mem_nil, or_false] at hp
  rcases hp with rfl | rfl | rfl | rfl | rfl | rfl | rfl | rfl | rfl | rfl | rfl | rfl | rfl | rfl | rfl
  · exact n19_0
  · exact n19_1
  · exact n19_2
  · exact has19_00
  · exact has19_01
  · exact has19_02
  · exact has19_10
  · exact has19_11
  · exact has19_12
  · exact cmp19_12
  · exact cmp19_21
  · exact im19_1
  · exact im19_2
  · exact own19
  · exact as19
theorem specH_ok : SpecOk Tryz.prog (factSpec factsH specX) := factSpec_ok specX_ok factsH factsH_ok
theorem sel19_0 : U Tryz.prog 26 [.agg (vrC v19), .agg (siC s19), .agg (adc (ip4 10 1 0 1))] (.tup [.agg (usC (⟨ip4 10 0 0 2, [1, 11, 10, 0, 0, 2, 0, 3], 65000, [0, 0, 0, 1, 0, 0, 0, 3]⟩ : Us)), .bool true]) :=
  U_kernelC (tab := vtabH) (ext := extK closH) (spec := factSpec factsH specX) 100 20 _ _ vtabH_ok (extK_ok closH_ok) specH_ok glob_cl rfl (by infer_instance) (by kernel_rfl)
theorem sel19_1 : U Tryz.prog 26 [.agg (vrC v19), .agg (siC s19), .agg (adc (ip4 10 1 9 1))] (.tup [.agg (usC (⟨ip4 10 0 0 1, [1, 11, 10, 0, 0, 1, 0, 3], 65000, [0, 0, 0, 1, 0, 0, 0, 3]⟩ : Us)), .bool true]) :=
  U_kernelC (tab := vtabH) (ext := extK closH) (spec := factSpec factsH specX) 100 20 _ _ vtabH_ok (extK_ok closH_ok) specH_ok glob_cl rfl (by infer_instance) (by kernel_rfl)
theorem sel19_2 : U Tryz.prog 26 [.agg (vrC v19), .agg (siC s19), .agg (adc (ip4 10 2 0 1))] (.tup [.agg (usC us0), .bool false]) :=
  U_kernelC (tab := vtabH) (ext := extK closH) (spec := factSpec factsH specX) 100 20 _ _ vtabH_ok (extK_ok closH_ok) specH_ok glob_cl rfl (by infer_instance) (by kernel_rfl)
def factsI : List (Nat × List PV × PV) := [(26, [.agg (vrC v19), .agg (siC s19), .agg (adc (ip4 10 1 0 1))], .tup [.agg (usC (⟨ip4 10 0 0 2, [1, 11, 10, 0, 0, 2, 0, 3], 65000, [0, 0, 0, 1, 0, 0, 0, 3]⟩ : Us)), .bool true]), (26, [.agg (vrC v19), .agg (siC s19), .agg (adc (ip4 10 1 9 1))], .tup [.agg (usC (⟨ip4 10 0 0 1, [1, 11, 10, 0, 0, 1, 0, 3], 65000, [0, 0, 0, 1, 0, 0, 0, 3]⟩ : Us)), .bool true]), (26, [.agg (vrC v19), .agg (siC s19), .agg (adc (ip4 10 2 0 1))], .tup [.agg (usC us0), .bool false])]
theorem factsI_ok : ∀ p, p ∈ factsI → U Tryz.prog p.1 p.2.1 p.2.2 := by
  intro p hp
  simp only [factsI, List.mem_cons, List.not_mem_nil, or_false] at hp
  rcases hp with rfl | rfl | rfl
  · exact sel19_0
  · exact sel19_1
  · exact sel19_2
theorem specI_ok : SpecOk Tryz.prog (factSpec factsI specX) := factSpec_ok specX_ok factsI factsI_ok
theorem uSmall19 : U Tryz.prog 24 [] (.bool true) := U_kernel (tab := vtabH) (ext := extK closH) (spec := factSpec factsI specX) 100 20 (.bool true) vtabH_ok (extK_ok closH_ok) specI_ok glob_cl rfl (by kernel_rfl)
end Go.Proofs.YtjhmobdncjhcnaaGreatDoor
