/- Few. -/
import Derived.Test.YtjhmobdncjhcnaaGreatDoorHL
import Derived.Test.YtjhmobdncjhcnaaGreatDoorF4
namespace Go.Proofs.YtjhmobdncjhcnaaGreatDoor
open Go Go.V
set_option maxRecDepth 10000
set_option linter.unusedVariables false
attribute [local irreducible] vBuild vCallV
def few9 (a : At) : Bool := !(a.path.any fun s => decide (300 < s.nums.length)) && (!(a.tn.any fun t => decide (1024 < t.id.length)) && (decide (a.path.length < 20) && (decide (a.cl.length < 100) && (decide (a.ex.length < 200) && decide (a.tn.length < 10)))))
def few15 (r : Rt) : Bool := few9 r.att && decide (r.m.key.length < 1024)
set_option maxHeartbeats 8000000 in
theorem uFew9 {a : At} (h : okAt a) (ht : ∀ t, t ∈ a.tn → okTn t) (l1 : a.path.length ≤ 9223372036854775807) (l2 : a.tn.length ≤ 9223372036854775807) : U Tryz.prog 33 [.agg (atC a)] (.bool (few9 a)) := by
  intro σ Post hk
  have sc := atC_sc (x := a)
  have ln := atC_len h
  have c0 := atC_all h
  have g1 := atC_gpath h
  have g2 := atC_gtn h
  have g3 := atC_gcl h
  have g4 := atC_gex h
  have b1 : (a.path.map segC).length = a.path.length := List.length_map _
  have b2 : (a.tn.map tnC).length = a.tn.length := List.length_map _
  have b3 : (a.cl.map adc).length = a.cl.length := List.length_map _
  have b4 : (a.ex.map u8c).length = a.ex.length := List.length_map _
  refine T33 fun hB hA => ?_
  refine W ?_
  refine lp (fun j e s => ∃ i : Nat, i + j = a.path.length ∧ e 3 = .int .i64 i ∧ ((a.path.take i).any fun s => decide (300 < s.nums.length)) = false ∧ s = σ ++ [(1, VObj.box (atC a) false)]) a.path.length ⟨0, by simp, rfl, by simp, rfl⟩ ?_
  rintro j u _ ⟨i, hi, e3, hal, rfl⟩
  by_cases h5 : i < a.path.length
  · obtain ⟨x, hx⟩ : ∃ x, a.path[i]? = some x := ⟨_, List.getElem?_eq_getElem h5⟩
    have hg : (a.path.map segC)[(i : Int).toNat]? = some (segC x) := by rw [Int.toNat_natCast, List.getElem?_map, hx]; rfl
    have tl := segC_len (x := x) ⟨trivial⟩
    have g7 := segC_gnums (x := x) ⟨trivial⟩
    have b7 : (x.nums.map fun n => [PV.int .i64 n]).length = x.nums.length := List.length_map _
    by_cases h3 : 300 < x.nums.length
    · have hf : few9 a = false := by
        unfold few9
        have : (a.path.any fun s => decide (300 < s.nums.length)) = true := List.any_eq_true.2 ⟨x, List.mem_of_getElem? hx, by simpa using h3⟩
        rw [this]; rfl
      rw [hf] at hk
      refine W ?_
      exact hk
    · refine W ?_
      refine ⟨j - 1, by omega, i + 1, by omega, rfl, ?_, rfl⟩
      rw [take_snoc hx, List.any_append, hal]; simp; omega
  · have h9 : a.path.take i = a.path := List.take_of_length_le (by omega)
    rw [h9] at hal
    refine W ?_
    refine lp (fun j e s => ∃ i : Nat, i + j = a.tn.length ∧ e 4 = .int .i64 i ∧ ((a.tn.take i).any fun t => decide (1024 < t.id.length)) = false ∧ s = σ ++ [(1, VObj.box (atC a) false)]) a.tn.length ⟨0, by simp, rfl, by simp, rfl⟩ ?_
    clear e3 h5 h9 hi
    rintro j u _ ⟨i, hi, e4, hal2, rfl⟩
    by_cases h5 : i < a.tn.length
    · obtain ⟨x, hx⟩ : ∃ x, a.tn[i]? = some x := ⟨_, List.getElem?_eq_getElem h5⟩
      have hg : (a.tn.map tnC)[(i : Int).toNat]? = some (tnC x) := by rw [Int.toNat_natCast, List.getElem?_map, hx]; rfl
      have hm := List.mem_of_getElem? hx
      have tl := tnC_len (ht x hm)
      have g7 := tnC_gid (ht x hm)
      by_cases h3 : 1024 < x.id.length
      · have hf : few9 a = false := by
          unfold few9
          have : (a.tn.any fun t => decide (1024 < t.id.length)) = true := List.any_eq_true.2 ⟨x, hm, by simpa using h3⟩
          rw [this]; simp
        rw [hf] at hk
        refine W ?_
        exact hk
      · refine W ?_
        refine ⟨j - 1, by omega, i + 1, by omega, rfl, ?_, rfl⟩
        rw [take_snoc hx, List.any_append, hal2]; simp; omega
    · have h9 : a.tn.take i = a.tn := List.take_of_length_le (by omega)
      rw [h9] at hal2
      by_cases y1 : a.path.length < 20
      · by_cases y2 : a.cl.length < 100
        · by_cases y3 : a.ex.length < 200
          · by_cases y4 : a.tn.length < 10
            · refine W ?_
              exact fin hk (by unfold few9; rw [hal, hal2]; simp [y1, y2, y3, y4])
            · refine W ?_
              exact fin hk (by unfold few9; rw [hal, hal2]; simp [y1, y2, y3, y4])
          · refine W ?_
            exact fin hk (by unfold few9; rw [hal, hal2]; simp [y1, y2, y3])
        · refine W ?_
          exact fin hk (by unfold few9; rw [hal, hal2]; simp [y1, y2])
      · refine W ?_
        exact fin hk (by unfold few9; rw [hal, hal2]; simp [y1])
set_option maxHeartbeats 8000000 in
theorem uFew15 {r : Rt} (h : okRt r) (ht : ∀ t, t ∈ r.att.tn → okTn t) (l1 : r.att.path.length ≤ 9223372036854775807) (l2 : r.att.tn.length ≤ 9223372036854775807) (l3 : r.m.key.length ≤ 9223372036854775807) : U Tryz.prog 12 [.agg (rtC r)] (.bool (few15 r)) := by
  intro σ Post hk
  have sc := rtC_sc (x := r)
  have ln := rtC_len h
  have c0 := rtC_all h
  have g1 := rtC_gatt h
  have g2 : cut (rtC r) 63 none = some (.str r.m.key) := cut_sk (n := 1) (o := 62) rfl rfl (cut_sk (n := 1) (o := 61) rfl rfl ((cut_pre1 (by rw [mrc_len h.m]; decide)).trans (mc_key h.m)))
  refine T12 fun hB hA => ?_
  refine W ?_
  refine cu (uFew9 h.att ht l1 l2) ?_
  cases hf : few9 r.att with
  | true =>
    by_cases hk2 : r.m.key.length < 1024
    · refine W ?_
      exact fin hk (by simp [few15, hf, hk2])
    · refine W ?_
      exact fin hk (by simp [few15, hf, hk2])
  | false =>
    refine W ?_
    exact fin hk (by simp [few15, hf])
structure okArg (r : Rt) : Prop where
  ok : okRt r
  cl : ∀ c, c ∈ r.att.cl → okD c
  tn : ∀ t, t ∈ r.att.tn → okTn t
  ex8 : ∀ e, e ∈ r.att.ex → e.length = 8
  l1 : r.att.path.length ≤ 9223372036854775807
  l2 : r.att.tn.length ≤ 9223372036854775807
  l3 : r.m.key.length ≤ 9223372036854775807
theorem okArg_few {r : Rt} (h : okArg r) (hf : few15 r = true) : okRib r := by
  unfold few15 few9 at hf
  simp only [Bool.and_eq_true, Bool.not_eq_true', List.any_eq_false, decide_eq_true_eq] at hf
  refine ⟨h.ok, h.cl, h.tn, fun t ht => ?_, by omega⟩
  have := hf.1.2.1 t ht
  omega
end Go.Proofs.YtjhmobdncjhcnaaGreatDoor
