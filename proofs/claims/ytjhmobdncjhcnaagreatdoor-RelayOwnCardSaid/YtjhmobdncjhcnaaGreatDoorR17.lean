/- relay.Takes, relay.Kind. -/
import Derived.Test.YtjhmobdncjhcnaaGreatDoorR12
namespace Go.Proofs.YtjhmobdncjhcnaaGreatDoor
open Go Go.V
set_option maxRecDepth 10000
set_option linter.unusedVariables false
attribute [local irreducible] vBuild vCallV
def hasI (v : Int) (l : List Int) : Bool := l.any fun x => decide (v = x)
def takesF (v : Int) (id cl : Ad) (r : Rt) : Bool := rtR r && (!isA r.att.orig id && (!(r.att.cl.any fun a => isA a cl) && !(r.att.path.any fun s => hasI v s.nums)))
set_option maxHeartbeats 8000000 in
theorem uIndexI {l : List Int} {v : Int} (hl : l.length ≤ 4611686018427387904) : U Tryz.prog 93 [.sl (l.map fun n => [PV.int .i64 n]), .int .i64 v] (.int .i64 (idxF (fun x => decide (v = x)) l)) := by
  intro σ Post hk
  have b1 : (l.map fun n => [PV.int .i64 n]).length = l.length := List.length_map _
  refine T93 fun hB hA => ?_
  refine W ?_
  refine lp (fun j e s => ∃ i : Nat, i + j = l.length ∧ e 8 = .int .i64 i ∧ ((l.take i).any fun x => decide (v = x)) = false ∧ s = σ ++ []) l.length ⟨0, by simp, rfl, by simp, rfl⟩ ?_
  rintro j u _ ⟨i, hi, e8, hal, rfl⟩
  by_cases h5 : i < l.length
  · obtain ⟨x, hx⟩ : ∃ x, l[i]? = some x := ⟨_, List.getElem?_eq_getElem h5⟩
    have hg : (l.map fun n => [PV.int .i64 n])[(i : Int).toNat]? = some [PV.int .i64 x] := by rw [Int.toNat_natCast, List.getElem?_map, hx]; rfl
    by_cases hp : v = x
    · rw [idxF_at hal hx (by simpa using hp)] at hk
      refine W ?_
      exact hk
    · refine W ?_
      refine ⟨j - 1, by omega, i + 1, by omega, rfl, ?_, rfl⟩
      rw [take_snoc hx, List.any_append, hal]; simp [hp]
  · have h9 : l.take i = l := List.take_of_length_le (by omega)
    rw [h9] at hal
    rw [idxF_no hal] at hk
    refine W ?_
    exact hk
set_option maxHeartbeats 8000000 in
theorem uContI {l : List Int} {v : Int} (hl : l.length ≤ 4611686018427387904) : U Tryz.prog 45 [.sl (l.map fun n => [PV.int .i64 n]), .int .i64 v] (.bool (hasI v l)) := by
  intro σ Post hk
  have e : decide (0 ≤ idxF (fun x => decide (v = x)) l) = hasI v l := idxF_any _ l
  rw [← e] at hk
  refine T45 fun hB hA => ?_
  refine W ?_
  refine cu (uIndexI hl) ?_
  refine W ?_
  exact hk
set_option maxHeartbeats 8000000 in
theorem tIsCl {x c : Ad} {σ : VHeap} {Post : KP} {p g : Nat} (hx : okD x) (hc : okD c) (hg : vGet σ p g = some (.box (adc c) false)) (hk : Post (.bool (isA x c)) σ) : T Tryz.prog 42 [.agg (adc x), .ptr p g 0] σ Post := by
  skip
  have sc := adc_sc (a := x)
  have ln := adc_len hx
  have c0 := adc_all hx
  have c2 := adc_all hc
  have hi := vGet_lt hg
  refine T42 fun hB hA => ?_
  refine W ?_
  refine cu (uIs hx hc) ?_
  refine W ?_
  exact hk
set_option maxHeartbeats 8000000 in
theorem tHasI {s : Seg} {v : Int} {σ : VHeap} {Post : KP} {p g : Nat} (hl : s.nums.length ≤ 4611686018427387904) (hg : vGet σ p g = some (.box [.int .i64 v] false)) (hk : Post (.bool (hasI v s.nums)) σ) : T Tryz.prog 44 [.agg (segC s), .ptr p g 0] σ Post := by
  skip
  have sc := segC_sc (x := s)
  have ln := segC_len (x := s) ⟨trivial⟩
  have g1 := segC_gnums (x := s) ⟨trivial⟩
  have hi := vGet_lt hg
  refine T44 fun hB hA => ?_
  refine W ?_
  refine cu (uContI hl) ?_
  refine W ?_
  exact hk
set_option maxHeartbeats 8000000 in
theorem uTakes {r : Rt} {v : Int} {id cl : Ad} (h : okRib r) (hi : okD id) (hc : okD cl) : U Tryz.prog 16 [.int .i64 v, .agg (adc id), .agg (adc cl), .agg (rtC r)] (.bool (takesF v id cl r)) := by
  intro σ Post hk
  have sc := rtC_sc (x := r)
  have ln := rtC_len h.ok
  have c0 := rtC_all h.ok
  have is := adc_sc (a := id)
  have il := adc_len hi
  have ia := adc_all hi
  have cs := adc_sc (a := cl)
  have cl1 := adc_len hc
  have ca := adc_all hc
  have go : cut (rtC r) 112 (some 17) = some (.agg (adc r.att.orig)) := rt_ga (o := 4) h.ok (atC_gorig h.ok.att)
  have gc : cut (rtC r) 129 none = some (.sl (r.att.cl.map adc)) := rt_ga (o := 21) h.ok (atC_gcl h.ok.att)
  have gp : cut (rtC r) 109 none = some (.sl (r.att.path.map segC)) := rt_ga (o := 1) h.ok (atC_gpath h.ok.att)
  have h1 : callOk Tryz.prog 42 = true := by kernel_rfl
  have h2 : callOk Tryz.prog 44 = true := by kernel_rfl
  refine T16 fun hB hA => ?_
  refine W ?_
  refine cu (uName15 h) ?_
  cases hr : rtR r with
  | true =>
    have p := atR_parts (rtR_at hr)
    have l1 := p.cl
    have l2 := p.path
    refine W ?_
    refine cu (uIs h.ok.att.orig hi) ?_
    cases hi2 : isA r.att.orig id with
    | true =>
      refine W ?_
      exact fin hk (by simp [takesF, hr, hi2])
    | false =>
      refine W ?_
      refine ct ?_
      refine tConA (l := r.att.cl) (p := fun a => isA a cl) (by omega) h1 h.cl (fun x hx L Q hq => tIsCl (h.cl x hx) hc (oget (lget rfl rfl)) hq) ?_
      cases hc2 : r.att.cl.any fun a => isA a cl with
      | true =>
        refine W ?_
        exact fin hk (by simp [takesF, hr, hi2, hc2])
      | false =>
        refine W ?_
        refine ct ?_
        refine tConS (l := r.att.path) (p := fun s => hasI v s.nums) (by omega) h2 (fun x hx L Q hq => tHasI (by have := p.nums x hx; omega) (oget (lget rfl rfl)) hq) ?_
        refine W ?_
        exact fin hk (by simp [takesF, hr, hi2, hc2])
  | false =>
    refine W ?_
    exact fin hk (by simp [takesF, hr])
end Go.Proofs.YtjhmobdncjhcnaaGreatDoor
