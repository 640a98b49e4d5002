/- addr.Of; mroute.read's two inner functions. -/
import Derived.Test.YtdkjcadffhnjgaaDoorM1
namespace Go.Proofs.YtdkjcadffhnjgaaDoor
open Go Go.V
set_option maxRecDepth 10000
def ofA (l : List UInt8) : Ad × Int := if l.length = 0 ∨ l.length = 4 ∨ l.length = 16 then (⟨l.length, over l z16⟩, 0) else (ad0, 1)
theorem ofA_ok (l : List UInt8) : okD (ofA l).1 := by
  unfold ofA
  split
  · exact over_len (by show l.length ≤ 16; omega)
  · rfl
theorem spl_over {x : PV} {b q : List UInt8} : splice (x :: u8c b) 1 (u8c q) = x :: u8c (over q b) := by
  unfold splice over
  rw [u8c_len, Nat.add_comm, List.drop_succ_cons]
  show _ :: _ = _
  congr 1
  simp [u8c]
theorem ad_set {a : Ad} (h : okD a) : splice [.int .i64 0, .int .u8 0, .int .u8 0, .int .u8 0, .int .u8 0, .int .u8 0, .int .u8 0, .int .u8 0, .int .u8 0, .int .u8 0, .int .u8 0, .int .u8 0, .int .u8 0, .int .u8 0, .int .u8 0, .int .u8 0, .int .u8 0] 0 (adc a) = adc a := by
  unfold splice
  rw [List.drop_of_length_le (by rw [adc_len h]; exact Nat.le_refl _)]
  simp
theorem ad_any {a : Ad} {cs : List PV} (h : okD a) (hc : cs.length = 17) : splice cs 0 (adc a) = adc a := by
  unfold splice
  rw [List.drop_of_length_le (by rw [adc_len h, hc]; exact Nat.le_refl _)]
  simp
set_option maxHeartbeats 4000000 in
theorem uOfA {l : List UInt8} (hl : l.length ≤ 140737488355328) : U Tryd.prog 89 [.sl (bsl l)] (.tup [.agg (adc (ofA l).1), .int .i64 (ofA l).2]) := by
  intro σ Post hk
  have bl := bsl_len l
  have key : (l.length = 0 ∨ l.length = 4 ∨ l.length = 16) → T Tryd.prog 89 [.sl (bsl l)] σ Post := by
    intro h
    have e : ofA l = (⟨l.length, over l z16⟩, 0) := by unfold ofA; rw [if_pos h]
    rw [e] at hk
    have oA : okD ⟨l.length, over l z16⟩ := over_len (by show l.length ≤ 16; omega)
    have d0 : splice [.int .i64 0, .int .u8 0, .int .u8 0, .int .u8 0, .int .u8 0, .int .u8 0, .int .u8 0, .int .u8 0, .int .u8 0, .int .u8 0, .int .u8 0, .int .u8 0, .int .u8 0, .int .u8 0, .int .u8 0, .int .u8 0, .int .u8 0] 0 [.int .i64 (l.length : Int), .int .u8 0, .int .u8 0, .int .u8 0, .int .u8 0, .int .u8 0, .int .u8 0, .int .u8 0, .int .u8 0, .int .u8 0, .int .u8 0, .int .u8 0, .int .u8 0, .int .u8 0, .int .u8 0, .int .u8 0, .int .u8 0] = [.int .i64 (l.length : Int), .int .u8 0, .int .u8 0, .int .u8 0, .int .u8 0, .int .u8 0, .int .u8 0, .int .u8 0, .int .u8 0, .int .u8 0, .int .u8 0, .int .u8 0, .int .u8 0, .int .u8 0, .int .u8 0, .int .u8 0, .int .u8 0] := rfl
    have dB : splice [.int .i64 (l.length : Int), .int .u8 0, .int .u8 0, .int .u8 0, .int .u8 0, .int .u8 0, .int .u8 0, .int .u8 0, .int .u8 0, .int .u8 0, .int .u8 0, .int .u8 0, .int .u8 0, .int .u8 0, .int .u8 0, .int .u8 0, .int .u8 0] 1 (((bsl l).take 16).flatten) = adc ⟨l.length, over l z16⟩ := by
      rw [sl_flat, List.take_of_length_le (by omega)]
      exact spl_over (b := z16)
    have dA := ad_set oA
    have cA := adc_all oA
    have lA := adc_len oA
    have sA := adc_sc (a := ⟨l.length, over l z16⟩)
    generalize (⟨l.length, over l z16⟩ : Ad) = A at *
    rcases h with h | h | h
    all_goals
      refine T89 fun hB hA => ?_
      refine W ?_
      exact hk
  by_cases h : l.length = 0 ∨ l.length = 4 ∨ l.length = 16
  · exact key h
  · have e : ofA l = (ad0, 1) := by unfold ofA; rw [if_neg h]
    rw [e] at hk
    refine T89 fun hB hA => ?_
    have h0 : ¬ l.length = 0 := fun e => h (.inl e)
    have h4 : ¬ l.length = 4 := fun e => h (.inr (.inl e))
    have h16 : ¬ l.length = 16 := fun e => h (.inr (.inr e))
    clear h
    have d0 : splice [.int .i64 0, .int .u8 0, .int .u8 0, .int .u8 0, .int .u8 0, .int .u8 0, .int .u8 0, .int .u8 0, .int .u8 0, .int .u8 0, .int .u8 0, .int .u8 0, .int .u8 0, .int .u8 0, .int .u8 0, .int .u8 0, .int .u8 0] 0 [.int .i64 0, .int .u8 0, .int .u8 0, .int .u8 0, .int .u8 0, .int .u8 0, .int .u8 0, .int .u8 0, .int .u8 0, .int .u8 0, .int .u8 0, .int .u8 0, .int .u8 0, .int .u8 0, .int .u8 0, .int .u8 0, .int .u8 0] = adc ad0 := rfl
    have c0 := adc_all ad0_ok
    have l0 := adc_len ad0_ok
    refine W ?_
    exact hk
theorem ib_rem8 {a : Nat} : ibin .rem .i64 (a : Int) .i64 8 = some (.int .i64 ((a % 8 : Nat) : Int)) := by
  simp only [ibin]
  rfl
theorem ib_quo8 {a : Nat} (h : a < 256) : ibin .quo .i64 (a : Int) .i64 8 = some (.int .i64 ((a / 8 : Nat) : Int)) := by
  have e : IntKind.i64.wrap ((a : Int).tdiv 8) = ((a / 8 : Nat) : Int) := by
    rw [Int.tdiv_eq_ediv_of_nonneg (by omega), w_i64 (by omega) (by omega)]; omega
  rw [show ibin .quo .i64 (a : Int) .i64 8 = some (.int .i64 (IntKind.i64.wrap ((a : Int).tdiv 8))) from rfl, e]
section
variable {σ : VHeap} {Post : KP} {rb gr i gi ob go tb tg n : Nat} {l p q p2 q2 : List UInt8} {bad ok c c2 : Bool}
set_option maxHeartbeats 1000000 in
/-- take. -/
theorem tTk (e : rdT l bad n = (p, q, c)) (hl : l.length ≤ 140737488355328) (hr : vGet σ rb gr = some (.box [.ptr i gi 0] false)) (hi : vGet σ i gi = some (.box [.sl (bsl l), .bool bad] false)) (ho : vGet σ ob go = some (.box [.bool ok] false)) (h1 : i ≠ ob)
    (hk : Post (.agg (adc (ofA p).1)) ((σ.set i (gi, .box [.sl (bsl q), .bool c] false)).set ob (go, .box [.bool (ok && decide ((ofA p).2 = 0))] false))) : T Tryd.prog 94 [.int .i64 (n : Int), .ptr rb gr 0, .ptr ob go 0] σ Post := by
  have hpl := rdT_len l bad n
  rw [e] at hpl
  dsimp only at hpl
  refine T94 fun hB hA => ?_
  refine W ?_
  refine ct ?_
  refine tTake hl (oget hi) fun l1 l2 b hb => ?_
  simp only [bcond] at hb
  obtain ⟨rfl, rfl, rfl⟩ := rdT_cond e hb
  rw [oset _ (vGet_lt hi)]
  have ho' : vGet (σ.set i (gi, .box [.sl (bsl l2), .bool b] false)) ob go = _ := hget_ne h1 ho
  have hsz : (σ.set i (gi, VObj.box [.sl (bsl l2), .bool b] false)).length = σ.length := List.length_set
  have hob := vGet_lt ho'
  have oA := ofA_ok l1
  have dA := ad_set oA
  have dA' := ad_any oA (adc_len oA)
  have cA := adc_all oA
  have lA := adc_len oA
  have sA := adc_sc (a := (ofA l1).1)
  have uA := uOfA (l := l1) (by omega)
  generalize ofA l1 = AZ at *
  obtain ⟨A, z⟩ := AZ
  have hB1 : belH σ.length (σ.set i (gi, .box [.sl (bsl l2), .bool b] false)) := by exact z_hb
  generalize σ.set i (gi, .box [.sl (bsl l2), .bool b] false) = σ1 at *
  dsimp only at *
  refine W ?_
  refine cu uA ?_
  by_cases hz : z = 0
  · rw [decide_eq_true hz] at hk
    cases ok with
    | true =>
      refine W ?_
      exact hk
    | false =>
      refine W ?_
      exact hk
  · rw [decide_eq_false hz] at hk
    cases ok with
    | true =>
      refine W ?_
      exact hk
    | false =>
      refine W ?_
      exact hk
attribute [local irreducible] vBin vBuild vCallV
set_option maxHeartbeats 1000000 in
/-- bits. -/
theorem tBits (e : rdT l bad 1 = (p, q, c)) (e2 : rdT q c (big p 0 / 8) = (p2, q2, c2)) (hl : l.length ≤ 140737488355328) (hr : vGet σ rb gr = some (.box [.ptr i gi 0] false)) (hi : vGet σ i gi = some (.box [.sl (bsl l), .bool bad] false)) (ho : vGet σ ob go = some (.box [.bool ok] false)) (ht : vGet σ tb tg = some (.box [.fn 94 [.ptr rb gr 0, .ptr ob go 0]] false)) (h1 : i ≠ ob) (h2 : i ≠ rb) (h3 : i ≠ tb) (h4 : ob ≠ rb) (h5 : ob ≠ tb)
    (hk : Post (.agg (adc (ofA p2).1)) ((σ.set i (gi, .box [.sl (bsl q2), .bool c2] false)).set ob (go, .box [.bool (ok && decide (big p 0 % 8 = 0) && decide ((ofA p2).2 = 0))] false))) : T Tryd.prog 95 [.ptr rb gr 0, .ptr ob go 0, .ptr tb tg 0] σ Post := by
  have hpl := rdT_len l bad 1
  rw [e] at hpl
  dsimp only at hpl
  have hb0 : big p 0 < 256 := by
    have := big_lt p 0
    have h6 : 256 ^ p.length ≤ 256 ^ 1 := Nat.pow_le_pow_right (by decide) hpl.1
    omega
  refine T95 fun hB hA => ?_
  refine W ?_
  refine ct ?_
  refine tNum (l := l) (bad := bad) (z := 1) (oget hi) fun l1 l2 b hb => ?_
  have hb : if bad = true ∨ l.length < 1 then l1 = [] ∧ l2 = l ∧ b = true else l1 = l.take ((1 : Nat) : Int).toNat ∧ l2 = l.drop ((1 : Nat) : Int).toNat ∧ b = false := by
    have h9 : (bad = true ∨ (1 : Int) < 1 ∨ (4 : Int) < 1 ∨ (l.length : Int) < 1) ↔ (bad = true ∨ l.length < 1) := @bcond4 bad l.length 1 (Nat.le_refl 1) (by omega)
    by_cases hc : bad = true ∨ l.length < 1
    · rw [if_pos hc]; rw [if_pos (h9.2 hc)] at hb; exact hb
    · rw [if_neg hc]; rw [if_neg fun x => hc (h9.1 x)] at hb; exact hb
  obtain ⟨rfl, rfl, rfl⟩ := rdT_cond e hb
  rw [oset _ (vGet_lt hi)]
  have hr' : vGet (σ.set i (gi, .box [.sl (bsl l2), .bool b] false)) rb gr = _ := hget_ne h2 hr
  have ho' : vGet (σ.set i (gi, .box [.sl (bsl l2), .bool b] false)) ob go = _ := hget_ne h1 ho
  have ht' : vGet (σ.set i (gi, .box [.sl (bsl l2), .bool b] false)) tb tg = _ := hget_ne h3 ht
  have hi' : vGet (σ.set i (gi, .box [.sl (bsl l2), .bool b] false)) i gi = _ := hget_eq (vGet_lt hi)
  have hsz : (σ.set i (gi, VObj.box [.sl (bsl l2), .bool b] false)).length = σ.length := List.length_set
  have hB1 : belH σ.length (σ.set i (gi, .box [.sl (bsl l2), .bool b] false)) := by exact z_hb
  have hs2 : ∀ x y, ((σ.set i (gi, VObj.box [.sl (bsl l2), .bool b] false)).set ob y).set i x = (σ.set i x).set ob y := fun x y => by
    rw [List.set_comm _ _ h1.symm, List.set_set]
  generalize σ.set i (gi, .box [.sl (bsl l2), .bool b] false) = σ1 at *
  have r8 := ib_rem8 (a := big l1 0)
  have q8 := ib_quo8 hb0
  have key : ∀ ok' : Bool, ok' = (ok && decide (big l1 0 % 8 = 0)) → T Tryd.prog 94 [.int .i64 ((big l1 0 / 8 : Nat) : Int), .ptr rb gr 0, .ptr ob go 0] (σ1.set ob (go, .box [.bool ok'] false) ++ [(1, .box [.int .i64 0, .int .u8 0, .int .u8 0, .int .u8 0, .int .u8 0, .int .u8 0, .int .u8 0, .int .u8 0, .int .u8 0, .int .u8 0, .int .u8 0, .int .u8 0, .int .u8 0, .int .u8 0, .int .u8 0, .int .u8 0, .int .u8 0] false)]) (fun v h => v = .agg (adc (ofA p2).1) ∧ h = (σ.set i (gi, .box [.sl (bsl q2), .bool c2] false)).set ob (go, .box [.bool (ok' && decide ((ofA p2).2 = 0))] false) ++ [(1, .box [.int .i64 0, .int .u8 0, .int .u8 0, .int .u8 0, .int .u8 0, .int .u8 0, .int .u8 0, .int .u8 0, .int .u8 0, .int .u8 0, .int .u8 0, .int .u8 0, .int .u8 0, .int .u8 0, .int .u8 0, .int .u8 0, .int .u8 0] false)]) := by
    intro ok' hok
    refine tTk (bad := b) (ok := ok') e2 (by omega) (oget (hget_ne h4 hr')) (oget (hget_ne h1.symm hi')) (oget (hget_eq (vGet_lt ho'))) h1 ⟨rfl, ?_⟩
    rw [oset _ (by rw [List.length_set]; exact vGet_lt hi'), oset _ (by rw [List.length_set, List.length_set]; exact vGet_lt ho'), hs2]
    rw [List.set_set]
  have oA := ofA_ok p2
  have dA := ad_set oA
  have lA := adc_len oA
  have cA := adc_all oA
  have sA := adc_sc (a := (ofA p2).1)
  have hcl : callOk Tryd.prog 94 = true := by kernel_rfl
  by_cases h8 : big l1 0 % 8 = 0
  · rw [decide_eq_true h8, Bool.and_true] at hk
    cases ok with
    | true =>
      refine W ?_
      refine callC (vs := [.int .i64 ((big l1 0 / 8 : Nat) : Int)]) rfl hcl rfl ?_
      refine T.mono (key true (by simp [h8])) ?_
      rintro v h' ⟨rfl, rfl⟩
      rw [Bool.true_and] at *
      refine W ?_
      exact hk
    | false =>
      refine W ?_
      refine callC (vs := [.int .i64 ((big l1 0 / 8 : Nat) : Int)]) rfl hcl rfl ?_
      refine T.mono (key false (by simp)) ?_
      rintro v h' ⟨rfl, rfl⟩
      refine W ?_
      exact hk
  · rw [decide_eq_false h8, Bool.and_false] at hk
    cases ok with
    | true =>
      refine W ?_
      refine callC (vs := [.int .i64 ((big l1 0 / 8 : Nat) : Int)]) rfl hcl rfl ?_
      refine T.mono (key false (by simp [h8])) ?_
      rintro v h' ⟨rfl, rfl⟩
      refine W ?_
      exact hk
    | false =>
      refine W ?_
      refine callC (vs := [.int .i64 ((big l1 0 / 8 : Nat) : Int)]) rfl hcl rfl ?_
      refine T.mono (key false (by simp)) ?_
      rintro v h' ⟨rfl, rfl⟩
      refine W ?_
      exact hk
end
end Go.Proofs.YtdkjcadffhnjgaaDoor
