/- rd.Make, community.Target, vrf.Target; vrf.Rights. -/
import Derived.Test.YtjhmobdncjhcnaaGreatDoorR20
import Derived.Test.YtjhmobdncjhcnaaGreatDoorHG
import Derived.Test.YtjhmobdncjhcnaaGreatDoorGC
namespace Go.Proofs.YtjhmobdncjhcnaaGreatDoor
open Go Go.V
set_option maxRecDepth 10000
set_option linter.unusedVariables false
attribute [local irreducible] vBuild vCallV
def mk1 (hi lo : Nat) : List UInt8 := be 1 2 ++ (be hi 4 ++ be lo 2)
theorem mk1_len (hi lo : Nat) : (mk1 hi lo).length = 8 := by simp [mk1, be_len]
set_option maxHeartbeats 8000000 in
theorem uMake1 {hi lo : Nat} (h1 : hi < 4294967296) (h2 : lo < 65536) : U Tryz.prog 109 [.int .i64 1, .int .i64 hi, .int .i64 lo] (.tup [.agg (u8c (mk1 hi lo)), .int .i64 0]) := by
  intro σ Post hk
  have el : (mk1 hi lo).length = 8 := mk1_len hi lo
  have eq : ([] ++ be 1 2 ++ be hi 4) ++ be lo 2 = mk1 hi lo := by simp [mk1]
  have dB : splice [D.o, D.o, D.o, D.o, D.o, D.o, D.o, D.o] 0 (((bsl (mk1 hi lo)).take 8).flatten) = u8c (mk1 hi lo) := by
    rw [sl_flat, List.take_of_length_le (by omega)]
    exact spl_hd0 (by rw [u8c_len, el]; rfl)
  have dA : splice [D.o, D.o, D.o, D.o, D.o, D.o, D.o, D.o] 0 (u8c (mk1 hi lo)) = u8c (mk1 hi lo) := spl_hd0 (by rw [u8c_len, el]; rfl)
  have ln : (u8c (mk1 hi lo)).length = 8 := u8c_len8 el
  have sc := u8c_sc (mk1 hi lo)
  have c0 := cut_hd0 ln
  have bl : (bsl (mk1 hi lo)).length = 8 := by rw [bsl_len, el]
  refine T109 fun hB hA => ?_
  refine W ?_
  refine cu (uHigh (k := 1)) ?_
  refine W ?_
  refine cu (uPut (l := []) (n := 1) (z := 2) (by omega) (by omega) (by omega) (by simp)) ?_
  refine W ?_
  refine cu (uPut (l := [] ++ be 1 2) (n := hi) (z := 4) (by omega) (by omega) (by omega) (by simp [be_len])) ?_
  refine W ?_
  refine cu (uPut (l := [] ++ be 1 2 ++ be hi 4) (n := lo) (z := 2) (by omega) (by omega) (by omega) (by simp [be_len])) ?_
  rw [eq]
  generalize mk1 hi lo = M at *
  refine W ?_
  exact hk
theorem spl_any8 {M cs : List PV} (h : M.length = 8) (hc : cs.length = 8 := by rfl) : splice cs 0 M = M := spl_hd0 (by rw [hc, h])
set_option maxHeartbeats 8000000 in
theorem uExtOf {c w : UInt8} {r : List UInt8} (hr : r.length = 6) : U Tryz.prog 110 [.int .u8 (c.toNat : Int), .int .u8 (w.toNat : Int), .sl (bsl r)] (.agg (u8c (c :: w :: r))) := by
  intro σ Post hk
  have bl : (bsl r).length = 6 := by rw [bsl_len, hr]
  have d0 : splice [D.o, D.o, D.o, D.o, D.o, D.o, D.o, D.o] 0 [.int .u8 (c.toNat : Int)] = .int .u8 (c.toNat : Int) :: [D.o, D.o, D.o, D.o, D.o, D.o, D.o] := rfl
  have d1 : splice (PV.int .u8 (c.toNat : Int) :: [D.o, D.o, D.o, D.o, D.o, D.o, D.o]) 1 [.int .u8 (w.toNat : Int)] = .int .u8 (c.toNat : Int) :: .int .u8 (w.toNat : Int) :: [PV.int .u8 0, .int .u8 0, .int .u8 0, .int .u8 0, .int .u8 0, .int .u8 0] := rfl
  have dB : splice (PV.int .u8 (c.toNat : Int) :: .int .u8 (w.toNat : Int) :: [PV.int .u8 0, .int .u8 0, .int .u8 0, .int .u8 0, .int .u8 0, .int .u8 0]) 2 (((bsl r).take 6).flatten) = u8c (c :: w :: r) := by
    rw [sl_flat, List.take_of_length_le (by omega)]
    exact spl_sk (a := [PV.int .u8 (c.toNat : Int), .int .u8 (w.toNat : Int)]) (o := 0) rfl rfl (spl_hd0 (by rw [u8c_len, hr]; rfl))
  have el : (c :: w :: r).length = 8 := by simp [hr]
  have ln : (u8c (c :: w :: r)).length = 8 := u8c_len8 el
  have sc := u8c_sc (c :: w :: r)
  have c0 := cut_hd0 ln
  have dA := spl_any8 (cs := u8c (c :: w :: r)) ln ln
  have ip : PlL (u8c (c :: w :: r)) := inferInstance
  have ic : ClL (u8c (c :: w :: r)) := inferInstance
  generalize u8c (c :: w :: r) = M at *
  refine T110 fun hB hA => ?_
  refine W ?_
  exact hk
def tgt (hi lo : Nat) : List UInt8 := 1 :: 2 :: (be hi 4 ++ be lo 2)
theorem tgt_len (hi lo : Nat) : (tgt hi lo).length = 8 := by simp [tgt, be_len]
set_option maxHeartbeats 8000000 in
theorem uExtTarget {hi lo : Nat} (h1 : hi < 4294967296) (h2 : lo < 65536) : U Tryz.prog 55 [.int .i64 1, .int .i64 hi, .int .i64 lo] (.tup [.agg (u8c (tgt hi lo)), .int .i64 0]) := by
  intro σ Post hk
  have el : (mk1 hi lo).length = 8 := mk1_len hi lo
  have el2 : (tgt hi lo).length = 8 := tgt_len hi lo
  have ed : ((mk1 hi lo).drop 2).take 6 = be hi 4 ++ be lo 2 := by
    rw [mk1, List.drop_left' (by rw [be_len]), List.take_of_length_le (by simp [be_len])]
  have ln : (u8c (mk1 hi lo)).length = 8 := u8c_len8 el
  have sc := u8c_sc (mk1 hi lo)
  have c0 := cut_hd0 ln
  have dA := fun (cs : List PV) (hc : cs.length = 8) => spl_any8 ln hc
  have d1 := dA [D.o, D.o, D.o, D.o, D.o, D.o, D.o, D.o] rfl
  have ln2 : (u8c (tgt hi lo)).length = 8 := u8c_len8 el2
  have sc2 := u8c_sc (tgt hi lo)
  have c2 := cut_hd0 ln2
  have d2 : splice [D.o, D.o, D.o, D.o, D.o, D.o, D.o, D.o] 0 (u8c (tgt hi lo)) = u8c (tgt hi lo) := spl_any8 ln2
  clear dA
  refine T55 fun hB hA => ?_
  refine W ?_
  refine cu (uMake1 h1 h2) ?_
  refine W ?_
  have ux := uExtOf (c := 1) (w := 2) (r := be hi 4 ++ be lo 2) (by simp [be_len])
  rw [← ed] at ux
  refine cu ux ?_
  skip
  refine W ?_
  exact hk
def tgtF (pe : Ad) (n : Int) : List UInt8 × Int := if router4 pe = true then (tgt (big (pe.b.take 4) 0) n.toNat, 0) else (z8, 1)
theorem tgtF_len (pe : Ad) (n : Int) : (tgtF pe n).1.length = 8 := by
  unfold tgtF; split
  · exact tgt_len _ _
  · rfl
theorem tgtF_e (pe : Ad) (n m : Int) : (tgtF pe n).2 = (tgtF pe m).2 := by unfold tgtF; split <;> rfl
theorem tgtF_inj {pe : Ad} {n m : Int} (h0 : (tgtF pe n).2 = 0) (n0 : 0 ≤ n) (n1 : n < 65536) (m0 : 0 ≤ m) (m1 : m < 65536) (h : (tgtF pe n).1 = (tgtF pe m).1) : n = m := by
  unfold tgtF at h h0
  split at h
  · rename_i hr
    simp only [tgt, List.cons.injEq, true_and] at h
    have h := List.append_cancel_left h
    have := be_inj (n := n.toNat) (m := m.toNat) (k := 2) (by omega) (by omega) h
    omega
  · rename_i hr; rw [if_neg hr] at h0; cases h0
set_option maxHeartbeats 8000000 in
theorem uVTarget {pe : Ad} {n : Int} (hp : okD pe) (n0 : 0 ≤ n) (n1 : n < 65536) : U Tryz.prog 20 [.agg (adc pe), .int .i64 n] (.tup [.agg (u8c (tgtF pe n).1), .int .i64 (tgtF pe n).2]) := by
  intro σ Post hk
  have sc := adc_sc (a := pe)
  have ln := adc_len hp
  have c0 := adc_all hp
  have cs := adc_s (a := pe)
  have zl : (u8c z8).length = 8 := rfl
  have d8 : splice [D.o, D.o, D.o, D.o, D.o, D.o, D.o, D.o] 0 [D.o, D.o, D.o, D.o, D.o, D.o, D.o, D.o] = u8c z8 := rfl
  have zc := cut_hd0 zl
  have lt : (u8c (tgt (big (pe.b.take 4) 0) n.toNat)).length = 8 := u8c_len8 (tgt_len _ _)
  have st := u8c_sc (tgt (big (pe.b.take 4) 0) n.toNat)
  have ct0 := cut_hd0 lt
  have dt : splice [D.o, D.o, D.o, D.o, D.o, D.o, D.o, D.o] 0 (u8c (tgt (big (pe.b.take 4) 0) n.toNat)) = u8c (tgt (big (pe.b.take 4) 0) n.toNat) := spl_any8 lt
  refine T20 fun hB hA => ?_
  refine W ?_
  refine cu (uRightD hp) ?_
  cases hr : okAd pe with
  | true =>
    by_cases h4 : pe.s = 4
    · have hf : tgtF pe n = (tgt (big (pe.b.take 4) 0) n.toNat, 0) := by unfold tgtF; rw [if_pos (by simp [router4, hr, h4])]
      have ea : abytes pe = pe.b.take 4 := by unfold abytes; rw [if_pos hr, h4]; rfl
      have l4 : (pe.b.take 4).length = 4 := by rw [List.length_take, hp]; rfl
      have hb : big (pe.b.take 4) 0 < 4294967296 := by have := big_lt (pe.b.take 4) 0; rw [l4] at this; omega
      have en : (n : Int) = ((n.toNat : Nat) : Int) := by omega
      refine W ?_
      refine cu (uABytes hp) ?_
      rw [ea]
      refine W ?_
      refine ct ?_
      refine tOpen (l := pe.b.take 4) (by omega) ?_
      refine W ?_
      refine ct ?_
      refine tNumOk (l := pe.b.take 4) (z := 4) (lget rfl rfl) (by omega) (by omega) (by omega) ?_
      rw [lset rfl, List.take_take, show min 4 4 = 4 from rfl]
      refine W ?_
      have q := uExtTarget (hi := big (pe.b.take 4) 0) (lo := n.toNat) hb (by omega)
      rw [← en] at q
      refine cu (q) ?_
      rw [hf] at hk
      refine W ?_
      exact hk
    · have hf : tgtF pe n = (z8, 1) := by unfold tgtF; rw [if_neg (by simp [router4, h4])]
      rw [hf] at hk
      refine W ?_
      exact hk
  | false =>
    have hf : tgtF pe n = (z8, 1) := by unfold tgtF; rw [if_neg (by simp [router4, hr])]
    rw [hf] at hk
    refine W ?_
    exact hk
def twF (o v : Vr) : Bool := decide (o.name = v.name) || (decide (o.num = v.num) || decide (o.rd = v.rd))
def rightsG : List Vr → List Vr → Bool
  | _, [] => true
  | p, v :: r => vrR v && (!(p.any fun o => twF o v) && rightsG (p ++ [v]) r)
def rightsF (l : List Vr) : Bool := rightsG [] l && decide (l.length ≤ 4)
set_option maxHeartbeats 8000000 in
theorem tTwice {o v : Vr} {σ : VHeap} {Post : KP} {p g : Nat} (ho : okVr o) (hv : okVr v) (hg : vGet σ p g = some (.box (vrC v) false)) (hk : Post (.bool (twF o v)) σ) : T Tryz.prog 52 [.agg (vrC o), .ptr p g 0] σ Post := by
  skip
  have sc := vrC_sc (x := o)
  have ln := vrC_len ho
  have c0 := vrC_all ho
  have g1 := vrC_gname ho
  have g2 := vrC_gnum ho
  have g3 := vrC_grd ho
  have e1 := vrC_gname hv
  have e2 := vrC_gnum hv
  have e3 := vrC_grd hv
  have l3 : (u8c o.rd).length = 8 := u8c_len8 ho.rd
  have l4 : (u8c v.rd).length = 8 := u8c_len8 hv.rd
  have hi := vGet_lt hg
  have q0 : eqCells [.i .u8, .i .u8, .i .u8, .i .u8, .i .u8, .i .u8, .i .u8, .i .u8] (u8c o.rd) (u8c v.rd) = some (decide (o.rd = v.rd)) := by have q := eqC_u8 o.rd v.rd (by rw [ho.rd, hv.rd]); rw [ho.rd] at q; exact q.trans (by rw [Bool.beq_eq_decide_eq])
  refine T52 fun hB hA => ?_
  by_cases h1 : o.name = v.name
  · have sb : sbin .eql o.name v.name = some (.bool true) := sb_eqlT h1
    refine W ?_
    exact fin hk (show PV.bool (twF o v) = .bool true by simp [twF, h1])
  · have sb : sbin .eql o.name v.name = some (.bool false) := by rw [sb_eql, decide_eq_false h1]
    by_cases h2 : o.num = v.num
    · refine W ?_
      exact fin hk (show PV.bool (twF o v) = .bool true by simp [twF, h1, h2])
    · by_cases h3 : o.rd = v.rd
      · rw [decide_eq_true h3] at q0
        refine W ?_
        exact fin hk (show PV.bool (twF o v) = .bool true by simp [twF, h1, h2, h3])
      · rw [decide_eq_false h3] at q0
        refine W ?_
        exact fin hk (show PV.bool (twF o v) = .bool false by simp [twF, h1, h2, h3])
theorem rightsG_len : ∀ (p l : List Vr) (v : Vr), v ∈ l → rightsG p l = true → vrR v = true
  | _, [], _, h, _ => by cases h
  | p, x :: r, v, h, hr => by
    unfold rightsG at hr
    simp only [Bool.and_eq_true] at hr
    rcases List.mem_cons.1 h with rfl | h
    · exact hr.1
    · exact rightsG_len _ _ _ h hr.2.2
theorem rightsG_apart : ∀ (p l : List Vr) (i k : Nat) (x y : Vr), rightsG p l = true → k < i → l[i]? = some x → (l[k]? = some y) → twF y x = false
  | p, [], i, k, x, y, _, _, h, _ => by simp at h
  | p, v :: r, i, k, x, y, hr, hk, h1, h2 => by
    have key : ∀ (p : List Vr) (l : List Vr) (o : Vr), o ∈ p → rightsG p l = true → ∀ x, x ∈ l → twF o x = false := by
      intro p l o ho
      induction l generalizing p with
      | nil => intro _ x h; cases h
      | cons z t ih =>
        intro hr x hx
        unfold rightsG at hr
        simp only [Bool.and_eq_true, Bool.not_eq_true'] at hr
        rcases List.mem_cons.1 hx with rfl | hx
        · exact List.any_eq_false.1 hr.2.1 o ho |> Bool.eq_false_iff.2
        · exact ih (p ++ [z]) (List.mem_append_left _ ho) hr.2.2 x hx
    have hr' := hr
    unfold rightsG at hr
    simp only [Bool.and_eq_true, Bool.not_eq_true'] at hr
    obtain ⟨i', rfl⟩ : ∃ i', i = i' + 1 := ⟨i - 1, by omega⟩
    rw [List.getElem?_cons_succ] at h1
    cases k with
    | zero =>
      rw [List.getElem?_cons_zero] at h2; cases h2
      exact key _ _ v (List.mem_append_right _ (List.mem_singleton.2 rfl)) hr.2.2 x (List.mem_of_getElem? h1)
    | succ k =>
      rw [List.getElem?_cons_succ] at h2
      exact rightsG_apart _ r i' k x y hr.2.2 (by omega) h1 h2
theorem rightsG_step {p l : List Vr} {v : Vr} (h : vrR v = true) (h2 : (p.any fun o => twF o v) = false) : rightsG p (v :: l) = rightsG (p ++ [v]) l := by
  rw [rightsG, h, h2]; rfl
end Go.Proofs.YtjhmobdncjhcnaaGreatDoor
