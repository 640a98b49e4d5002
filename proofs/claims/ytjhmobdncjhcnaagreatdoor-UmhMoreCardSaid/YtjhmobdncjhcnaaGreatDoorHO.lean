/- mroute.read. -/
import Derived.Test.YtjhmobdncjhcnaaGreatDoorHA
namespace Go.Proofs.YtjhmobdncjhcnaaGreatDoor
open Go Go.V
set_option maxRecDepth 10000
open D in
def vb223_9 : VC :=
  .seq (.dreg [(m 52 (.load (some 62) (t 8)), []), (m 53 (.load none (t 10)), []), (m 54 (.mov (t 53)), [1]), (g 55 54 true (.load none (t 4)), [2]), (g 56 54 true (.nilCheck (t 55)), [3, 2]), (g 57 54 true (.field 0 (t 56)), [4, 2]), (g 58 54 true (.call false 222 [(t 57)]), [5, 2, 2]), (g 59 54 true (.un .not (t 58)), [6, 2]), (m 60 (.pick (t 54) (t 59) (.c (.bool false))), [2, 7]), (m 61 (.mov (t 60)), [8, 6]), (g 62 61 true (.load none (t 4)), [9]), (g 63 61 true (.nilCheck (t 62)), [10, 9]), (g 64 61 true (.field 0 (t 63)), [11, 9]), (g 65 61 true (.call false 116 [(t 64)]), [12, 9, 9]), (g 66 61 true (.bin .eql .num (t 65) (.c q)), [13, 9]), (m 67 (.pick (t 61) (t 66) (.c (.bool false))), [9, 14]), (e (.store 62 (t 6) (t 52)), [0, 13, 0]), (m 7 (.mov (t 67)), [15, 16, 0, 1, 2, 3, 4, 5, 6, 7, 8, 9, 10, 11, 12, 13, 14, 15, 16])] [(2, 0), (1, 1), (2, 2), (1, 3), (1, 4), (1, 5), (0, 6), (2, 7), (2, 8), (2, 9), (1, 10), (1, 11), (1, 12), (0, 13), (2, 14), (2, 15), (0, 16), (2, 17)] [0, 0, 2, 6, 14, 30, 62, 126, 254, 510, 1022, 2046, 4094, 8190, 16382, 32766, 16383, 131071]) <|
  .ret
open D in
def vb223_8 : VC :=
  .seq (.seq (.region [m 43 (.field 3 (t 9)), m 44 (.load none (t 43))]) <|
  .cond (t 44) (.dreg [(m 45 (.load none (t 11)), []), (m 46 (.load none (t 4)), []), (m 47 (.nilCheck (t 46)), [1]), (m 48 (.field 0 (t 47)), [2]), (m 49 (.call false 116 [(t 48)]), [3]), (m 50 (.callV (t 45) [(t 49)]), [0, 4, 4]), (m 51 (.field 44 (t 8)), [0, 1, 2, 3, 4, 5]), (e (.store 17 (t 51) (t 50)), [6, 5, 5, 0, 1, 2, 3, 4, 5])] [(2, 0), (1, 1), (1, 2), (1, 3), (0, 4), (0, 5), (1, 6), (0, 7)] [0, 0, 2, 6, 14, 31, 63, 127]) (.skip)) <|
  vb223_9
open D in
def vb223_7 : VC :=
  .seq (.seq (.region [m 35 (.field 2 (t 9)), m 36 (.load none (t 35))]) <|
  .cond (t 36) (.seq (.region [m 37 (.mov (t 12)), m 38 (.callV (t 37) []), m 39 (.field 10 (t 8)), e (.store 17 (t 39) (t 38))]) <|
  .region [m 40 (.mov (t 12)), m 41 (.callV (t 40) []), m 42 (.field 27 (t 8)), e (.store 17 (t 42) (t 41))]) (.skip)) <|
  vb223_8
open D in
def vb223_6 : VC :=
  .seq (.seq (.region [m 30 (.field 1 (t 9)), m 31 (.load none (t 30))]) <|
  .cond (t 31) (.region [m 32 (.load none (t 4)), m 33 (.call false 58 [(t 32), (.c (i 4))]), m 34 (.field 9 (t 8)), e (.store 1 (t 34) (t 33))]) (.skip)) <|
  vb223_7
open D in
def vb223_5 : VC :=
  .seq (.seq (.region [m 23 (.field 0 (t 9)), m 24 (.load none (t 23))]) <|
  .cond (t 24) (.dreg [(m 25 (.field 1 (t 8)), []), (m 26 (.sliceArr 8 1 (t 25) none none), [0]), (m 27 (.load none (t 4)), []), (m 28 (.call false 150 [(t 27), (.c (i 8))]), [2]), (m 29 (.copyTo 1 (t 26) (t 28)), [1, 3, 3])] [(2, 0), (2, 1), (1, 2), (0, 3), (0, 4)] [0, 1, 0, 4, 15]) (.skip)) <|
  vb223_6
open D in
theorem vb223_eq : vb223 =
  (.seq (.region [m 4 (.box 0 (t 1)), m 6 (.alloc 1 [q, o, o, o, o, o, o, o, o, q, q, o, o, o, o, o, o, o, o, o, o, o, o, o, o, o, o, q, o, o, o, o, o, o, o, o, o, o, o, o, o, o, o, o, q, o, o, o, o, o, o, o, o, o, o, o, o, o, o, o, o, (.str [])]), m 7 (.mov (.c (.bool false)))]) <|
  .seq (.region [m 13 (.mov (t 0)), m 14 (.mov (t 2)), m 15 (.build [q, o, o, o, o, o, o, o, o, q, q, o, o, o, o, o, o, o, o, o, o, o, o, o, o, o, o, q, o, o, o, o, o, o, o, o, o, o, o, o, o, o, o, o, q, o, o, o, o, o, o, o, o, o, o, o, o, o, o, o, o, (.str [])] [(0, 1, (t 13)), (61, 1, (t 14))]), m 8 (.alloc 2 [q, o, o, o, o, o, o, o, o, q, q, o, o, o, o, o, o, o, o, o, o, o, o, o, o, o, o, q, o, o, o, o, o, o, o, o, o, o, o, o, o, o, o, o, q, o, o, o, o, o, o, o, o, o, o, o, o, o, o, o, o, (.str [])]), e (.store 62 (t 8) (t 15))]) <|
  .seq (.region [m 17 (.mov (t 0)), m 18 (.call false 144 [(t 17)]), m 16 (.mov (t 18)), m 19 (.extract 0 (t 16)), m 20 (.extract 1 (t 16)), m 9 (.alloc 3 [(.bool false), (.bool false), (.bool false), (.bool false)]), m 10 (.alloc 4 [(.bool false)]), e (.store 4 (t 9) (t 19)), e (.store 1 (t 10) (t 20))]) <|
  .seq (.region [m 21 (.func 246 [(t 4), (t 10)]), m 11 (.alloc 5 [.undef]), e (.store 1 (t 11) (t 21))]) <|
  .seq (.region [m 22 (.func 247 [(t 4), (t 10), (t 11)]), m 12 (.mov (t 22))]) <|
  vb223_5) := rfl
def RInv (σ : VHeap) (i gi : Nat) (p : Pt) (S : RS) (e : Env) (s : VHeap) : Prop := (∃ g, e 4 = .ptr (σ.length + 0) g 0 ∧ g = 1) ∧ (∃ g, e 6 = .ptr (σ.length + 1) g 0 ∧ g = 1) ∧ (∃ g, e 8 = .ptr (σ.length + 2) g 0 ∧ g = 1) ∧ (∃ g, e 9 = .ptr (σ.length + 3) g 0 ∧ g = 1) ∧ (∃ g, e 10 = .ptr (σ.length + 4) g 0 ∧ g = 1) ∧ (∃ g, e 11 = .ptr (σ.length + 5) g 0 ∧ g = 1) ∧ e 12 = .fn 247 [.ptr (σ.length + 0) 1 0, .ptr (σ.length + 4) 1 0, .ptr (σ.length + 5) 1 0] ∧ s = σ.set i (rdO gi S.l S.bad) ++ [(1, .box [.ptr i gi 0] false), (1, .box mz false), (1, .box (mrc S.m) false), (1, .box (ptc p) false), (1, .box [.bool S.ok] false), (1, .box [.fn 246 [.ptr (σ.length + 0) 1 0, .ptr (σ.length + 4) 1 0]] false)]
attribute [local irreducible] vBuild vCallV
section
variable {σ : VHeap} {i gi : Nat} {p : Pt} {S : RS} {Q : QP} {env : Env} {h : VHeap} {N : Nat}
set_option maxHeartbeats 2000000 in
theorem rd5 (hi : i < σ.length) (hN : N ≤ 140737488355328) (oS : okS N S) (hI : RInv σ i gi p S env h) (k : ∀ env' h', RInv σ i gi p (rs1 p S) env' h' → vrun Tryz.prog σ.length vb223_6 env' h' Q) : vrun Tryz.prog σ.length vb223_5 env h Q := by
  obtain ⟨⟨_, e4, rfl⟩, ⟨_, e6, rfl⟩, ⟨_, e8, rfl⟩, ⟨_, e9, rfl⟩, ⟨_, e10, rfl⟩, ⟨_, e11, rfl⟩, e12, rfl⟩ := hI
  have hn : (σ.set i (rdO gi S.l S.bad)).length = σ.length := List.length_set
  have q1 : cut (ptc p) 0 none = some (.bool p.rd) := rfl
  have ml := mrc_len oS.m
  unfold vb223_5
  refine cutp (RInv σ i gi p (rs1 p S)) ?_ fun u s' hI' => k _ _ hI'
  cases hp : p.rd with
  | false =>
    rw [hp] at q1
    have e : rs1 p S = S := by unfold rs1; rw [hp, if_neg (by simp)]
    rw [e]
    refine W ?_
    exact ⟨⟨1, e4, rfl⟩, ⟨1, e6, rfl⟩, ⟨1, e8, rfl⟩, ⟨1, e9, rfl⟩, ⟨1, e10, rfl⟩, ⟨1, e11, rfl⟩, e12, rfl⟩
  | true =>
    rw [hp] at q1
    have hl := rdT_len S.l S.bad 8
    have oS2 := rs1_ok (p := p) oS
    obtain ⟨x, q, c, hx⟩ : ∃ x q c, rdT S.l S.bad 8 = (x, q, c) := ⟨_, _, _, rfl⟩
    have e : rs1 p S = ⟨{ S.m with rd := over x S.m.rd }, q, c, S.ok⟩ := by unfold rs1; rw [hp, if_pos rfl, hx]
    rw [e] at oS2
    rw [e]
    rw [hx] at hl
    dsimp only at hl
    have hn2 : (σ.set i (rdO gi q c)).length = σ.length := List.length_set
    have dB : splice (mrc S.m) 1 (((bsl x).take 8).flatten) = mrc { S.m with rd := over x S.m.rd } := by
      rw [sl_flat, List.take_of_length_le (by omega)]
      exact ms_over oS.m hl.1
    have ml2 := mrc_len oS2.m
    refine Wo ?_
    refine drJ (fun h => ∃ cs, vGet h (σ.length + 2) 1 = some (.box cs false) ∧ cs.length = 62) [(2, 0), (2, 1), (1, 2), (0, 3), (0, 4)] (by kernel_rfl) (by kernel_rfl) (by exact z_ol) ⟨_, lget hn rfl, ml⟩ ?_
    refine sv2n (fun hh ⟨cs, hg, hcl⟩ => by exact z_ya) ?_
    refine sv2n (fun hh ⟨cs, hg, hcl⟩ => by exact z_ya) ?_
    refine sv1n (by exact z_ya) ?_
    refine sv_0 ?_
    refine ct ?_
    refine oTake hx (by have := oS.l; omega) hi ?_
    refine st_end ⟨⟨_, lget hn2 rfl, ml⟩, ?_⟩
    refine sv_0 ?_
    refine est (by exact z_ea) ?_
    refine st_end ⟨⟨_, lget hn2 rfl, ml2⟩, ?_⟩
    refine Wo ?_
    exact ⟨⟨1, e4, rfl⟩, ⟨1, e6, rfl⟩, ⟨1, e8, rfl⟩, ⟨1, e9, rfl⟩, ⟨1, e10, rfl⟩, ⟨1, e11, rfl⟩, e12, rfl⟩
set_option maxHeartbeats 2000000 in
theorem rd6 (hi : i < σ.length) (_hN : N ≤ 140737488355328) (oS : okS N S) (hI : RInv σ i gi p S env h) (k : ∀ env' h', RInv σ i gi p (rs2 p S) env' h' → vrun Tryz.prog σ.length vb223_7 env' h' Q) : vrun Tryz.prog σ.length vb223_6 env h Q := by
  obtain ⟨⟨_, e4, rfl⟩, ⟨_, e6, rfl⟩, ⟨_, e8, rfl⟩, ⟨_, e9, rfl⟩, ⟨_, e10, rfl⟩, ⟨_, e11, rfl⟩, e12, rfl⟩ := hI
  have hn : (σ.set i (rdO gi S.l S.bad)).length = σ.length := List.length_set
  have q1 : cut (ptc p) 1 none = some (.bool p.aa) := rfl
  have ml := mrc_len oS.m
  unfold vb223_6
  refine cutp (RInv σ i gi p (rs2 p S)) ?_ fun u s' hI' => k _ _ hI'
  cases hp : p.aa with
  | false =>
    rw [hp] at q1
    have e : rs2 p S = S := by unfold rs2; rw [hp, if_neg (by simp)]
    rw [e]
    refine W ?_
    exact ⟨⟨1, e4, rfl⟩, ⟨1, e6, rfl⟩, ⟨1, e8, rfl⟩, ⟨1, e9, rfl⟩, ⟨1, e10, rfl⟩, ⟨1, e11, rfl⟩, e12, rfl⟩
  | true =>
    rw [hp] at q1
    obtain ⟨x, q, c, hx⟩ : ∃ x q c, rdT S.l S.bad 4 = (x, q, c) := ⟨_, _, _, rfl⟩
    have e : rs2 p S = ⟨{ S.m with aa := (big x 0 : Nat) }, q, c, S.ok⟩ := by unfold rs2; rw [hp, if_pos rfl, hx]
    rw [e]
    have hn2 : (σ.set i (rdO gi q c)).length = σ.length := List.length_set
    have dB := ms_as (z := (big x 0 : Nat)) oS.m
    refine W ?_
    refine ct ?_
    refine oNum (z := 4) hx (by decide) (by decide) hi ?_
    refine W ?_
    exact ⟨⟨1, e4, rfl⟩, ⟨1, e6, rfl⟩, ⟨1, e8, rfl⟩, ⟨1, e9, rfl⟩, ⟨1, e10, rfl⟩, ⟨1, e11, rfl⟩, e12, rfl⟩
set_option maxHeartbeats 2000000 in
theorem rd7 (hi : i < σ.length) (hN : N ≤ 140737488355328) (oS : okS N S) (hI : RInv σ i gi p S env h) (k : ∀ env' h', RInv σ i gi p (rs3 p S) env' h' → vrun Tryz.prog σ.length vb223_8 env' h' Q) : vrun Tryz.prog σ.length vb223_7 env h Q := by
  obtain ⟨⟨_, e4, rfl⟩, ⟨_, e6, rfl⟩, ⟨_, e8, rfl⟩, ⟨_, e9, rfl⟩, ⟨_, e10, rfl⟩, ⟨_, e11, rfl⟩, e12, rfl⟩ := hI
  have hn : (σ.set i (rdO gi S.l S.bad)).length = σ.length := List.length_set
  have q1 : cut (ptc p) 2 none = some (.bool p.fl) := rfl
  have ml := mrc_len oS.m
  have hcl : callOk Tryz.prog 247 = true := by kernel_rfl
  unfold vb223_7
  refine cutp (RInv σ i gi p (rs3 p S)) ?_ fun u s' hI' => k _ _ hI'
  cases hp : p.fl with
  | false =>
    rw [hp] at q1
    have e : rs3 p S = S := by unfold rs3; rw [hp, if_neg (by simp)]
    rw [e]
    refine W ?_
    exact ⟨⟨1, e4, rfl⟩, ⟨1, e6, rfl⟩, ⟨1, e8, rfl⟩, ⟨1, e9, rfl⟩, ⟨1, e10, rfl⟩, ⟨1, e11, rfl⟩, e12, rfl⟩
  | true =>
    rw [hp] at q1
    have e : rs3 p S = rsG (rsS S) := by unfold rs3; rw [hp, if_pos rfl]
    rw [e]
    have o1 := rsS_ok oS
    have o2 := rsG_ok o1
    have l1 := oS.l
    have l2 := o1.l
    obtain ⟨x, q, c, hx⟩ : ∃ x q c, rdT S.l S.bad 1 = (x, q, c) := ⟨_, _, _, rfl⟩
    obtain ⟨x', q', c', hx'⟩ : ∃ x' q' c', rdT q c (big x 0 / 8) = (x', q', c') := ⟨_, _, _, rfl⟩
    have eS : rsS S = ⟨{ S.m with s := (ofA x').1 }, q', c', S.ok && decide (big x 0 % 8 = 0) && decide ((ofA x').2 = 0)⟩ := by
      unfold rsS btT; rw [hx]; dsimp only; rw [hx']
    have hn2 : (σ.set i (rdO gi q' c')).length = σ.length := List.length_set
    have dB := ms_s oS.m (ofA_ok x')
    have al := adc_len (ofA_ok x')
    have as1 := adc_sc (a := (ofA x').1)
    have ml1 : (mrc { S.m with s := (ofA x').1 }).length = 62 := by have := mrc_len o1.m; rw [eS] at this; exact this
    generalize hok : (S.ok && decide (big x 0 % 8 = 0) && decide ((ofA x').2 = 0)) = ok1 at *
    obtain ⟨y, r, d, hy⟩ : ∃ x q c, rdT q' c' 1 = (x, q, c) := ⟨_, _, _, rfl⟩
    obtain ⟨y', r', d', hy'⟩ : ∃ x' q' c', rdT r d (big y 0 / 8) = (x', q', c') := ⟨_, _, _, rfl⟩
    have eG : rsG (rsS S) = ⟨{ { S.m with s := (ofA x').1 } with g := (ofA y').1 }, r', d', ok1 && decide (big y 0 % 8 = 0) && decide ((ofA y').2 = 0)⟩ := by
      rw [eS]; unfold rsG btT; rw [hy]; dsimp only; rw [hy']
    have hn3 : (σ.set i (rdO gi r' d')).length = σ.length := List.length_set
    have okm1 : okM { S.m with s := (ofA x').1 } := by have := o1.m; rw [eS] at this; exact this
    have dC := ms_g okm1 (ofA_ok y')
    have al' := adc_len (ofA_ok y')
    have as2 := adc_sc (a := (ofA y').1)
    rw [eS] at l2
    dsimp only at l2
    rw [eG]
    refine W ?_
    refine callC (vs := []) rfl hcl rfl ?_
    refine oBits (m := mrc S.m) (pt := p) (ok := S.ok) hx hx' (by omega) hi ?_
    rw [hok]
    unfold rdL
    refine W ?_
    refine callC (vs := []) rfl hcl rfl ?_
    refine oBits (m := mrc { S.m with s := (ofA x').1 }) (pt := p) (ok := ok1) hy hy' (by omega) hi ?_
    unfold rdL
    refine W ?_
    exact ⟨⟨1, e4, rfl⟩, ⟨1, e6, rfl⟩, ⟨1, e8, rfl⟩, ⟨1, e9, rfl⟩, ⟨1, e10, rfl⟩, ⟨1, e11, rfl⟩, e12, rfl⟩
set_option maxHeartbeats 2000000 in
theorem rd8 (hi : i < σ.length) (hN : N ≤ 140737488355328) (oS : okS N S) (hI : RInv σ i gi p S env h) (k : ∀ env' h', RInv σ i gi p (rs4 p S) env' h' → vrun Tryz.prog σ.length vb223_9 env' h' Q) : vrun Tryz.prog σ.length vb223_8 env h Q := by
  obtain ⟨⟨_, e4, rfl⟩, ⟨_, e6, rfl⟩, ⟨_, e8, rfl⟩, ⟨_, e9, rfl⟩, ⟨_, e10, rfl⟩, ⟨_, e11, rfl⟩, e12, rfl⟩ := hI
  have hn : (σ.set i (rdO gi S.l S.bad)).length = σ.length := List.length_set
  have hr : vGet (σ.set i (rdO gi S.l S.bad)) i gi = some (.box [.sl (bsl S.l), .bool S.bad] false) := hget_eq hi
  have q1 : cut (ptc p) 3 none = some (.bool p.fr) := rfl
  have ml := mrc_len oS.m
  have hcl : callOk Tryz.prog 246 = true := by kernel_rfl
  unfold vb223_8
  refine cutp (RInv σ i gi p (rs4 p S)) ?_ fun u s' hI' => k _ _ hI'
  cases hp : p.fr with
  | false =>
    rw [hp] at q1
    have e : rs4 p S = S := by unfold rs4; rw [hp, if_neg (by simp)]
    rw [e]
    refine W ?_
    exact ⟨⟨1, e4, rfl⟩, ⟨1, e6, rfl⟩, ⟨1, e8, rfl⟩, ⟨1, e9, rfl⟩, ⟨1, e10, rfl⟩, ⟨1, e11, rfl⟩, e12, rfl⟩
  | true =>
    rw [hp] at q1
    have l1 := oS.l
    obtain ⟨x, q, c, hx⟩ : ∃ x q c, rdT S.l S.bad (if S.bad then 0 else S.l.length) = (x, q, c) := ⟨_, _, _, rfl⟩
    have e : rs4 p S = ⟨{ S.m with f := (ofA x).1 }, q, c, S.ok && decide ((ofA x).2 = 0)⟩ := by unfold rs4 rsF; rw [hp, if_pos rfl, hx]
    rw [e]
    have hn2 : (σ.set i (rdO gi q c)).length = σ.length := List.length_set
    have dB := ms_f oS.m (ofA_ok x)
    have al := adc_len (ofA_ok x)
    have as1 := adc_sc (a := (ofA x).1)
    have ml1 : (mrc { S.m with f := (ofA x).1 }).length = 62 := mrc_len ⟨oS.m.rd, oS.m.s, oS.m.g, ofA_ok x⟩
    refine Wo ?_
    refine drJ (fun h => vGet h (σ.length + 5) 1 = some (.box [.fn 246 [.ptr (σ.length + 0) 1 0, .ptr (σ.length + 4) 1 0]] false)) [(2, 0), (1, 1), (1, 2), (1, 3), (0, 4), (0, 5), (1, 6), (0, 7)] (by kernel_rfl) (by kernel_rfl) (by exact z_ol) (lget hn rfl) ?_
    refine sv2n (fun hh hg => by exact z_ya) ?_
    refine Wo ?_
    refine sv_0 ?_
    refine ct ?_
    refine oLeft hi ?_
    refine st_end ⟨lget hn rfl, ?_⟩
    refine Wo ?_
    refine sv_0 ?_
    refine callC (vs := [.int .i64 ((if S.bad then 0 else S.l.length : Nat) : Int)]) rfl hcl rfl ?_
    refine oTk (m := mrc S.m) (pt := p) (ok := S.ok) (tk := .fn 246 [.ptr (σ.length + 0) 1 0, .ptr (σ.length + 4) 1 0]) hx (by omega) hi ?_
    refine st_end ⟨lget hn2 rfl, ?_⟩
    unfold rdL
    refine Wo ?_
    refine sv_0 ?_
    refine est (by exact z_ea) ?_
    refine st_end ⟨lget hn2 rfl, ?_⟩
    refine Wo ?_
    exact ⟨⟨1, e4, rfl⟩, ⟨1, e6, rfl⟩, ⟨1, e8, rfl⟩, ⟨1, e9, rfl⟩, ⟨1, e10, rfl⟩, ⟨1, e11, rfl⟩, e12, rfl⟩
set_option maxHeartbeats 2000000 in
theorem rd9 {Post : KP} (hB : belH σ.length σ) (hi : i < σ.length) (oS : okM S.m) (hI : RInv σ i gi p S env h) (hk : Post (.tup [.agg (mrc S.m), .bool (S.ok && (!S.bad && decide (S.l.length = 0)))]) (σ.set i (rdO gi S.l S.bad))) : vrun Tryz.prog σ.length vb223_9 env h (vend vf223 (TrimP σ.length Post)) := by
  obtain ⟨⟨_, e4, rfl⟩, ⟨_, e6, rfl⟩, ⟨_, e8, rfl⟩, ⟨_, e9, rfl⟩, ⟨_, e10, rfl⟩, ⟨_, e11, rfl⟩, e12, rfl⟩ := hI
  have hn : (σ.set i (rdO gi S.l S.bad)).length = σ.length := List.length_set
  have hr : vGet (σ.set i (rdO gi S.l S.bad)) i gi = some (.box [.sl (bsl S.l), .bool S.bad] false) := hget_eq hi
  have hB1 : belH σ.length (σ.set i (rdO gi S.l S.bad)) := belH_setB hB
  have ml := mrc_len oS
  have mc := mrc_all oS
  have ms := mrc_sc (m := S.m)
  have mm : splice mz 0 (mrc S.m) = mrc S.m := ms_all oS
  have mzl : mz.length = 62 := rfl
  unfold vb223_9
  cases ho : S.ok with
  | false =>
    rw [ho, Bool.false_and] at hk
    refine Wo ?_
    refine drJ (fun h => vGet h (σ.length + 2) 1 = some (.box (mrc S.m) false)) [(2, 0), (1, 1), (2, 2), (1, 3), (1, 4), (1, 5), (0, 6), (2, 7), (2, 8), (2, 9), (1, 10), (1, 11), (1, 12), (0, 13), (2, 14), (2, 15), (0, 16), (2, 17)] (by kernel_rfl) (by kernel_rfl) (by exact z_ol) (lget hn rfl) ?_
    have jj : vGet (σ.set i (rdO gi S.l S.bad) ++ [(1, VObj.box [.ptr i gi 0] false), (1, .box mz false), (1, .box (mrc S.m) false), (1, .box (ptc p) false), (1, .box [.bool false] false), (1, .box [.fn 246 [.ptr (σ.length + 0) 1 0, .ptr (σ.length + 4) 1 0]] false)]) (σ.length + 2) 1 = some (.box (mrc S.m) false) := lget hn rfl
    refine Wo ?_
    refine sv_0 ?_
    refine est (by exact z_ea) ?_
    refine st_end ⟨lget hn rfl, ?_⟩
    refine Wo ?_
    exact hk
  | true =>
    rw [ho, Bool.true_and] at hk
    refine Wo ?_
    refine drJ (fun h => vGet h (σ.length + 2) 1 = some (.box (mrc S.m) false)) [(2, 0), (1, 1), (2, 2), (1, 3), (1, 4), (1, 5), (0, 6), (2, 7), (2, 8), (2, 9), (1, 10), (1, 11), (1, 12), (0, 13), (2, 14), (2, 15), (0, 16), (2, 17)] (by kernel_rfl) (by kernel_rfl) (by exact z_ol) (lget hn rfl) ?_
    refine Wo ?_
    refine sv_0 ?_
    refine gt rfl ?_
    refine ct ?_
    refine oBad hi ?_
    refine st_end ⟨lget hn rfl, ?_⟩
    cases hb : S.bad with
    | true =>
      rw [hb] at hk hn hr hB1
      rw [Bool.not_true, Bool.false_and] at hk
      have jj : vGet (σ.set i (rdO gi S.l true) ++ [(1, VObj.box [.ptr i gi 0] false), (1, .box mz false), (1, .box (mrc S.m) false), (1, .box (ptc p) false), (1, .box [.bool true] false), (1, .box [.fn 246 [.ptr (σ.length + 0) 1 0, .ptr (σ.length + 4) 1 0]] false)]) (σ.length + 2) 1 = some (.box (mrc S.m) false) := lget hn rfl
      refine Wo ?_
      refine sv_0 ?_
      refine est (by exact z_ea) ?_
      refine st_end ⟨lget hn rfl, ?_⟩
      refine Wo ?_
      exact hk
    | false =>
      rw [hb] at hk hn hr hB1
      rw [Bool.not_false, Bool.true_and] at hk
      refine Wo ?_
      refine sv_0 ?_
      refine gt rfl ?_
      refine ct ?_
      refine oLeft hi ?_
      rw [if_neg (by simp)]
      refine st_end ⟨lget hn rfl, ?_⟩
      by_cases h0 : S.l.length = 0
      · rw [decide_eq_true h0] at hk
        refine Wo ?_
        refine sv_0 ?_
        refine est (by exact z_ea) ?_
        refine st_end ⟨lget hn rfl, ?_⟩
        refine Wo ?_
        exact hk
      · rw [decide_eq_false h0] at hk
        refine Wo ?_
        refine sv_0 ?_
        refine est (by exact z_ea) ?_
        refine st_end ⟨lget hn rfl, ?_⟩
        refine Wo ?_
        exact hk
end
set_option maxHeartbeats 4000000 in
theorem tRead {σ : VHeap} {Post : KP} {k : Int} {i gi : Nat} {l key : List UInt8} {bad : Bool} (hl : l.length ≤ 140737488355328) (hg : vGet σ i gi = some (.box [.sl (bsl l), .bool bad] false))
    (hk : Post (.tup [.agg (mrc (readM k l bad key).m), .bool ((readM k l bad key).ok && (!(readM k l bad key).bad && decide ((readM k l bad key).l.length = 0)))]) (σ.set i (rdO gi (readM k l bad key).l (readM k l bad key).bad))) : T Tryz.prog 223 [.int .i64 k, .ptr i gi 0, .str key] σ Post := by
  have hi := vGet_lt hg
  have same : σ.set i (rdO gi l bad) = σ := set_same hg
  have oS : okS l.length (rs0 k l bad key) := rs0_ok (Nat.le_refl _)
  have w1 : splice [.int .i64 k, D.o, D.o, D.o, D.o, D.o, D.o, D.o, D.o, .int .i64 0, .int .i64 0, D.o, D.o, D.o, D.o, D.o, D.o, D.o, D.o, D.o, D.o, D.o, D.o, D.o, D.o, D.o, D.o, .int .i64 0, D.o, D.o, D.o, D.o, D.o, D.o, D.o, D.o, D.o, D.o, D.o, D.o, D.o, D.o, D.o, D.o, .int .i64 0, D.o, D.o, D.o, D.o, D.o, D.o, D.o, D.o, D.o, D.o, D.o, D.o, D.o, D.o, D.o, D.o, .str []] 61 [.str key] = mrc { mr0 with k := k, key := key } := rfl
  have w2 : splice [.int .i64 0, D.o, D.o, D.o, D.o, D.o, D.o, D.o, D.o, .int .i64 0, .int .i64 0, D.o, D.o, D.o, D.o, D.o, D.o, D.o, D.o, D.o, D.o, D.o, D.o, D.o, D.o, D.o, D.o, .int .i64 0, D.o, D.o, D.o, D.o, D.o, D.o, D.o, D.o, D.o, D.o, D.o, D.o, D.o, D.o, D.o, D.o, .int .i64 0, D.o, D.o, D.o, D.o, D.o, D.o, D.o, D.o, D.o, D.o, D.o, D.o, D.o, D.o, D.o, D.o, .str []] 0 [.int .i64 k] = [.int .i64 k, D.o, D.o, D.o, D.o, D.o, D.o, D.o, D.o, .int .i64 0, .int .i64 0, D.o, D.o, D.o, D.o, D.o, D.o, D.o, D.o, D.o, D.o, D.o, D.o, D.o, D.o, D.o, D.o, .int .i64 0, D.o, D.o, D.o, D.o, D.o, D.o, D.o, D.o, D.o, D.o, D.o, D.o, D.o, D.o, D.o, D.o, .int .i64 0, D.o, D.o, D.o, D.o, D.o, D.o, D.o, D.o, D.o, D.o, D.o, D.o, D.o, D.o, D.o, D.o, .str []] := rfl
  have w3 := mz_st (m := { mr0 with k := k, key := key }) ⟨rfl, rfl, rfl, rfl⟩
  have w4 := mrc_len (m := { mr0 with k := k, key := key }) ⟨rfl, rfl, rfl, rfl⟩
  have w5 := mrc_sc (m := { mr0 with k := k, key := key })
  have oU := uOf (k := k)
  have ps := pt_set (ofF k).1
  have pl := pt_len (ofF k).1
  have pc := pt_sc (ofF k).1
  have fin : ∀ env h, RInv σ i gi (ofF k).1 (rs0 k l bad key) env h → belH σ.length σ → vrun Tryz.prog σ.length vb223_5 env h (vend vf223 (TrimP σ.length Post)) := by
    intro env h hI hB
    refine rd5 hi hl oS hI fun e1 h1 I1 => ?_
    have o1 := rs1_ok (p := (ofF k).1) oS
    refine rd6 hi hl o1 I1 fun e2 h2 I2 => ?_
    have o2 := rs2_ok (p := (ofF k).1) o1
    refine rd7 hi hl o2 I2 fun e3 h3 I3 => ?_
    have o3 := rs3_ok (p := (ofF k).1) o2
    refine rd8 hi hl o3 I3 fun e4 h4 I4 => ?_
    have o4 := rs4_ok (p := (ofF k).1) o3
    exact rd9 hB hi o4.m I4 hk
  unfold RInv rs0 at fin
  dsimp only at fin
  rw [same] at fin
  generalize ofF k = PK at oU ps pl pc fin
  obtain ⟨P, K⟩ := PK
  dsimp only at oU ps pl pc fin
  clear hk oS
  refine T223 fun hB hA => ?_
  rw [vb223_eq]
  refine W ?_
  refine cu oU ?_
  refine W ?_
  refine fin _ _ ⟨⟨1, rfl, rfl⟩, ⟨1, rfl, rfl⟩, ⟨1, rfl, rfl⟩, ⟨1, rfl, rfl⟩, ⟨1, rfl, rfl⟩, ⟨1, rfl, rfl⟩, rfl, rfl⟩ hB
end Go.Proofs.YtjhmobdncjhcnaaGreatDoor
/- mroute.Take: from read on; with what Right and sized say of its route. -/
namespace Go.Proofs.YtjhmobdncjhcnaaGreatDoor
open Go Go.V
set_option maxRecDepth 10000
open D in
def vb201_9 : VC :=
  .seq (.region [m 56 (.mov (t 8)), m 57 (.mov (t 10)), m 58 (.mov (t 11)), m 59 (.call false 223 [(t 56), (t 57), (t 58)]), m 55 (.mov (t 59)), m 60 (.extract 0 (t 55)), m 61 (.extract 1 (t 55)), m 13 (.alloc 1 [q, o, o, o, o, o, o, o, o, q, q, o, o, o, o, o, o, o, o, o, o, o, o, o, o, o, o, q, o, o, o, o, o, o, o, o, o, o, o, o, o, o, o, o, q, o, o, o, o, o, o, o, o, o, o, o, o, o, o, o, o, (.str [])]), e (.store 62 (t 13) (t 60)), m 14 (.mov (t 61))]) <|
  .seq (.seq (.region [m 62 (.mov (t 14)), m 63 (.un .not (t 62)), m 64 (.mov (t 63)), g 65 64 false (.load (some 62) (t 13)), g 66 64 false (.call false 143 [(t 65)]), g 67 64 false (.un .not (t 66)), m 68 (.pick (t 64) (.c (.bool true)) (t 67)), m 69 (.mov (t 68)), g 70 69 false (.load (some 62) (t 13)), g 71 69 false (.mov (t 1)), g 72 69 false (.call false 224 [(t 70), (t 71)]), g 73 69 false (.un .not (t 72)), m 74 (.pick (t 69) (.c (.bool true)) (t 73))]) <|
  .cond (t 74) (.seq (.region [m 75 (.build [q, o, o, o, o, o, o, o, o, q, q, o, o, o, o, o, o, o, o, o, o, o, o, o, o, o, o, q, o, o, o, o, o, o, o, o, o, o, o, o, o, o, o, o, q, o, o, o, o, o, o, o, o, o, o, o, o, o, o, o, o, (.str [])] []), e (.store 62 (t 4) (t 75)), m 5 (.mov (.c q)), m 6 (.mov (.c (i 4)))]) <|
  .ret) (.skip)) <|
  .seq (.region [m 76 (.load (some 62) (t 13)), m 77 (.mov (t 9)), m 78 (.bin .add .num (.c (i 2)) (t 77)), e (.store 62 (t 4) (t 76)), m 5 (.mov (t 78)), m 6 (.mov (.c q))]) <|
  .ret
open D in
def vb201_2 : VC :=
  .seq (.region [m 22 (.mov (t 0)), m 23 (.call false 56 [(t 22)]), m 7 (.mov (t 23))]) <|
  .seq (.region [m 24 (.mov (t 7)), m 25 (.call false 58 [(t 24), (.c (i 1))]), m 8 (.mov (t 25))]) <|
  .seq (.region [m 26 (.mov (t 7)), m 27 (.call false 58 [(t 26), (.c (i 1))]), m 9 (.mov (t 27))]) <|
  .seq (.region [m 28 (.mov (t 7)), m 29 (.mov (t 9)), m 30 (.call false 221 [(t 28), (t 29)]), m 10 (.mov (t 30))]) <|
  .seq (.seq (.region [m 31 (.mov (t 7)), m 32 (.nilCheck (t 31)), m 33 (.field 0 (t 32)), m 34 (.call false 222 [(t 33)])]) <|
  .cond (t 34) (.seq (.region [m 35 (.build [q, o, o, o, o, o, o, o, o, q, q, o, o, o, o, o, o, o, o, o, o, o, o, o, o, o, o, q, o, o, o, o, o, o, o, o, o, o, o, o, o, o, o, o, q, o, o, o, o, o, o, o, o, o, o, o, o, o, o, o, o, (.str [])] []), e (.store 62 (t 4) (t 35)), m 5 (.mov (.c q)), m 6 (.mov (.c (i 3)))]) <|
  .ret) (.skip)) <|
  .seq (.region [m 11 (.mov (.c (.str [])))]) <|
  .seq (.seq (.region [m 36 (.mov (t 8)), m 37 (.bin .eql .num (t 36) (.c (i 4)))]) <|
  .cond (t 37) (.seq (.region [m 38 (.mov (t 10)), m 39 (.call false 150 [(t 38), (.c (i 2))]), m 12 (.mov (t 39))]) <|
  .seq (.seq (.region [m 40 (.mov (t 10)), m 41 (.nilCheck (t 40)), m 42 (.field 0 (t 41)), m 43 (.call false 222 [(t 42)])]) <|
  .cond (t 43) (.seq (.region [m 44 (.build [q, o, o, o, o, o, o, o, o, q, q, o, o, o, o, o, o, o, o, o, o, o, o, o, o, o, o, q, o, o, o, o, o, o, o, o, o, o, o, o, o, o, o, o, q, o, o, o, o, o, o, o, o, o, o, o, o, o, o, o, o, (.str [])] []), e (.store 62 (t 4) (t 44)), m 5 (.mov (.c q)), m 6 (.mov (.c (i 4)))]) <|
  .ret) (.skip)) <|
  .dreg [(m 45 (.mov (t 12)), []), (m 46 (.b2s (t 45)), [0]), (m 47 (.mov (t 10)), []), (m 48 (.mov (t 12)), []), (m 49 (.index 1 (t 48) (.c (i 1))), [3]), (m 50 (.load none (t 49)), [4]), (m 51 (.convInt .i64 (t 50)), [5]), (m 52 (.call false 150 [(t 47), (t 51)]), [2, 6]), (m 53 (.b2s (t 52)), [7]), (m 54 (.bin .add .num (t 46) (t 53)), [1, 8]), (m 11 (.mov (t 54)), [9, 7, 0, 1, 2, 3, 4, 5, 6, 7, 8, 9])] [(2, 0), (2, 1), (2, 2), (2, 3), (1, 4), (1, 5), (2, 6), (0, 7), (1, 8), (2, 9), (2, 10)] [0, 1, 0, 0, 8, 24, 56, 124, 252, 511, 1023]) (.skip)) <|
  vb201_9
open D in
theorem vb201_eq : vb201 =
  (.seq (.region [m 4 (.alloc 0 [q, o, o, o, o, o, o, o, o, q, q, o, o, o, o, o, o, o, o, o, o, o, o, o, o, o, o, q, o, o, o, o, o, o, o, o, o, o, o, o, o, o, o, o, q, o, o, o, o, o, o, o, o, o, o, o, o, o, o, o, o, (.str [])]), m 5 (.mov (.c q)), m 6 (.mov (.c q))]) <|
  .seq (.seq (.region [m 15 (.mov (t 1)), m 16 (.bin .neq .num (t 15) (.c (i 4))), m 17 (.mov (t 16)), g 18 17 true (.mov (t 1)), g 19 17 true (.bin .neq .num (t 18) (.c (i 16))), m 20 (.pick (t 17) (t 19) (.c (.bool false)))]) <|
  .cond (t 20) (.seq (.region [m 21 (.build [q, o, o, o, o, o, o, o, o, q, q, o, o, o, o, o, o, o, o, o, o, o, o, o, o, o, o, q, o, o, o, o, o, o, o, o, o, o, o, o, o, o, o, o, q, o, o, o, o, o, o, o, o, o, o, o, o, o, o, o, o, (.str [])] []), e (.store 62 (t 4) (t 21)), m 5 (.mov (.c q)), m 6 (.mov (.c (i 1)))]) <|
  .ret) (.skip)) <|
  vb201_2) := rfl
attribute [local irreducible] vBuild vCallV
theorem mz_zz : splice [.int .i64 0, D.o, D.o, D.o, D.o, D.o, D.o, D.o, D.o, .int .i64 0, .int .i64 0, D.o, D.o, D.o, D.o, D.o, D.o, D.o, D.o, D.o, D.o, D.o, D.o, D.o, D.o, D.o, D.o, .int .i64 0, D.o, D.o, D.o, D.o, D.o, D.o, D.o, D.o, D.o, D.o, D.o, D.o, D.o, D.o, D.o, D.o, .int .i64 0, D.o, D.o, D.o, D.o, D.o, D.o, D.o, D.o, D.o, D.o, D.o, D.o, D.o, D.o, D.o, D.o, .str []] 0 [.int .i64 0, D.o, D.o, D.o, D.o, D.o, D.o, D.o, D.o, .int .i64 0, .int .i64 0, D.o, D.o, D.o, D.o, D.o, D.o, D.o, D.o, D.o, D.o, D.o, D.o, D.o, D.o, D.o, D.o, .int .i64 0, D.o, D.o, D.o, D.o, D.o, D.o, D.o, D.o, D.o, D.o, D.o, D.o, D.o, D.o, D.o, D.o, .int .i64 0, D.o, D.o, D.o, D.o, D.o, D.o, D.o, D.o, D.o, D.o, D.o, D.o, D.o, D.o, D.o, D.o, .str []] = mz := rfl
theorem mz_zy : splice mz 0 [.int .i64 0, D.o, D.o, D.o, D.o, D.o, D.o, D.o, D.o, .int .i64 0, .int .i64 0, D.o, D.o, D.o, D.o, D.o, D.o, D.o, D.o, D.o, D.o, D.o, D.o, D.o, D.o, D.o, D.o, .int .i64 0, D.o, D.o, D.o, D.o, D.o, D.o, D.o, D.o, D.o, D.o, D.o, D.o, D.o, D.o, D.o, D.o, .int .i64 0, D.o, D.o, D.o, D.o, D.o, D.o, D.o, D.o, D.o, D.o, D.o, D.o, D.o, D.o, D.o, D.o, .str []] = mz := rfl
instance : ClL mz := (inferInstance : ClL (mrc mr0))
instance : PlL mz := (inferInstance : PlL (mrc mr0))
theorem mz_all : cut mz 0 (some 62) = some (.agg mz) := rfl
theorem mz_len : mz.length = 62 := rfl
theorem mz_sc : mz.all scalar = true := rfl
section
variable {σ : VHeap} {Post : KP} {env : Env} {kk s : Int} {y : Nat} {l key : List UInt8} {bad B1 B2 O : Bool} {M : Mr} {o2 : Nat × VObj}
set_option maxHeartbeats 4000000 in
theorem take9 (hB : belH σ.length σ) (hl : l.length ≤ 140737488355328) (hy : y < 256) (e1 : env 1 = .int .i64 s) (e4 : env 4 = .ptr (σ.length + 0) 1 0) (e8 : env 8 = .int .i64 kk) (e9 : env 9 = .int .i64 (y : Int)) (e10 : env 10 = .ptr (σ.length + 3) 1 0) (e11 : env 11 = .str key)
    (hM : okM M) (eM : (readM kk l bad key).m = M) (eO : ((readM kk l bad key).ok && (!(readM kk l bad key).bad && decide ((readM kk l bad key).l.length = 0))) = O)
    (hR : U Tryz.prog 143 [.agg (mrc M)] (.bool B1)) (hS : B1 = true → U Tryz.prog 224 [.agg (mrc M), .int .i64 s] (.bool B2))
    (hk : Post (if (O && (B1 && B2)) = true then .tup [.agg (mrc M), .int .i64 (2 + (y : Int)), .int .i64 0] else .tup [.agg mz, .int .i64 0, .int .i64 4]) σ) :
    vrun Tryz.prog σ.length vb201_9 env (σ ++ [(1, .box mz false), D.dd, o2, (1, .box [.sl (bsl l), .bool bad] false)]) (vend vf201 (TrimP σ.length Post)) := by
  have w1 := mz_zz
  have w2 := mz_zy
  have w3 := mz_all
  have w4 := mz_len
  have w5 := mz_sc
  have w6 := mz_st hM
  have w7 : splice mz 0 (mrc M) = mrc M := ms_all hM
  have w8 := mrc_len hM
  have w9 := mrc_sc (m := M)
  have wA := mrc_all hM
  have k1 : IntKind.i64.wrap (2 + (y : Int)) = 2 + (y : Int) := w_i64 (by omega) (by omega)
  unfold vb201_9
  refine W ?_
  refine ct ?_
  refine tRead (k := kk) (l := l) (bad := bad) (key := key) hl (lget rfl rfl) ?_
  rw [eM, eO, lset rfl]
  generalize rdO 1 (readM kk l bad key).l (readM kk l bad key).bad = o3
  cases O with
  | false =>
    rw [Bool.false_and, if_neg (by simp)] at hk
    refine W ?_
    exact hk
  | true =>
    rw [Bool.true_and] at hk
    refine W ?_
    refine cu hR ?_
    cases B1 with
    | false =>
      rw [Bool.false_and, if_neg (by simp)] at hk
      refine W ?_
      exact hk
    | true =>
      rw [Bool.true_and] at hk
      refine W ?_
      refine cu (hS rfl) ?_
      cases B2 with
      | false =>
        rw [if_neg (by simp)] at hk
        refine W ?_
        exact hk
      | true =>
        rw [if_pos rfl] at hk
        refine W ?_
        exact hk
end
end Go.Proofs.YtjhmobdncjhcnaaGreatDoor
/- mroute.Take: the head, a leaf's key. -/
namespace Go.Proofs.YtjhmobdncjhcnaaGreatDoor
open Go Go.V
set_option maxRecDepth 10000
structure MT where
  m : Mr
  n : Nat
  e : Int
def keyOf (x : UInt8) (R : List UInt8) : Option (List UInt8 × List UInt8 × Bool) :=
  if x = 4 then match R with
    | a :: b :: r => some (a :: b :: (rdT r false b.toNat).1, (rdT r false b.toNat).2.1, (rdT r false b.toNat).2.2)
    | _ => none
  else some ([], R, false)
def okB (R : RS) : Bool := R.ok && (!R.bad && decide (R.l.length = 0))
def takeG (rt sz : Mr → Bool) (l : List UInt8) (s : Int) : MT :=
  if s ≠ 4 ∧ s ≠ 16 then ⟨mr0, 0, 1⟩ else match l with
  | x :: y :: r => if r.length < y.toNat then ⟨mr0, 0, 3⟩ else match keyOf x (r.take y.toNat) with
    | none => ⟨mr0, 0, 4⟩
    | some t => if (okB (readM (x.toNat : Int) t.2.1 t.2.2 t.1) && (rt (readM (x.toNat : Int) t.2.1 t.2.2 t.1).m && sz (readM (x.toNat : Int) t.2.1 t.2.2 t.1).m)) = true then ⟨(readM (x.toNat : Int) t.2.1 t.2.2 t.1).m, 2 + y.toNat, 0⟩ else ⟨mr0, 0, 4⟩
  | _ => ⟨mr0, 0, 3⟩
theorem rs1_k (p : Pt) (S : RS) : (rs1 p S).m.k = S.m.k := by unfold rs1; split <;> rfl
theorem rs2_k (p : Pt) (S : RS) : (rs2 p S).m.k = S.m.k := by unfold rs2; split <;> rfl
theorem rs3_k (p : Pt) (S : RS) : (rs3 p S).m.k = S.m.k := by unfold rs3; split <;> rfl
theorem rs4_k (p : Pt) (S : RS) : (rs4 p S).m.k = S.m.k := by unfold rs4; split <;> rfl
theorem readM_k (k : Int) (l : List UInt8) (bad : Bool) (key : List UInt8) : (readM k l bad key).m.k = k := by unfold readM; rw [rs4_k, rs3_k, rs2_k, rs1_k]; rfl
theorem readM_ok (k : Int) (l : List UInt8) (bad : Bool) (key : List UInt8) : okM (readM k l bad key).m := (rs4_ok (rs3_ok (rs2_ok (rs1_ok (rs0_ok (Nat.le_refl l.length)))))).m
attribute [local irreducible] vBuild vCallV
section
variable {l : List UInt8} {s : Int} {rt sz : Mr → Bool}
set_option maxHeartbeats 4000000 in
theorem uTakeArgM (h4 : s ≠ 4) (h16 : s ≠ 16) : U Tryz.prog 201 [.sl (bsl l), .int .i64 s] (.tup [.agg mz, .int .i64 0, .int .i64 1]) := by
  intro σ Post hk
  have w1 := mz_zz
  have w2 := mz_zy
  have w3 := mz_all
  have w4 := mz_len
  have w5 := mz_sc
  refine T201 fun hB hA => ?_
  rw [vb201_eq]
  refine W ?_
  exact hk
set_option maxHeartbeats 4000000 in
theorem uTakeEndM (hl : l.length ≤ 140737488355328) (hs : s = 4 ∨ s = 16) (h : ∀ x y r, l = x :: y :: r → r.length < y.toNat) : U Tryz.prog 201 [.sl (bsl l), .int .i64 s] (.tup [.agg mz, .int .i64 0, .int .i64 3]) := by
  intro σ Post hk
  have w1 := mz_zz
  have w2 := mz_zy
  have w3 := mz_all
  have w4 := mz_len
  have w5 := mz_sc
  refine T201 fun hB hA => ?_
  rw [vb201_eq]
  refine cutp (fun e h => e 0 = .sl (bsl l) ∧ e 1 = .int .i64 s ∧ (∃ k, e 4 = .ptr (σ.length + 0) k 0 ∧ k = 1) ∧ h = σ ++ [(1, .box mz false), (0, .dead)]) ?_ ?_
  · refine W ?_
    exact ⟨rfl, rfl, ⟨1, rfl, rfl⟩, rfl⟩
  rintro u _ ⟨e0, e1, ⟨k, e4, rfl⟩, rfl⟩
  refine cutp (fun e h => e 0 = .sl (bsl l) ∧ e 1 = .int .i64 s ∧ (∃ k, e 4 = .ptr (σ.length + 0) k 0 ∧ k = 1) ∧ h = σ ++ [(1, .box mz false), (0, .dead)]) ?_ ?_
  · rcases hs with hs | hs
    · refine W ?_
      exact ⟨e0, e1, ⟨1, e4, rfl⟩, rfl⟩
    · refine W ?_
      exact ⟨e0, e1, ⟨1, e4, rfl⟩, rfl⟩
  clear e0 e1 e4
  rintro u _ ⟨e0, e1, ⟨k, e4, rfl⟩, rfl⟩
  obtain ⟨p1, r1, b1, h1⟩ : ∃ p q c, rdT l false 1 = (p, q, c) := ⟨_, _, _, rfl⟩
  obtain ⟨p2, r2, b2, h2⟩ : ∃ p q c, rdT r1 b1 1 = (p, q, c) := ⟨_, _, _, rfl⟩
  obtain ⟨p3, r3, b3, h3⟩ : ∃ p q c, rdT r2 b2 (big p2 0) = (p, q, c) := ⟨_, _, _, rfl⟩
  have a1 := rdT_len l false 1
  have a2 := rdT_len r1 b1 1
  rw [h1] at a1
  rw [h2] at a2
  dsimp only at a1 a2
  have hb3 : b3 = true := by
    cases l with
    | nil =>
      rw [show rdT [] false 1 = ([], [], true) from rfl] at h1
      cases h1
      rw [show rdT [] true 1 = ([], [], true) from rfl] at h2
      cases h2
      rw [show rdT [] true (big [] 0) = ([], [], true) from rfl] at h3
      cases h3; rfl
    | cons x t =>
      rw [show rdT (x :: t) false 1 = ([x], t, false) by unfold rdT; rw [if_neg (by simp)]; rfl] at h1
      have e2 : t = r1 := congrArg (fun z => z.2.1) h1
      have e3 : false = b1 := congrArg (fun z => z.2.2) h1
      rw [← e2, ← e3] at h2
      cases t with
      | nil =>
        rw [show rdT [] false 1 = ([], [], true) from rfl] at h2
        cases h2
        rw [show rdT [] true (big [] 0) = ([], [], true) from rfl] at h3
        cases h3; rfl
      | cons y r =>
        rw [show rdT (y :: r) false 1 = ([y], r, false) by unfold rdT; rw [if_neg (by simp)]; rfl] at h2
        have e4' : [y] = p2 := congrArg (fun z => z.1) h2
        have e5 : r = r2 := congrArg (fun z => z.2.1) h2
        have e6 : false = b2 := congrArg (fun z => z.2.2) h2
        rw [← e4', ← e5, ← e6] at h3
        have := h x y r rfl
        rw [big_one] at h3
        unfold rdT at h3
        rw [if_pos (.inr this)] at h3
        cases h3; rfl
  subst hb3
  unfold vb201_2
  refine W ?_
  refine ct ?_
  refine tOpen (l := l) hl ?_
  refine W ?_
  refine ct ?_
  refine lNum (z := 1) (l := l) (bad := false) h1 (by decide) (by decide) rfl ?_
  refine W ?_
  refine ct ?_
  refine lNum (z := 1) (l := r1) (bad := b1) h2 (by decide) (by decide) rfl ?_
  refine W ?_
  refine ct ?_
  refine lSub (z := big p2 0) (l := r2) (bad := b2) h3 (by omega) rfl ?_
  refine W ?_
  refine ct ?_
  refine lBad rfl ?_
  refine W ?_
  exact hk
set_option maxHeartbeats 4000000 in
/-- Up to the key. -/
theorem takeHead {x y : UInt8} {r : List UInt8} {σ : VHeap} {Post : KP} (hl : (x :: y :: r).length ≤ 140737488355328) (hs : s = 4 ∨ s = 16) (hr : ¬ r.length < y.toNat)
    (hR : ∀ key l' bad, key.length ≤ 300 → U Tryz.prog 143 [.agg (mrc (readM (x.toNat : Int) l' bad key).m)] (.bool (rt (readM (x.toNat : Int) l' bad key).m)))
    (hS : ∀ key l' bad, key.length ≤ 300 → rt (readM (x.toNat : Int) l' bad key).m = true → U Tryz.prog 224 [.agg (mrc (readM (x.toNat : Int) l' bad key).m), .int .i64 s] (.bool (sz (readM (x.toNat : Int) l' bad key).m)))
    (hk : Post (.tup [.agg (mrc (takeG rt sz (x :: y :: r) s).m), .int .i64 ((takeG rt sz (x :: y :: r) s).n : Int), .int .i64 (takeG rt sz (x :: y :: r) s).e]) σ) : T Tryz.prog 201 [.sl (bsl (x :: y :: r)), .int .i64 s] σ Post := by
  have w1 := mz_zz
  have w2 := mz_zy
  have w3 := mz_all
  have w4 := mz_len
  have w5 := mz_sc
  have hx := x.toNat_lt
  have hy := y.toNat_lt
  have hne : ¬ (s ≠ 4 ∧ s ≠ 16) := by omega
  have hRl : (r.take y.toNat).length ≤ 255 := by rw [List.length_take]; omega
  unfold takeG at hk
  rw [if_neg hne] at hk
  dsimp only at hk
  rw [if_neg hr] at hk
  generalize hRR : r.take y.toNat = R at hk hRl
  refine T201 fun hB hA => ?_
  rw [vb201_eq]
  refine cutp (fun e h => e 0 = .sl (bsl (x :: y :: r)) ∧ e 1 = .int .i64 s ∧ (∃ k, e 4 = .ptr (σ.length + 0) k 0 ∧ k = 1) ∧ h = σ ++ [(1, .box mz false), (0, .dead)]) ?_ ?_
  · refine W ?_
    exact ⟨rfl, rfl, ⟨1, rfl, rfl⟩, rfl⟩
  rintro u _ ⟨e0, e1, ⟨k, e4, rfl⟩, rfl⟩
  refine cutp (fun e h => e 0 = .sl (bsl (x :: y :: r)) ∧ e 1 = .int .i64 s ∧ (∃ k, e 4 = .ptr (σ.length + 0) k 0 ∧ k = 1) ∧ h = σ ++ [(1, .box mz false), (0, .dead)]) ?_ ?_
  · rcases hs with hs | hs
    · refine W ?_
      exact ⟨e0, e1, ⟨1, e4, rfl⟩, rfl⟩
    · refine W ?_
      exact ⟨e0, e1, ⟨1, e4, rfl⟩, rfl⟩
  clear e0 e1 e4
  rintro u _ ⟨e0, e1, ⟨k, e4, rfl⟩, rfl⟩
  unfold vb201_2
  refine W ?_
  refine ct ?_
  refine tOpen (l := x :: y :: r) hl ?_
  refine W ?_
  refine ct ?_
  refine lNum (z := 1) (l := x :: y :: r) (bad := false) (p := [x]) (q := y :: r) (c := false) (by unfold rdT; rw [if_neg (by simp)]; rfl) (by decide) (by decide) rfl ?_
  rw [big_one]
  refine W ?_
  refine ct ?_
  refine lNum (z := 1) (l := y :: r) (bad := false) (p := [y]) (q := r) (c := false) (by unfold rdT; rw [if_neg (by simp)]; rfl) (by decide) (by decide) rfl ?_
  rw [big_one]
  refine W ?_
  refine ct ?_
  refine lSub (z := y.toNat) (l := r) (bad := false) (p := R) (q := r.drop y.toNat) (c := false) (by unfold rdT; rw [if_neg (by simp; omega), hRR]) (by simp at hl; omega) rfl ?_
  refine W ?_
  refine ct ?_
  refine lBad rfl ?_
  by_cases h4 : x = 4
  · subst h4
    have ht : (4 : UInt8).toNat = 4 := rfl
    rcases hcase : R with _ | ⟨a, _ | ⟨b, r2⟩⟩
    · subst hcase
      refine W ?_
      refine ct ?_
      refine lTake (z := 2) (l := []) (bad := false) (p := []) (q := []) (c := true) rfl (by decide) rfl ?_
      refine W ?_
      refine ct ?_
      refine lBad rfl ?_
      refine W ?_
      exact hk
    · subst hcase
      refine W ?_
      refine ct ?_
      refine lTake (z := 2) (l := [a]) (bad := false) (p := []) (q := [a]) (c := true) rfl (by show 1 ≤ _; decide) rfl ?_
      refine W ?_
      refine ct ?_
      refine lBad rfl ?_
      refine W ?_
      exact hk
    · subst hcase
      have hb := b.toNat_lt
      obtain ⟨p, q, c, hp⟩ : ∃ p q c, rdT r2 false b.toNat = (p, q, c) := ⟨_, _, _, rfl⟩
      have a1 := rdT_len r2 false b.toNat
      rw [hp] at a1
      dsimp only at a1
      have ek : keyOf 4 (a :: b :: r2) = some (a :: b :: p, q, c) := by unfold keyOf; rw [if_pos rfl]; dsimp only; rw [hp]
      rw [ek] at hk
      dsimp only at hk
      rw [List.length_cons, List.length_cons] at hRl
      have i1 : (bsl [a, b])[1]? = some [byt b] := rfl
      have k1 : IntKind.i64.wrap (b.toNat : Int) = (b.toNat : Int) := w_i64 (by omega) (by omega)
      refine W ?_
      refine ct ?_
      refine lTake (z := 2) (l := a :: b :: r2) (bad := false) (p := [a, b]) (q := r2) (c := false) (by unfold rdT; rw [if_neg (by simp)]; rfl) (by simp; omega) rfl ?_
      refine W ?_
      refine ct ?_
      refine lBad rfl ?_
      refine W ?_
      refine sv_0 ?_
      refine ct ?_
      refine lTake (z := b.toNat) (l := r2) (bad := false) hp (by omega) rfl ?_
      refine st_end ⟨trivial, ?_⟩
      refine Wo ?_
      refine take9 (kk := (((4 : UInt8).toNat : Nat) : Int)) (y := y.toNat) (s := s) (l := q) (bad := c) (key := a :: b :: p) (O := okB (readM (((4 : UInt8).toNat : Nat) : Int) q c (a :: b :: p))) hB (by omega) hy e1 e4 rfl rfl rfl rfl (readM_ok _ _ _ _) rfl rfl (hR (a :: b :: p) q c (by simp; omega)) (hS (a :: b :: p) q c (by simp; omega)) ?_
      split at hk
      · rename_i hc; rw [if_pos hc]
        have e2 : ((2 + y.toNat : Nat) : Int) = 2 + (y.toNat : Int) := by omega
        rw [e2] at hk
        exact hk
      · rename_i hc; rw [if_neg hc]; exact hk
  · have h4n : ¬ x.toNat = 4 := fun e => h4 (UInt8.toNat_inj.1 e)
    have ek : keyOf x R = some ([], R, false) := by unfold keyOf; rw [if_neg h4]
    rw [ek] at hk
    dsimp only at hk
    refine W ?_
    refine take9 (kk := (x.toNat : Int)) (y := y.toNat) (s := s) (l := R) (bad := false) (key := []) (O := okB (readM (x.toNat : Int) R false [])) hB (by omega) hy e1 e4 rfl rfl rfl rfl (readM_ok _ _ _ _) rfl rfl (hR [] R false (by decide)) (hS [] R false (by decide)) ?_
    split at hk
    · rename_i hc; rw [if_pos hc]
      have e2 : ((2 + y.toNat : Nat) : Int) = 2 + (y.toNat : Int) := by omega
      rw [e2] at hk
      exact hk
    · rename_i hc; rw [if_neg hc]; exact hk
theorem uTakeG (hl : l.length ≤ 140737488355328)
    (hR : ∀ x t, l = x :: t → ∀ key l' bad, key.length ≤ 300 → U Tryz.prog 143 [.agg (mrc (readM (x.toNat : Int) l' bad key).m)] (.bool (rt (readM (x.toNat : Int) l' bad key).m)))
    (hS : ∀ x t, l = x :: t → ∀ key l' bad, key.length ≤ 300 → rt (readM (x.toNat : Int) l' bad key).m = true → U Tryz.prog 224 [.agg (mrc (readM (x.toNat : Int) l' bad key).m), .int .i64 s] (.bool (sz (readM (x.toNat : Int) l' bad key).m))) :
    U Tryz.prog 201 [.sl (bsl l), .int .i64 s] (.tup [.agg (mrc (takeG rt sz l s).m), .int .i64 ((takeG rt sz l s).n : Int), .int .i64 (takeG rt sz l s).e]) := by
  by_cases hs : s ≠ 4 ∧ s ≠ 16
  · have e : takeG rt sz l s = ⟨mr0, 0, 1⟩ := by unfold takeG; rw [if_pos hs]
    rw [e]; exact uTakeArgM hs.1 hs.2
  have hs' : s = 4 ∨ s = 16 := by omega
  have short : takeG rt sz l s = ⟨mr0, 0, 3⟩ → (∀ x y r, l = x :: y :: r → r.length < y.toNat) → U Tryz.prog 201 [.sl (bsl l), .int .i64 s] (.tup [.agg (mrc (takeG rt sz l s).m), .int .i64 ((takeG rt sz l s).n : Int), .int .i64 (takeG rt sz l s).e]) := fun e h => by
    rw [e]; exact uTakeEndM hl hs' h
  rcases l with _ | ⟨x, _ | ⟨y, r⟩⟩
  · exact short (by unfold takeG; rw [if_neg hs]) (fun x y r h => by cases h)
  · exact short (by unfold takeG; rw [if_neg hs]) (fun x y r h => by cases h)
  · by_cases hr : r.length < y.toNat
    · exact short (by unfold takeG; rw [if_neg hs]; dsimp only; rw [if_pos hr]) (fun x' y' r' h => by cases h; exact hr)
    · intro σ Post hk
      exact takeHead hl hs' hr (hR x _ rfl) (hS x _ rfl) hk
end
end Go.Proofs.YtjhmobdncjhcnaaGreatDoor
/- mroute.Parse. -/
namespace Go.Proofs.YtjhmobdncjhcnaaGreatDoor
open Go Go.V
set_option maxRecDepth 10000
attribute [local irreducible] vBuild vCallV
def prs (t : MT) (n : Nat) : Mr × Int := if t.e ≠ 0 then (mr0, t.e) else if t.n ≠ n then (mr0, 4) else (t.m, 0)
set_option maxHeartbeats 4000000 in
theorem uParseG {l : List UInt8} {s : Int} {t : MT} (ht : okM t.m) (hT : U Tryz.prog 201 [.sl (bsl l), .int .i64 s] (.tup [.agg (mrc t.m), .int .i64 (t.n : Int), .int .i64 t.e])) :
    U Tryz.prog 171 [.sl (bsl l), .int .i64 s] (.tup [.agg (mrc (prs t l.length).1), .int .i64 (prs t l.length).2]) := by
  intro σ Post hk
  have w1 := mz_zz
  have w2 := mz_zy
  have w3 := mz_all
  have w4 := mz_len
  have w5 := mz_sc
  have w6 := mz_st ht
  have w7 : splice mz 0 (mrc t.m) = mrc t.m := ms_all ht
  have w8 := mrc_len ht
  have w9 := mrc_sc (m := t.m)
  have wA := mrc_all ht
  have bl := bsl_len l
  unfold prs at hk
  refine T171 fun hB hA => ?_
  refine W ?_
  refine cu hT ?_
  by_cases he : t.e = 0
  · rw [if_neg (by simpa using he)] at hk
    by_cases hn : t.n = l.length
    · rw [if_neg (by simpa using hn)] at hk
      refine W ?_
      exact hk
    · rw [if_pos hn] at hk
      refine W ?_
      exact hk
  · rw [if_pos he] at hk
    refine W ?_
    exact hk
end Go.Proofs.YtjhmobdncjhcnaaGreatDoor
