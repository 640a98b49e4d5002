/- The law MrouteBack as a triple. -/
import Derived.Test.YtdkjcadffhnjgaaDoorM20
namespace Go.Proofs.YtdkjcadffhnjgaaDoor
open Go Go.V
set_option maxRecDepth 10000
open D in
def vb10_8 : VC :=
  .seq (.region [m 120 (.mov (t 2)), m 121 (.mov (t 3)), m 122 (.call false 37 [(t 120), (t 121)]), m 119 (.mov (t 122)), m 123 (.extract 0 (t 119)), m 124 (.extract 1 (t 119)), m 22 (.mov (t 123)), m 23 (.mov (t 124))]) <|
  .seq (.seq (.region [m 125 (.mov (t 23)), m 126 (.bin .eql .num (t 125) (.c (i 0)))]) <|
  .cond (t 126) (.seq (.region [m 128 (.mov (t 22)), m 129 (.call false 38 [(t 128)]), m 127 (.mov (t 129)), m 130 (.extract 0 (t 127)), m 131 (.extract 1 (t 127)), m 24 (.mov (t 130)), m 25 (.mov (t 131))]) <|
  .seq (.region [m 132 (.mov (t 25)), m 133 (.bin .neq .num (t 132) (.c (i 0))), m 134 (.mov (t 133)), g 135 134 false (.mov (t 24)), g 136 134 false (.b2s (t 135)), g 137 134 false (.mov (t 2)), g 138 134 false (.b2s (t 137)), g 139 134 false (.bin .neq .num (t 136) (t 138)), m 140 (.pick (t 134) (.c (.bool true)) (t 139))]) <|
  .cond (t 140) (.seq (.region [m 8 (.mov (.c (.bool false)))]) <|
  .ret) (.skip)) (.skip)) <|
  .seq (.region [m 141 (.mov (t 9)), m 8 (.mov (t 141))]) <|
  .ret
open D in
theorem vb10_8_eq : vb10_8 =
  (.seq (.region [m 120 (.mov (t 2)), m 121 (.mov (t 3)), m 122 (.call false 37 [(t 120), (t 121)]), m 119 (.mov (t 122)), m 123 (.extract 0 (t 119)), m 124 (.extract 1 (t 119)), m 22 (.mov (t 123)), m 23 (.mov (t 124))]) <|
  .seq (.seq (.region [m 125 (.mov (t 23)), m 126 (.bin .eql .num (t 125) (.c (i 0)))]) <|
  .cond (t 126) (.seq (.region [m 128 (.mov (t 22)), m 129 (.call false 38 [(t 128)]), m 127 (.mov (t 129)), m 130 (.extract 0 (t 127)), m 131 (.extract 1 (t 127)), m 24 (.mov (t 130)), m 25 (.mov (t 131))]) <|
  .seq (.region [m 132 (.mov (t 25)), m 133 (.bin .neq .num (t 132) (.c (i 0))), m 134 (.mov (t 133)), g 135 134 false (.mov (t 24)), g 136 134 false (.b2s (t 135)), g 137 134 false (.mov (t 2)), g 138 134 false (.b2s (t 137)), g 139 134 false (.bin .neq .num (t 136) (t 138)), m 140 (.pick (t 134) (.c (.bool true)) (t 139))]) <|
  .cond (t 140) (.seq (.region [m 8 (.mov (.c (.bool false)))]) <|
  .ret) (.skip)) (.skip)) <|
  .seq (.region [m 141 (.mov (t 9)), m 8 (.mov (t 141))]) <|
  .ret) := rfl
open D in
def vb10_6 : VC :=
  .seq (.region [m 89 (.mov (t 2)), m 90 (.mov (t 3)), m 91 (.call false 36 [(t 89), (t 90)]), m 88 (.mov (t 91)), m 92 (.extract 0 (t 88)), m 93 (.extract 1 (t 88)), m 94 (.extract 2 (t 88)), m 17 (.alloc 3 [(i 0), (b 0), (b 0), (b 0), (b 0), (b 0), (b 0), (b 0), (b 0), (i 0), (i 0), (b 0), (b 0), (b 0), (b 0), (b 0), (b 0), (b 0), (b 0), (b 0), (b 0), (b 0), (b 0), (b 0), (b 0), (b 0), (b 0), (i 0), (b 0), (b 0), (b 0), (b 0), (b 0), (b 0), (b 0), (b 0), (b 0), (b 0), (b 0), (b 0), (b 0), (b 0), (b 0), (b 0), (i 0), (b 0), (b 0), (b 0), (b 0), (b 0), (b 0), (b 0), (b 0), (b 0), (b 0), (b 0), (b 0), (b 0), (b 0), (b 0), (b 0), (.str [])]), e (.store 62 (t 17) (t 92)), m 18 (.mov (t 93)), m 19 (.mov (t 94))]) <|
  .seq (.seq (.region [m 95 (.mov (t 19)), m 96 (.bin .eql .num (t 95) (.c (i 0)))]) <|
  .cond (t 96) (.seq (.region [m 98 (.load (some 62) (t 17)), m 99 (.call false 31 [(t 98)]), m 97 (.mov (t 99)), m 100 (.extract 0 (t 97)), m 101 (.extract 1 (t 97)), m 20 (.mov (t 100)), m 21 (.mov (t 101))]) <|
  .seq (.dreg [(m 102 (.mov (t 21)), []), (m 103 (.bin .neq .num (t 102) (.c (i 0))), [0]), (m 104 (.mov (t 103)), [1]), (g 105 104 false (.mov (t 18)), [2]), (g 106 104 false (.mov (t 2)), [2]), (g 107 104 false (.len (t 106)), [4, 2]), (g 108 104 false (.bin .gtr .num (t 105) (t 107)), [3, 5, 2]), (m 109 (.pick (t 104) (.c (.bool true)) (t 108)), [2, 6]), (m 110 (.mov (t 109)), [7, 2]), (g 111 110 false (.mov (t 20)), [8]), (g 112 110 false (.b2s (t 111)), [9, 8]), (g 113 110 false (.mov (t 2)), [8]), (g 114 110 false (.mov (t 18)), [8]), (g 115 110 false (.slice 1 (t 113) none (some (t 114))), [11, 12, 8]), (g 116 110 false (.b2s (t 115)), [13, 8]), (g 117 110 false (.bin .neq .num (t 112) (t 116)), [10, 14, 8]), (m 118 (.pick (t 110) (.c (.bool true)) (t 117)), [8, 15])] [(2, 0), (2, 1), (2, 2), (2, 3), (2, 4), (1, 5), (2, 6), (2, 7), (2, 8), (2, 9), (1, 10), (2, 11), (2, 12), (1, 13), (1, 14), (2, 15), (2, 16)] [0, 1, 3, 7, 7, 23, 63, 127, 255, 511, 1023, 511, 511, 6655, 14847, 32767, 65535]) <|
  .cond (t 118) (.seq (.region [m 8 (.mov (.c (.bool false)))]) <|
  .ret) (.skip)) (.skip)) <|
  vb10_8
open D in
theorem vb10_6_eq : vb10_6 =
  (.seq (.region [m 89 (.mov (t 2)), m 90 (.mov (t 3)), m 91 (.call false 36 [(t 89), (t 90)]), m 88 (.mov (t 91)), m 92 (.extract 0 (t 88)), m 93 (.extract 1 (t 88)), m 94 (.extract 2 (t 88)), m 17 (.alloc 3 [(i 0), (b 0), (b 0), (b 0), (b 0), (b 0), (b 0), (b 0), (b 0), (i 0), (i 0), (b 0), (b 0), (b 0), (b 0), (b 0), (b 0), (b 0), (b 0), (b 0), (b 0), (b 0), (b 0), (b 0), (b 0), (b 0), (b 0), (i 0), (b 0), (b 0), (b 0), (b 0), (b 0), (b 0), (b 0), (b 0), (b 0), (b 0), (b 0), (b 0), (b 0), (b 0), (b 0), (b 0), (i 0), (b 0), (b 0), (b 0), (b 0), (b 0), (b 0), (b 0), (b 0), (b 0), (b 0), (b 0), (b 0), (b 0), (b 0), (b 0), (b 0), (.str [])]), e (.store 62 (t 17) (t 92)), m 18 (.mov (t 93)), m 19 (.mov (t 94))]) <|
  .seq (.seq (.region [m 95 (.mov (t 19)), m 96 (.bin .eql .num (t 95) (.c (i 0)))]) <|
  .cond (t 96) (.seq (.region [m 98 (.load (some 62) (t 17)), m 99 (.call false 31 [(t 98)]), m 97 (.mov (t 99)), m 100 (.extract 0 (t 97)), m 101 (.extract 1 (t 97)), m 20 (.mov (t 100)), m 21 (.mov (t 101))]) <|
  .seq (.dreg [(m 102 (.mov (t 21)), []), (m 103 (.bin .neq .num (t 102) (.c (i 0))), [0]), (m 104 (.mov (t 103)), [1]), (g 105 104 false (.mov (t 18)), [2]), (g 106 104 false (.mov (t 2)), [2]), (g 107 104 false (.len (t 106)), [4, 2]), (g 108 104 false (.bin .gtr .num (t 105) (t 107)), [3, 5, 2]), (m 109 (.pick (t 104) (.c (.bool true)) (t 108)), [2, 6]), (m 110 (.mov (t 109)), [7, 2]), (g 111 110 false (.mov (t 20)), [8]), (g 112 110 false (.b2s (t 111)), [9, 8]), (g 113 110 false (.mov (t 2)), [8]), (g 114 110 false (.mov (t 18)), [8]), (g 115 110 false (.slice 1 (t 113) none (some (t 114))), [11, 12, 8]), (g 116 110 false (.b2s (t 115)), [13, 8]), (g 117 110 false (.bin .neq .num (t 112) (t 116)), [10, 14, 8]), (m 118 (.pick (t 110) (.c (.bool true)) (t 117)), [8, 15])] [(2, 0), (2, 1), (2, 2), (2, 3), (2, 4), (1, 5), (2, 6), (2, 7), (2, 8), (2, 9), (1, 10), (2, 11), (2, 12), (1, 13), (1, 14), (2, 15), (2, 16)] [0, 1, 3, 7, 7, 23, 63, 127, 255, 511, 1023, 511, 511, 6655, 14847, 32767, 65535]) <|
  .cond (t 118) (.seq (.region [m 8 (.mov (.c (.bool false)))]) <|
  .ret) (.skip)) (.skip)) <|
  vb10_8) := rfl
open D in
theorem vb10_eq : vb10 =
  (.seq (.region [m 4 (.box 0 (t 0)), m 8 (.mov (.c (.bool false)))]) <|
  .seq (.region [m 26 (.call false 28 []), m 9 (.mov (t 26))]) <|
  .seq (.region [m 27 (.load (some 62) (t 4)), m 28 (.call false 29 [(t 27)]), m 10 (.mov (t 28))]) <|
  .seq (.seq (.region [m 29 (.mov (t 10)), m 30 (.un .not (t 29)), m 31 (.mov (t 30)), g 32 31 false (.mov (t 1)), g 33 31 false (.len (t 32)), g 34 31 false (.bin .gtr .num (t 33) (.c (i 40))), m 35 (.pick (t 31) (.c (.bool true)) (t 34)), m 36 (.mov (t 35)), g 37 36 false (.mov (t 2)), g 38 36 false (.len (t 37)), g 39 36 false (.bin .gtr .num (t 38) (.c (i 4096))), m 40 (.pick (t 36) (.c (.bool true)) (t 39))]) <|
  .cond (t 40) (.seq (.region [m 41 (.mov (t 9)), m 8 (.mov (t 41))]) <|
  .ret) (.skip)) <|
  .seq (.region [m 43 (.load (some 62) (t 4)), m 44 (.call false 31 [(t 43)]), m 42 (.mov (t 44)), m 45 (.extract 0 (t 42)), m 46 (.extract 1 (t 42)), m 11 (.mov (t 45)), m 12 (.mov (t 46))]) <|
  .seq (.seq (.region [m 47 (.mov (t 12)), m 48 (.bin .eql .num (t 47) (.c (i 0)))]) <|
  .cond (t 48) (.seq (.region [m 50 (.mov (t 11)), m 51 (.call false 35 [(t 50), (.c (i 4))]), m 49 (.mov (t 51)), m 52 (.extract 0 (t 49)), m 53 (.extract 1 (t 49)), m 13 (.alloc 1 [(i 0), (b 0), (b 0), (b 0), (b 0), (b 0), (b 0), (b 0), (b 0), (i 0), (i 0), (b 0), (b 0), (b 0), (b 0), (b 0), (b 0), (b 0), (b 0), (b 0), (b 0), (b 0), (b 0), (b 0), (b 0), (b 0), (b 0), (i 0), (b 0), (b 0), (b 0), (b 0), (b 0), (b 0), (b 0), (b 0), (b 0), (b 0), (b 0), (b 0), (b 0), (b 0), (b 0), (b 0), (i 0), (b 0), (b 0), (b 0), (b 0), (b 0), (b 0), (b 0), (b 0), (b 0), (b 0), (b 0), (b 0), (b 0), (b 0), (b 0), (b 0), (.str [])]), e (.store 62 (t 13) (t 52)), m 14 (.mov (t 53))]) <|
  .seq (.region [m 55 (.mov (t 11)), m 56 (.call false 35 [(t 55), (.c (i 16))]), m 54 (.mov (t 56)), m 57 (.extract 0 (t 54)), m 58 (.extract 1 (t 54)), m 15 (.alloc 2 [(i 0), (b 0), (b 0), (b 0), (b 0), (b 0), (b 0), (b 0), (b 0), (i 0), (i 0), (b 0), (b 0), (b 0), (b 0), (b 0), (b 0), (b 0), (b 0), (b 0), (b 0), (b 0), (b 0), (b 0), (b 0), (b 0), (b 0), (i 0), (b 0), (b 0), (b 0), (b 0), (b 0), (b 0), (b 0), (b 0), (b 0), (b 0), (b 0), (b 0), (b 0), (b 0), (b 0), (b 0), (i 0), (b 0), (b 0), (b 0), (b 0), (b 0), (b 0), (b 0), (b 0), (b 0), (b 0), (b 0), (b 0), (b 0), (b 0), (b 0), (b 0), (.str [])]), e (.store 62 (t 15) (t 57)), m 16 (.mov (t 58))]) <|
  .seq (.region [m 59 (.mov (t 14)), m 60 (.bin .neq .num (t 59) (.c (i 0))), m 61 (.mov (t 60)), g 62 61 true (.mov (t 16)), g 63 61 true (.bin .neq .num (t 62) (.c (i 0))), m 64 (.pick (t 61) (t 63) (.c (.bool false))), m 65 (.mov (t 64)), g 66 65 false (.mov (t 14)), g 67 65 false (.bin .eql .num (t 66) (.c (i 0))), g 68 65 false (.mov (t 67)), g 69 68 true (.load (some 62) (t 13)), g 70 68 true (.load (some 62) (t 4)), g 71 68 true (.eqAgg [(.i .i64), (.i .u8), (.i .u8), (.i .u8), (.i .u8), (.i .u8), (.i .u8), (.i .u8), (.i .u8), (.i .i64), (.i .i64), (.i .u8), (.i .u8), (.i .u8), (.i .u8), (.i .u8), (.i .u8), (.i .u8), (.i .u8), (.i .u8), (.i .u8), (.i .u8), (.i .u8), (.i .u8), (.i .u8), (.i .u8), (.i .u8), (.i .i64), (.i .u8), (.i .u8), (.i .u8), (.i .u8), (.i .u8), (.i .u8), (.i .u8), (.i .u8), (.i .u8), (.i .u8), (.i .u8), (.i .u8), (.i .u8), (.i .u8), (.i .u8), (.i .u8), (.i .i64), (.i .u8), (.i .u8), (.i .u8), (.i .u8), (.i .u8), (.i .u8), (.i .u8), (.i .u8), (.i .u8), (.i .u8), (.i .u8), (.i .u8), (.i .u8), (.i .u8), (.i .u8), (.i .u8), .s] true (t 69) (t 70)), g 72 65 false (.pick (t 68) (t 71) (.c (.bool false))), m 73 (.pick (t 65) (.c (.bool true)) (t 72)), m 74 (.mov (t 73)), g 75 74 false (.mov (t 16)), g 76 74 false (.bin .eql .num (t 75) (.c (i 0))), g 77 74 false (.mov (t 76)), g 78 77 true (.load (some 62) (t 15)), g 79 77 true (.load (some 62) (t 4)), g 80 77 true (.eqAgg [(.i .i64), (.i .u8), (.i .u8), (.i .u8), (.i .u8), (.i .u8), (.i .u8), (.i .u8), (.i .u8), (.i .i64), (.i .i64), (.i .u8), (.i .u8), (.i .u8), (.i .u8), (.i .u8), (.i .u8), (.i .u8), (.i .u8), (.i .u8), (.i .u8), (.i .u8), (.i .u8), (.i .u8), (.i .u8), (.i .u8), (.i .u8), (.i .i64), (.i .u8), (.i .u8), (.i .u8), (.i .u8), (.i .u8), (.i .u8), (.i .u8), (.i .u8), (.i .u8), (.i .u8), (.i .u8), (.i .u8), (.i .u8), (.i .u8), (.i .u8), (.i .u8), (.i .i64), (.i .u8), (.i .u8), (.i .u8), (.i .u8), (.i .u8), (.i .u8), (.i .u8), (.i .u8), (.i .u8), (.i .u8), (.i .u8), (.i .u8), (.i .u8), (.i .u8), (.i .u8), (.i .u8), .s] true (t 78) (t 79)), g 81 74 false (.pick (t 77) (t 80) (.c (.bool false))), m 82 (.pick (t 74) (.c (.bool true)) (t 81)), m 83 (.mov (t 82)), g 84 83 false (.load (some 62) (t 4)), g 85 83 false (.call false 32 [(t 84)]), g 86 83 false (.un .not (t 85)), m 87 (.pick (t 83) (.c (.bool true)) (t 86))]) <|
  .cond (t 87) (.seq (.region [m 8 (.mov (.c (.bool false)))]) <|
  .ret) (.skip)) (.skip)) <|
  vb10_6) := rfl

attribute [local irreducible] vBuild vCallV
section
variable {m : Mr} {s : Int} {l : List UInt8} {es : List (List PV)} {σ : VHeap} {Post : KP}
set_option maxHeartbeats 4000000 in
theorem mbB (hl : l.length ≤ 4096) (hB : belH σ.length σ) (hk : Post (.bool true) σ) {u : Env} {L : VHeap} (e2 : u 2 = .sl (bsl l)) (e3 : u 3 = .int .i64 s) (e9 : u 9 = .bool true) :
    vrun Tryd.prog σ.length vb10_8 u (σ ++ L) (vend vf10 (TrimP σ.length Post)) := by
  rw [vb10_8_eq]
  refine W ?_
  have hlen := readRM_len l s
  have hgood := readRM_good (l := l) (s := s)
  have hbad := readRM_bad (l := l) (s := s)
  have hu := uMReadRow (l := l) (s := s) (by omega)
  generalize readRM l s = q at *
  refine cu hu ?_
  by_cases he : q.2 = 0
  · obtain ⟨g1, g2⟩ := hgood he
    refine W ?_
    refine cu (uMRow (l := q.1) g1 (by omega)) ?_
    rw [g2]
    have es : sbin .neq l l = some (.bool false) := by rw [sb_neq]; simp
    refine W ?_
    exact hk
  · have hn := hbad he
    refine W ?_
    exact hk
set_option maxHeartbeats 4000000 in
theorem mbA (hl : l.length ≤ 4096) (hB : belH σ.length σ) (hk : Post (.bool true) σ) {u : Env} {x0 x1 x2 : Nat × VObj} (e2 : u 2 = .sl (bsl l)) (e3 : u 3 = .int .i64 s) (e9 : u 9 = .bool true) :
    vrun Tryd.prog σ.length vb10_6 u (σ ++ [x0, x1, x2, (0, .dead)]) (vend vf10 (TrimP σ.length Post)) := by
  rw [vb10_6_eq]
  have hgood := takeM_good (l := l) (s := s)
  have hu := uTakeM (l := l) (s := s) (by omega)
  have hto := takeM_ok l s
  generalize takeM l s = t at *
  have c0 := mrc_all hto
  have ln := mrc_len hto
  have sc := mrc_sc (m := t.m)
  have d1 := mz_st hto
  refine W ?_
  refine cu hu ?_
  by_cases he : t.e = 0
  · obtain ⟨g1, g2, g3, g4, g5⟩ := hgood he
    have kl := rightM_len (rightM g1)
    refine W ?_
    refine cu (uMBytes hto (by omega) g1) ?_
    have es : sbin .neq (mbytes t.m) (l.take (t.n : Int).toNat) = some (.bool false) := by
      rw [Int.toNat_natCast, g2, sb_neq]; simp
    refine W ?_
    exact mbB hl hB hk e2 e3 e9
  · refine W ?_
    exact mbB hl hB hk e2 e3 e9
set_option maxHeartbeats 16000000 in
theorem tMBack (h : okM m) (sm : U Tryd.prog 28 [] (.bool true)) : U Tryd.prog 10 [.agg (mrc m), .sl es, .sl (bsl l), .int .i64 s] (.bool true) := by
  intro σ Post hk
  have sc := mrc_sc (m := m)
  have ln := mrc_len h
  have c0 := mrc_all h
  have w1 := mz_zz
  have w2 := mz_zy
  have w3 := mz_all
  have w4 := mz_len
  have w5 := mz_sc
  have d1 := mz_st h
  have bl := bsl_len l
  have q1 := eqC_mr h h
  rw [show (m == m) = true by simp] at q1
  refine T10 fun hB hA => ?_
  rw [vb10_eq]
  refine W ?_
  refine cu sm ?_
  refine W ?_
  refine cu (uFew h) ?_
  by_cases hf : m.key.length ≤ 4096
  · rw [decide_eq_true hf]
    by_cases h40 : (40 : Int) < es.length
    · refine W ?_
      exact hk
    · by_cases hl : (4096 : Int) < l.length
      · refine W ?_
        exact hk
      · have hl4 : l.length ≤ 4096 := by omega
        cases hr : rightF m with
        | false =>
          refine W ?_
          refine cu (uMBytes0 h (by omega) hr) ?_
          refine W ?_
          exact mbA hl4 hB hk rfl rfl rfl
        | true =>
          have hub := mb_len h hr
          have p4 := parseM_back h hr (s := 4) (.inl rfl)
          have p16 := parseM_back h hr (s := 16) (.inr rfl)
          have u4 := uParseM (l := mbytes m) (s := 4) (by omega)
          have u16 := uParseM (l := mbytes m) (s := 16) (by omega)
          rw [p4] at u4
          rw [p16] at u16
          obtain ⟨s0, hs0, hz⟩ := szF_ex hr
          refine W ?_
          refine cu (uMBytes h (by omega) hr) ?_
          refine W ?_
          refine cu u4 ?_
          cases z4 : szF 4 m with
          | true =>
            rw [if_pos rfl]
            cases z16 : szF 16 m with
            | true =>
              rw [z16, if_pos rfl] at u16
              refine W ?_
              refine cu u16 ?_
              refine W ?_
              refine cu (uRightM h (by omega)) ?_
              rw [hr]
              refine W ?_
              exact mbA hl4 hB hk rfl rfl rfl
            | false =>
              rw [z16, if_neg (by simp)] at u16
              refine W ?_
              refine cu u16 ?_
              refine W ?_
              refine cu (uRightM h (by omega)) ?_
              rw [hr]
              refine W ?_
              exact mbA hl4 hB hk rfl rfl rfl
          | false =>
            rw [if_neg (by simp)]
            cases z16 : szF 16 m with
            | true =>
              rw [z16, if_pos rfl] at u16
              refine W ?_
              refine cu u16 ?_
              refine W ?_
              refine cu (uRightM h (by omega)) ?_
              rw [hr]
              refine W ?_
              exact mbA hl4 hB hk rfl rfl rfl
            | false =>
              rcases hs0 with rfl | rfl
              · rw [hz] at z4; cases z4
              · rw [hz] at z16; cases z16
  · rw [decide_eq_false hf]
    refine W ?_
    exact hk
end
end Go.Proofs.YtdkjcadffhnjgaaDoor
