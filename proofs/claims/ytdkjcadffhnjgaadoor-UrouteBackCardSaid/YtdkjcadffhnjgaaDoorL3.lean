/- The law UrouteBack as a triple. -/
import Derived.Test.YtdkjcadffhnjgaaDoorGD
namespace Go.Proofs.YtdkjcadffhnjgaaDoor
open Go Go.V
set_option maxRecDepth 10000
theorem rr_good : ∀ (n : Nat) (s : Int) (l : List UInt8) (out : List UR), l.length = n → (rrF s l out).2 = 0 → (okRow out → okRow (rrF s l out).1) ∧ (out.all (fun p => okR p.1 p.2) = true → (rrF s l out).1.all (fun p => okR p.1 p.2) = true) ∧ flatB (rrF s l out).1 = flatB out ++ l := by
  intro n
  induction n using Nat.strongRecOn with
  | _ n ih =>
    intro s l out hn h
    rw [rrF] at h ⊢
    split at h
    · rename_i hl
      rw [if_pos hl, hl, List.append_nil]
      exact ⟨id, id, rfl⟩
    · rename_i hl
      rw [if_neg hl]
      split at h
      · rename_i ht
        rw [if_pos ht]
        obtain ⟨a1, a2, a3, a4, a5⟩ := takeF_good ht.1
        obtain ⟨b1, b2, b3⟩ := ih (l.drop (takeF l s).n).length (by rw [List.length_drop]; omega) s _ _ rfl h
        refine ⟨fun ho => b1 fun p hp => ?_, fun ho => b2 ?_, ?_⟩
        · rcases List.mem_append.1 hp with hp | hp
          · exact ho p hp
          · simp at hp; subst hp; exact takeF_ok l s
        · rw [List.all_append, ho]; simp [a1]
        · rw [b3, flatB_snoc, a3, List.append_assoc, List.take_append_drop]
      · rename_i ht
        rw [if_neg ht]
        exfalso
        refine ht ⟨h, ?_, List.length_pos_iff.2 hl⟩
        have := (takeF_good h).2.2.2.2
        omega
theorem rr_bad : ∀ (n : Nat) (s : Int) (l : List UInt8) (out : List UR), l.length = n → (rrF s l out).2 ≠ 0 → (rrF s l out).1 = [] := by
  intro n
  induction n using Nat.strongRecOn with
  | _ n ih =>
    intro s l out hn h
    rw [rrF] at h ⊢
    split at h
    · exact (h rfl).elim
    · rename_i hl
      rw [if_neg hl]
      split at h
      · rename_i ht
        rw [if_pos ht]
        exact ih (l.drop (takeF l s).n).length (by rw [List.length_drop]; omega) s _ _ rfl h
      · rename_i ht
        rw [if_neg ht]
theorem read_good {l : List UInt8} {s : Int} (h : (readF l s).2 = 0) : okRow (readF l s).1 ∧ rowF (readF l s).1 = (l, 0) := by
  unfold readF at *
  split at h
  · cases h
  · rename_i hs
    rw [if_neg hs]
    obtain ⟨a, b, c⟩ := rr_good _ s l [] rfl h
    refine ⟨a fun p hp => by simp at hp, ?_⟩
    unfold rowF
    rw [if_pos (b rfl), c]; rfl
theorem read_bad {l : List UInt8} {s : Int} (h : (readF l s).2 ≠ 0) : (readF l s).1 = [] := by
  unfold readF at *
  split at h
  · rename_i hs; rw [if_pos hs]
  · rename_i hs; rw [if_neg hs]; exact rr_bad _ s l [] rfl h
theorem rr_len : ∀ (n : Nat) (s : Int) (l : List UInt8) (out : List UR), l.length = n → (rrF s l out).1.length ≤ out.length + l.length := by
  intro n
  induction n using Nat.strongRecOn with
  | _ n ih =>
    intro s l out hn
    rw [rrF]
    split
    · simp
    · split
      · rename_i ht
        have := ih (l.drop (takeF l s).n).length (by rw [List.length_drop]; omega) s _ (out ++ [((takeF l s).x, (takeF l s).a)]) rfl
        rw [List.length_append, List.length_drop] at this
        simp only [List.length_cons, List.length_nil] at this
        omega
      · simp
theorem read_len (l : List UInt8) (s : Int) : (readF l s).1.length ≤ l.length := by
  unfold readF; split
  · simp
  · have := rr_len _ s l [] rfl; simpa using this
theorem nmU_s {x : Nm} {a : Int} (h : okN x) : cut (nmU x a) 8 none = some (.int .i64 x.s) := by
  simp only [cut]
  rw [nmU, urc, List.getElem?_append_right (by rw [u8c_len, h.1]; exact Nat.le_refl _), u8c_len, h.1]; rfl
/-- What holds behind a piece is enough for what follows. -/
theorem midp {P : Program} {n : Nat} {c : VC} {env : Env} {σ : VHeap} {Q : QP} {W : List Nat} (I : Env → VHeap → Prop) (h1 : vrun P n c env σ (Q.then I)) (h2 : ∀ (u : Env) (σ' : VHeap), I (mix W u env) σ' → Q .normal (mix W u env) σ') (hW : wr c = W := by exact rfl) : vrun P n c env σ Q := by
  subst hW
  refine vrun_mono c _ _ (fun e env' σ' h => ?_) (vrun_wr c env σ _ h1)
  obtain ⟨g, h⟩ := h
  cases e with
  | normal =>
    have := h2 env' σ' (by rw [mix_same g]; exact h)
    rw [mix_same g] at this; exact this
  | exit id => exact h
  | ret => exact h
open D in
def vb5_7 : VC :=
  .seq (.region [m 93 (.mov (t 1)), m 94 (.mov (t 2)), m 95 (.call false 22 [(t 93), (t 94)]), m 92 (.mov (t 95)), m 96 (.extract 0 (t 92)), m 97 (.extract 1 (t 92)), m 18 (.mov (t 96)), m 19 (.mov (t 97))]) <|
  .seq (.seq (.region [m 98 (.mov (t 19)), m 99 (.bin .neq .num (t 98) (.c (i 0)))]) <|
  .cond (t 99) (.seq (.region [m 100 (.mov (t 7)), m 101 (.mov (t 100)), g 102 101 true (.mov (t 18)), g 103 101 true (.len (t 102)), g 104 101 true (.bin .eql .num (t 103) (.c (i 0))), m 105 (.pick (t 101) (t 104) (.c (.bool false))), m 6 (.mov (t 105))]) <|
  .ret) (.skip)) <|
  .seq (.region [m 107 (.mov (t 18)), m 108 (.call false 21 [(t 107)]), m 106 (.mov (t 108)), m 109 (.extract 0 (t 106)), m 110 (.extract 1 (t 106)), m 20 (.mov (t 109)), m 21 (.mov (t 110))]) <|
  .seq (.region [m 111 (.mov (t 7)), m 112 (.mov (t 111)), g 113 112 true (.mov (t 21)), g 114 112 true (.bin .eql .num (t 113) (.c (i 0))), m 115 (.pick (t 112) (t 114) (.c (.bool false))), m 116 (.mov (t 115)), g 117 116 true (.mov (t 20)), g 118 116 true (.b2s (t 117)), g 119 116 true (.mov (t 1)), g 120 116 true (.b2s (t 119)), g 121 116 true (.bin .eql .num (t 118) (t 120)), m 122 (.pick (t 116) (t 121) (.c (.bool false))), m 6 (.mov (t 122))]) <|
  .ret
open D in
theorem vb5_7_eq : vb5_7 =
  (.seq (.region [m 93 (.mov (t 1)), m 94 (.mov (t 2)), m 95 (.call false 22 [(t 93), (t 94)]), m 92 (.mov (t 95)), m 96 (.extract 0 (t 92)), m 97 (.extract 1 (t 92)), m 18 (.mov (t 96)), m 19 (.mov (t 97))]) <|
  .seq (.seq (.region [m 98 (.mov (t 19)), m 99 (.bin .neq .num (t 98) (.c (i 0)))]) <|
  .cond (t 99) (.seq (.region [m 100 (.mov (t 7)), m 101 (.mov (t 100)), g 102 101 true (.mov (t 18)), g 103 101 true (.len (t 102)), g 104 101 true (.bin .eql .num (t 103) (.c (i 0))), m 105 (.pick (t 101) (t 104) (.c (.bool false))), m 6 (.mov (t 105))]) <|
  .ret) (.skip)) <|
  .seq (.region [m 107 (.mov (t 18)), m 108 (.call false 21 [(t 107)]), m 106 (.mov (t 108)), m 109 (.extract 0 (t 106)), m 110 (.extract 1 (t 106)), m 20 (.mov (t 109)), m 21 (.mov (t 110))]) <|
  .seq (.region [m 111 (.mov (t 7)), m 112 (.mov (t 111)), g 113 112 true (.mov (t 21)), g 114 112 true (.bin .eql .num (t 113) (.c (i 0))), m 115 (.pick (t 112) (t 114) (.c (.bool false))), m 116 (.mov (t 115)), g 117 116 true (.mov (t 20)), g 118 116 true (.b2s (t 117)), g 119 116 true (.mov (t 1)), g 120 116 true (.b2s (t 119)), g 121 116 true (.bin .eql .num (t 118) (t 120)), m 122 (.pick (t 116) (t 121) (.c (.bool false))), m 6 (.mov (t 122))]) <|
  .ret) := rfl
open D in
def vb5_5 : VC :=
  .seq (.region [m 62 (.mov (t 1)), m 63 (.mov (t 2)), m 64 (.call false 14 [(t 62), (t 63)]), m 61 (.mov (t 64)), m 65 (.extract 0 (t 61)), m 66 (.extract 1 (t 61)), m 67 (.extract 2 (t 61)), m 13 (.alloc 5 [(b 0), (b 0), (b 0), (b 0), (b 0), (b 0), (b 0), (b 0), (i 0), (b 0), (b 0), (b 0), (b 0), (b 0), (b 0), (b 0), (b 0), (b 0), (b 0), (b 0), (b 0), (b 0), (b 0), (b 0), (b 0), (i 0), (i 0)]), e (.store 27 (t 13) (t 65)), m 14 (.mov (t 66)), m 15 (.mov (t 67))]) <|
  .seq (.seq (.region [m 68 (.mov (t 15)), m 69 (.bin .eql .num (t 68) (.c (i 0)))]) <|
  .cond (t 69) (.seq (.region [m 71 (.load (some 27) (t 13)), m 72 (.call false 13 [(t 71)]), m 70 (.mov (t 72)), m 73 (.extract 0 (t 70)), m 74 (.extract 1 (t 70)), m 16 (.mov (t 73)), m 17 (.mov (t 74))]) <|
  .seq (.dreg [(m 75 (.mov (t 17)), []), (m 76 (.bin .neq .num (t 75) (.c (i 0))), [0]), (m 77 (.mov (t 76)), [1]), (g 78 77 false (.mov (t 14)), [2]), (g 79 77 false (.mov (t 1)), [2]), (g 80 77 false (.len (t 79)), [4, 2]), (g 81 77 false (.bin .gtr .num (t 78) (t 80)), [3, 5, 2]), (m 82 (.pick (t 77) (.c (.bool true)) (t 81)), [2, 6]), (m 83 (.mov (t 82)), [7, 2]), (g 84 83 false (.mov (t 16)), [8]), (g 85 83 false (.b2s (t 84)), [9, 8]), (g 86 83 false (.mov (t 1)), [8]), (g 87 83 false (.mov (t 14)), [8]), (g 88 83 false (.slice 1 (t 86) none (some (t 87))), [11, 12, 8]), (g 89 83 false (.b2s (t 88)), [13, 8]), (g 90 83 false (.bin .neq .num (t 85) (t 89)), [10, 14, 8]), (m 91 (.pick (t 83) (.c (.bool true)) (t 90)), [8, 15])] [(2, 0), (2, 1), (2, 2), (2, 3), (2, 4), (1, 5), (2, 6), (2, 7), (2, 8), (2, 9), (1, 10), (2, 11), (2, 12), (1, 13), (1, 14), (2, 15), (2, 16)] [0, 1, 3, 7, 7, 23, 63, 127, 255, 511, 1023, 511, 511, 6655, 14847, 32767, 65535]) <|
  .cond (t 91) (.seq (.region [m 6 (.mov (.c (.bool false)))]) <|
  .ret) (.skip)) (.skip)) <|
  vb5_7
open D in
theorem vb5_5_eq : vb5_5 =
  (.seq (.region [m 62 (.mov (t 1)), m 63 (.mov (t 2)), m 64 (.call false 14 [(t 62), (t 63)]), m 61 (.mov (t 64)), m 65 (.extract 0 (t 61)), m 66 (.extract 1 (t 61)), m 67 (.extract 2 (t 61)), m 13 (.alloc 5 [(b 0), (b 0), (b 0), (b 0), (b 0), (b 0), (b 0), (b 0), (i 0), (b 0), (b 0), (b 0), (b 0), (b 0), (b 0), (b 0), (b 0), (b 0), (b 0), (b 0), (b 0), (b 0), (b 0), (b 0), (b 0), (i 0), (i 0)]), e (.store 27 (t 13) (t 65)), m 14 (.mov (t 66)), m 15 (.mov (t 67))]) <|
  .seq (.seq (.region [m 68 (.mov (t 15)), m 69 (.bin .eql .num (t 68) (.c (i 0)))]) <|
  .cond (t 69) (.seq (.region [m 71 (.load (some 27) (t 13)), m 72 (.call false 13 [(t 71)]), m 70 (.mov (t 72)), m 73 (.extract 0 (t 70)), m 74 (.extract 1 (t 70)), m 16 (.mov (t 73)), m 17 (.mov (t 74))]) <|
  .seq (.dreg [(m 75 (.mov (t 17)), []), (m 76 (.bin .neq .num (t 75) (.c (i 0))), [0]), (m 77 (.mov (t 76)), [1]), (g 78 77 false (.mov (t 14)), [2]), (g 79 77 false (.mov (t 1)), [2]), (g 80 77 false (.len (t 79)), [4, 2]), (g 81 77 false (.bin .gtr .num (t 78) (t 80)), [3, 5, 2]), (m 82 (.pick (t 77) (.c (.bool true)) (t 81)), [2, 6]), (m 83 (.mov (t 82)), [7, 2]), (g 84 83 false (.mov (t 16)), [8]), (g 85 83 false (.b2s (t 84)), [9, 8]), (g 86 83 false (.mov (t 1)), [8]), (g 87 83 false (.mov (t 14)), [8]), (g 88 83 false (.slice 1 (t 86) none (some (t 87))), [11, 12, 8]), (g 89 83 false (.b2s (t 88)), [13, 8]), (g 90 83 false (.bin .neq .num (t 85) (t 89)), [10, 14, 8]), (m 91 (.pick (t 83) (.c (.bool true)) (t 90)), [8, 15])] [(2, 0), (2, 1), (2, 2), (2, 3), (2, 4), (1, 5), (2, 6), (2, 7), (2, 8), (2, 9), (1, 10), (2, 11), (2, 12), (1, 13), (1, 14), (2, 15), (2, 16)] [0, 1, 3, 7, 7, 23, 63, 127, 255, 511, 1023, 511, 511, 6655, 14847, 32767, 65535]) <|
  .cond (t 91) (.seq (.region [m 6 (.mov (.c (.bool false)))]) <|
  .ret) (.skip)) (.skip)) <|
  vb5_7) := rfl
open D in
theorem vb5_eq : vb5 =
  (.seq (.region [m 3 (.box 0 (t 0)), m 6 (.mov (.c (.bool false)))]) <|
  .seq (.region [m 22 (.call false 11 []), m 7 (.mov (t 22))]) <|
  .seq (.seq (.region [m 23 (.mov (t 1)), m 24 (.len (t 23)), m 25 (.bin .gtr .num (t 24) (.c (i 4096)))]) <|
  .cond (t 25) (.seq (.region [m 26 (.mov (t 7)), m 6 (.mov (t 26))]) <|
  .ret) (.skip)) <|
  .seq (.region [m 28 (.load (some 27) (t 3)), m 29 (.call false 13 [(t 28)]), m 27 (.mov (t 29)), m 30 (.extract 0 (t 27)), m 31 (.extract 1 (t 27)), m 8 (.mov (t 30)), m 9 (.mov (t 31))]) <|
  .seq (.seq (.region [m 32 (.mov (t 9)), m 33 (.bin .eql .num (t 32) (.c (i 0)))]) <|
  .cond (t 33) (.seq (.dreg [(m 35 (.buildSlice 1 1 0 [(b 0)] []), []), (m 36 (.mov (t 8)), []), (m 37 (.append 2 1 1 (t 35) (t 36)), [0, 1]), (m 38 (.mov (t 1)), []), (m 39 (.append 3 1 1 (t 37) (t 38)), [2, 3, 2]), (m 40 (.field 8 (t 3)), []), (m 41 (.field 0 (t 40)), [5]), (m 42 (.field 0 (t 41)), [6]), (m 43 (.load none (t 42)), [7]), (m 44 (.call false 14 [(t 39), (t 43)]), [4, 8, 4]), (m 34 (.mov (t 44)), [9]), (m 45 (.extract 0 (t 34)), [10]), (m 46 (.extract 1 (t 34)), [10]), (m 47 (.extract 2 (t 34)), [10]), (m 10 (.alloc 4 [(b 0), (b 0), (b 0), (b 0), (b 0), (b 0), (b 0), (b 0), (i 0), (b 0), (b 0), (b 0), (b 0), (b 0), (b 0), (b 0), (b 0), (b 0), (b 0), (b 0), (b 0), (b 0), (b 0), (b 0), (b 0), (i 0), (i 0)]), []), (e (.store 27 (t 10) (t 45)), [14, 11, 9, 0, 1, 2, 3, 4, 5, 6, 7, 8, 9, 10, 11, 14]), (m 11 (.mov (t 46)), [12, 15, 0, 1, 2, 3, 4, 5, 6, 7, 8, 9, 10, 11, 12, 14, 15]), (m 12 (.mov (t 47)), [13, 16, 0, 1, 2, 3, 4, 5, 6, 7, 8, 9, 10, 11, 12, 13, 14, 15, 16])] [(2, 1), (2, 3), (2, 5), (2, 6), (2, 7), (2, 8), (0, 0), (0, 2), (0, 4), (2, 9), (2, 10), (2, 11), (2, 12), (2, 13), (0, 14), (0, 15), (2, 16), (2, 17)] [0, 0, 3, 0, 15, 0, 32, 96, 224, 511, 1023, 2047, 2047, 2047, 0, 20479, 57343, 131071]) <|
  .seq (.region [m 48 (.mov (t 12)), m 49 (.bin .neq .num (t 48) (.c (i 0))), m 50 (.mov (t 49)), g 51 50 false (.load (some 27) (t 10)), g 52 50 false (.load (some 27) (t 3)), g 53 50 false (.eqAgg [(.i .u8), (.i .u8), (.i .u8), (.i .u8), (.i .u8), (.i .u8), (.i .u8), (.i .u8), (.i .i64), (.i .u8), (.i .u8), (.i .u8), (.i .u8), (.i .u8), (.i .u8), (.i .u8), (.i .u8), (.i .u8), (.i .u8), (.i .u8), (.i .u8), (.i .u8), (.i .u8), (.i .u8), (.i .u8), (.i .i64), (.i .i64)] true (t 51) (t 52)), m 54 (.pick (t 50) (.c (.bool true)) (t 53)), m 55 (.mov (t 54)), g 56 55 false (.mov (t 11)), g 57 55 false (.mov (t 8)), g 58 55 false (.len (t 57)), g 59 55 false (.bin .neq .num (t 56) (t 58)), m 60 (.pick (t 55) (.c (.bool true)) (t 59))]) <|
  .cond (t 60) (.seq (.region [m 6 (.mov (.c (.bool false)))]) <|
  .ret) (.skip)) (.skip)) <|
  vb5_5) := rfl

section
variable {x : Nm} {a s : Int} {l : List UInt8} {σ : VHeap} {Post : KP}
set_option maxHeartbeats 2000000 in
theorem backB (hl : l.length ≤ 4096) (hB : belH σ.length σ) (hk : Post (.bool true) σ) {u : Env} {L : VHeap} (e1 : u 1 = .sl (bsl l)) (e2 : u 2 = .int .i64 s) (e7 : u 7 = .bool true) :
    vrun Tryd.prog σ.length vb5_7 u (σ ++ L) (vend vf5 (TrimP σ.length Post)) := by
  rw [vb5_7_eq]
  refine W ?_
  have hlen := read_len l s
  have hgood := read_good (l := l) (s := s)
  have hbad := read_bad (l := l) (s := s)
  have hu := uReadRow (l := l) (s := s) (by omega)
  generalize readF l s = q at *
  refine cu hu ?_
  by_cases he : q.2 = 0
  · obtain ⟨g1, g2⟩ := hgood he
    refine W ?_
    refine cu (uRow (l := q.1) g1 (by omega)) ?_
    rw [g2]
    have es : sbin .eql l l = some (.bool true) := sb_eqlT rfl
    refine W ?_
    exact hk
  · have hn := hbad he
    rw [hn]
    refine W ?_
    exact hk
set_option maxHeartbeats 2000000 in
theorem backA (hl : l.length ≤ 4096) (hB : belH σ.length σ) (hk : Post (.bool true) σ) {u : Env} {x0 x1 x2 x3 x4 : Nat × VObj} (e1 : u 1 = .sl (bsl l)) (e2 : u 2 = .int .i64 s) (e7 : u 7 = .bool true) :
    vrun Tryd.prog σ.length vb5_5 u (σ ++ [x0, x1, x2, x3, x4, (0, .dead)]) (vend vf5 (TrimP σ.length Post)) := by
  rw [vb5_5_eq]
  have hgood := takeF_good (l := l) (s := s)
  have hu := uTake (l := l) (s := s) (by omega)
  have hto := takeF_ok l s
  generalize takeF l s = t at *
  have c0 := nmU_all (a := t.a) hto
  have ln := nmU_len (a := t.a) hto
  have sc := nmU_sc (x := t.x) (a := t.a)
  have d1 := spl_all' (a := t.a) (cs := [.int .u8 0, .int .u8 0, .int .u8 0, .int .u8 0, .int .u8 0, .int .u8 0, .int .u8 0, .int .u8 0, .int .i64 0, .int .u8 0, .int .u8 0, .int .u8 0, .int .u8 0, .int .u8 0, .int .u8 0, .int .u8 0, .int .u8 0, .int .u8 0, .int .u8 0, .int .u8 0, .int .u8 0, .int .u8 0, .int .u8 0, .int .u8 0, .int .u8 0, .int .i64 0, .int .i64 0]) rfl hto
  refine W ?_
  refine cu hu ?_
  by_cases he : t.e = 0
  · obtain ⟨g1, g2, g3, g4, g5⟩ := hgood he
    refine W ?_
    refine cu (uNmBytes hto g1) ?_
    have es : sbin .neq (ubN t.x t.a) (l.take (t.n : Int).toNat) = some (.bool false) := by
      rw [Int.toNat_natCast, g3, sb_neq]; simp
    refine W ?_
    exact backB hl hB hk e1 e2 e7
  · refine W ?_
    exact backB hl hB hk e1 e2 e7
set_option maxHeartbeats 4000000 in
theorem tBack (hx : okN x) : U Tryd.prog 5 [.agg (nmU x a), .sl (bsl l), .int .i64 s] (.bool true) := by
  intro σ Post hk
  have hs1 := nmU_sc (x := x) (a := a)
  have c1 := nmU_all (a := a) hx
  have l1 := nmU_len (a := a) hx
  have cS := nmU_s (a := a) hx
  have d1 : splice [.int .u8 0, .int .u8 0, .int .u8 0, .int .u8 0, .int .u8 0, .int .u8 0, .int .u8 0, .int .u8 0, .int .i64 0, .int .u8 0, .int .u8 0, .int .u8 0, .int .u8 0, .int .u8 0, .int .u8 0, .int .u8 0, .int .u8 0, .int .u8 0, .int .u8 0, .int .u8 0, .int .u8 0, .int .u8 0, .int .u8 0, .int .u8 0, .int .u8 0, .int .i64 0, .int .i64 0] 0 (nmU x a) = nmU x a := spl_all hx
  have e6 := eqC_U (a := a) (b := a) hx hx
  rw [same_self, beq_self_eq_true, Bool.true_and] at e6
  refine T5 fun hB hA => ?_
  rw [vb5_eq]
  refine W ?_
  refine cu uSmall ?_
  by_cases hl : (4096 : Int) < l.length
  · refine W ?_
    exact hk
  have hl4 : l.length ≤ 4096 := by omega
  refine W ?_
  cases ho : okR x a with
  | false =>
    refine cu (uNmBytes0 hx ho) ?_
    refine W ?_
    exact backA hl4 hB hk rfl rfl rfl
  | true =>
    have hback := takeF_back hx ho l
    have hub := ubN_len (a := a) hx
    refine cu (uNmBytes hx ho) ?_
    refine Wo ?_
    refine midp (fun e h => e 12 = .int .i64 0 ∧ (∃ g, e 10 = .ptr (σ.length + 4) g 0 ∧ g = 1) ∧ e 11 = .int .i64 ((ubN x a).length : Int) ∧ e 8 = .sl (bsl (ubN x a)) ∧
      h = σ ++ [(1, .box (nmU x a) false), (3, .row 1 (bsl (ubN x a ++ l)) true), (0, .dead), (0, .dead), (1, .box (nmU x a) false), (0, .dead)]) ?_ ?_
    · refine drTree (fun h => vGet h (σ.length + 0) 1 = some (.box (nmU x a) false)) (.br [(2, 1), (2, 3), (2, 5), (2, 6), (2, 7), (2, 8)] 0 (.br [] 2 (.br [] 4 (.br [] 9 (.br [(2, 10), (2, 11), (2, 12), (2, 13)] 14 (.br [] 15 (.fin [(2, 16), (2, 17)]) .stop) .stop) (.br [] 14 (.br [] 9 (.br [(2, 10), (2, 11), (2, 12), (2, 13)] 15 (.fin [(2, 16), (2, 17)]) .stop) .stop) .stop)) (.br [] 14 (.br [] 4 (.br [] 9 (.br [(2, 10), (2, 11), (2, 12), (2, 13)] 15 (.fin [(2, 16), (2, 17)]) .stop) .stop) .stop) .stop)) (.br [] 14 (.br [] 2 (.br [] 4 (.br [] 9 (.br [(2, 10), (2, 11), (2, 12), (2, 13)] 15 (.fin [(2, 16), (2, 17)]) .stop) .stop) .stop) .stop) .stop)) (.br [] 14 (.br [] 0 (.br [] 2 (.br [] 4 (.br [] 9 (.br [(2, 10), (2, 11), (2, 12), (2, 13)] 15 (.fin [(2, 16), (2, 17)]) .stop) .stop) .stop) .stop) .stop) .stop)) (by kernel_rfl) (by kernel_rfl) (lget rfl rfl) ?_
      refine vt_br (by exact z_ol) ?_
      refine Wo ?_
      refine va_br rfl ?_ ?_
      · skip
        refine est (by exact z_ea) ?_
        refine st_end ⟨lget rfl rfl, ?_⟩
        refine vt_br (by exact z_ol) ?_
        refine sv_nil ?_
        refine va_br rfl ?_ ?_
        · skip
          refine est (by exact z_ea) ?_
          refine st_end ⟨lget rfl rfl, ?_⟩
          refine vt_br (by exact z_ol) ?_
          refine sv_nil ?_
          refine va_br rfl ?_ ?_
          · skip
            refine est (by exact z_ea) ?_
            refine st_end ⟨lget rfl rfl, ?_⟩
            refine vt_br (by exact z_ol) ?_
            refine sv_nil ?_
            refine va_br rfl ?_ ?_
            · skip
              refine cu (uTake (l := ubN x a ++ l) (s := x.s) (by rw [List.length_append]; omega)) ?_
              rw [hback]
              refine st_end ⟨lget rfl rfl, ?_⟩
              refine vt_br (by exact z_ol) ?_
              refine Wo ?_
              refine va_br rfl ?_ ?_
              · skip
                refine est (by exact z_ea) ?_
                refine st_end ⟨lget rfl rfl, ?_⟩
                refine vt_br (by exact z_ol) ?_
                refine sv_nil ?_
                refine va_br rfl ?_ ?_
                · skip
                  refine est (by exact z_ea) ?_
                  refine st_end ⟨lget rfl rfl, ?_⟩
                  refine vt_fin (by exact z_ol) ?_
                  refine Wo ?_
                  exact ⟨rfl, ⟨1, rfl, rfl⟩, rfl, rfl, rfl⟩
                · skip
                  exact va_stop
              · skip
                exact va_stop
            · skip
              refine va_br rfl ?_ ?_
              · skip
                refine est (by exact z_ea) ?_
                refine st_end ⟨lget rfl rfl, ?_⟩
                refine vt_br (by exact z_ol) ?_
                refine sv_nil ?_
                refine va_br rfl ?_ ?_
                · skip
                  refine cu (uTake (l := ubN x a ++ l) (s := x.s) (by rw [List.length_append]; omega)) ?_
                  rw [hback]
                  refine st_end ⟨lget rfl rfl, ?_⟩
                  refine vt_br (by exact z_ol) ?_
                  refine Wo ?_
                  refine va_br rfl ?_ ?_
                  · skip
                    refine est (by exact z_ea) ?_
                    refine st_end ⟨lget rfl rfl, ?_⟩
                    refine vt_fin (by exact z_ol) ?_
                    refine Wo ?_
                    exact ⟨rfl, ⟨1, rfl, rfl⟩, rfl, rfl, rfl⟩
                  · skip
                    exact va_stop
                · skip
                  exact va_stop
              · skip
                exact va_stop
          · skip
            refine va_br rfl ?_ ?_
            · skip
              refine est (by exact z_ea) ?_
              refine st_end ⟨lget rfl rfl, ?_⟩
              refine vt_br (by exact z_ol) ?_
              refine sv_nil ?_
              refine va_br rfl ?_ ?_
              · skip
                refine est (by exact z_ea) ?_
                refine st_end ⟨lget rfl rfl, ?_⟩
                refine vt_br (by exact z_ol) ?_
                refine sv_nil ?_
                refine va_br rfl ?_ ?_
                · skip
                  refine cu (uTake (l := ubN x a ++ l) (s := x.s) (by rw [List.length_append]; omega)) ?_
                  rw [hback]
                  refine st_end ⟨lget rfl rfl, ?_⟩
                  refine vt_br (by exact z_ol) ?_
                  refine Wo ?_
                  refine va_br rfl ?_ ?_
                  · skip
                    refine est (by exact z_ea) ?_
                    refine st_end ⟨lget rfl rfl, ?_⟩
                    refine vt_fin (by exact z_ol) ?_
                    refine Wo ?_
                    exact ⟨rfl, ⟨1, rfl, rfl⟩, rfl, rfl, rfl⟩
                  · skip
                    exact va_stop
                · skip
                  exact va_stop
              · skip
                exact va_stop
            · skip
              exact va_stop
        · skip
          refine va_br rfl ?_ ?_
          · skip
            refine est (by exact z_ea) ?_
            refine st_end ⟨lget rfl rfl, ?_⟩
            refine vt_br (by exact z_ol) ?_
            refine sv_nil ?_
            refine va_br rfl ?_ ?_
            · skip
              refine est (by exact z_ea) ?_
              refine st_end ⟨lget rfl rfl, ?_⟩
              refine vt_br (by exact z_ol) ?_
              refine sv_nil ?_
              refine va_br rfl ?_ ?_
              · skip
                refine est (by exact z_ea) ?_
                refine st_end ⟨lget rfl rfl, ?_⟩
                refine vt_br (by exact z_ol) ?_
                refine sv_nil ?_
                refine va_br rfl ?_ ?_
                · skip
                  refine cu (uTake (l := ubN x a ++ l) (s := x.s) (by rw [List.length_append]; omega)) ?_
                  rw [hback]
                  refine st_end ⟨lget rfl rfl, ?_⟩
                  refine vt_br (by exact z_ol) ?_
                  refine Wo ?_
                  refine va_br rfl ?_ ?_
                  · skip
                    refine est (by exact z_ea) ?_
                    refine st_end ⟨lget rfl rfl, ?_⟩
                    refine vt_fin (by exact z_ol) ?_
                    refine Wo ?_
                    exact ⟨rfl, ⟨1, rfl, rfl⟩, rfl, rfl, rfl⟩
                  · skip
                    exact va_stop
                · skip
                  exact va_stop
              · skip
                exact va_stop
            · skip
              exact va_stop
          · skip
            exact va_stop
      · skip
        refine va_br rfl ?_ ?_
        · skip
          refine est (by exact z_ea) ?_
          refine st_end ⟨lget rfl rfl, ?_⟩
          refine vt_br (by exact z_ol) ?_
          refine sv_nil ?_
          refine va_br rfl ?_ ?_
          · skip
            refine est (by exact z_ea) ?_
            refine st_end ⟨lget rfl rfl, ?_⟩
            refine vt_br (by exact z_ol) ?_
            refine sv_nil ?_
            refine va_br rfl ?_ ?_
            · skip
              refine est (by exact z_ea) ?_
              refine st_end ⟨lget rfl rfl, ?_⟩
              refine vt_br (by exact z_ol) ?_
              refine sv_nil ?_
              refine va_br rfl ?_ ?_
              · skip
                refine est (by exact z_ea) ?_
                refine st_end ⟨lget rfl rfl, ?_⟩
                refine vt_br (by exact z_ol) ?_
                refine sv_nil ?_
                refine va_br rfl ?_ ?_
                · skip
                  refine cu (uTake (l := ubN x a ++ l) (s := x.s) (by rw [List.length_append]; omega)) ?_
                  rw [hback]
                  refine st_end ⟨lget rfl rfl, ?_⟩
                  refine vt_br (by exact z_ol) ?_
                  refine Wo ?_
                  refine va_br rfl ?_ ?_
                  · skip
                    refine est (by exact z_ea) ?_
                    refine st_end ⟨lget rfl rfl, ?_⟩
                    refine vt_fin (by exact z_ol) ?_
                    refine Wo ?_
                    exact ⟨rfl, ⟨1, rfl, rfl⟩, rfl, rfl, rfl⟩
                  · skip
                    exact va_stop
                · skip
                  exact va_stop
              · skip
                exact va_stop
            · skip
              exact va_stop
          · skip
            exact va_stop
        · skip
          exact va_stop
    rintro u _ ⟨e12, ⟨g, e10, rfl⟩, e11, e8, rfl⟩
    refine W ?_
    exact backA hl4 hB hk rfl rfl rfl
end
end Go.Proofs.YtdkjcadffhnjgaaDoor
