/- Sessions: what calls do to a heap whose older part they leave; a peer. -/
import Derived.Test.YtocnjlfnapefjaaGreatDoorT18
namespace Go.Proofs.YtocnjlfnapefjaaGreatDoor
open Go Go.V
set_option maxRecDepth 10000
set_option linter.unusedVariables false
attribute [local irreducible] vBuild vCallV
theorem stp_new {σ L X h' : VHeap} {O O' : List Nat} (h : Stp (σ ++ (L ++ X)) O h' O') (hO : ∀ i, i ∈ O → σ.length + L.length ≤ i) : ∃ X', h' = σ ++ (L ++ X') ∧ ∀ i, i ∈ O' → σ.length + L.length ≤ i := by
  have hl := h.k.1
  simp only [List.length_append] at hl
  refine ⟨h'.drop (σ.length + L.length), ?_, fun i hi => ?_⟩
  · rw [← List.append_assoc]
    conv => lhs; rw [← List.take_append_drop (σ.length + L.length) h']
    congr 1
    apply List.ext_getElem?
    intro i
    by_cases hi : i < σ.length + L.length
    · rw [List.getElem?_take_of_lt hi, h.k.2 i (by simp only [List.length_append]; omega) (fun hm => by have := hO i hm; omega), ← List.append_assoc, List.getElem?_append_left (by rw [List.length_append]; exact hi)]
    · rw [List.getElem?_eq_none (by rw [List.length_take]; omega), List.getElem?_eq_none (by rw [List.length_append]; omega)]
  · rcases h.g i hi with h1 | h1
    · exact hO i h1
    · simp only [List.length_append] at h1; omega
theorem at_loc {σ L L' X : VHeap} {O : List Nat} {b : Nat} {S : Ses} (h : At (σ ++ (L ++ X)) O b S) (hn : L'.length = L.length) (hO : ∀ i, i ∈ O → σ.length + L.length ≤ i) : At (σ ++ (L' ++ X)) O b S := by
  obtain ⟨tm, mid, fv, sv, h⟩ := h
  exact ⟨tm, mid, fv, sv, h.loc hn fun i hi => .inr (hO i hi)⟩
theorem okS {p : Pr} {S : Ses} (h : Inv p S) (hp : 0 ≤ p.hold ∧ p.hold ≤ 1000000) (lf : p.fams.length * 16 ≤ 140737488355328) : OkS S :=
  ⟨h.st, by rw [h.pp]; exact lf, fun hs => (h.lo (by omega)).2.1, by rw [h.pp]; exact hp, h.hd, by have := h.len; omega⟩
/-- Do, for a session that was made above. -/
theorem lDo {σ L X : VHeap} {O : List Nat} {b : Nat} {p : Pr} {S : Ses} {ev : Ev} {Post : KP} (h : At (σ ++ (L ++ X)) O b S) (hO : ∀ i, i ∈ O → σ.length + L.length ≤ i) (i : Inv p S) (hp : 0 ≤ p.hold ∧ p.hold ≤ 1000000) (lf : p.fams.length * 16 ≤ 140737488355328) (oE : OkE ev)
    (k : ∀ (X' : VHeap) (O' : List Nat) (S' : Ses), (∀ i, i ∈ O' → σ.length + L.length ≤ i) → At (σ ++ (L ++ X')) O' b S' → DoR ev S S' → Inv p S' → Rel S S' → Post (.agg (toldC S')) (σ ++ (L ++ X'))) : T Tryz.prog 10 [.ptr b 1 0, .agg (evC ev)] (σ ++ (L ++ X)) Post := by
  refine tDo h (okS i hp lf) oE fun σ' O' S' st a d => ?_
  obtain ⟨X', rfl, hO'⟩ := stp_new st hO
  obtain ⟨i2, r2⟩ := do_inv i hp oE.ho.1 d
  exact k X' O' S' hO' a d i2 r2
theorem newHold {p : Pr} (h : newOk p = true) : 0 ≤ p.hold ∧ p.hold ≤ 1000000 := by
  simp only [newOk, opsP, List.all_cons, opP, Bool.and_eq_true, rightOp, Bool.or_eq_true, decide_eq_true_eq] at h
  obtain ⟨⟨⟨_, _, h⟩, _⟩, _⟩ := h
  omega
/-- An event that tells no more than its kind. -/
def evZ (k : Int) : Ev := { ev0 with do_ := k }
theorem okEZ {k : Int} : OkE (evZ k) := ⟨⟨⟨⟨rfl⟩, rfl, ⟨trivial⟩, ⟨trivial⟩⟩, ⟨trivial⟩⟩, Nat.zero_le _, Nat.zero_le _, by show (-9223372036854775808 : Int) ≤ 0 ∧ (0 : Int) ≤ 9223372036854775807; decide⟩
def a4 (l : UInt8) : Ad := ⟨4, [10, 0, 0, l, 0, 0, 0, 0, 0, 0, 0, 0, 0, 0, 0, 0]⟩
noncomputable def tabV : List (Nat × VFun) := [(11, autoV Tryz.prog rawF Tryz.f11)]
theorem tabV_ok : TabOk Tryz.prog tabV := .cons (autoOk Tryz.func11 (by kernel_rfl)) .nil
theorem uV41 : U Tryz.prog 11 [.int .u8 10, .int .u8 0, .int .u8 0, .int .u8 1] (.agg (adc (a4 1))) := U_kernelC (tab := tabV) (ext := extA []) (spec := fun _ _ => none) 50 20 _ _ tabV_ok (extA_ok (by simp)) specNone glob_cl rfl inferInstance (by kernel_rfl)
theorem uV42 : U Tryz.prog 11 [.int .u8 10, .int .u8 0, .int .u8 0, .int .u8 2] (.agg (adc (a4 2))) := U_kernelC (tab := tabV) (ext := extA []) (spec := fun _ _ => none) 50 20 _ _ tabV_ok (extA_ok (by simp)) specNone glob_cl rfl inferInstance (by kernel_rfl)
def peerP (h : Int) : Pr := ⟨65000, a4 1, h, 65000, [⟨4, 5⟩]⟩
theorem uPeer {h : Int} : U Tryz.prog 8 [.int .u8 1, .int .i64 h] (.agg (prC (peerP h))) := by
  intro σ Post hk
  refine T8 fun hB hA => ?_
  refine W ?_
  refine cu uV41 ?_
  refine W ?_
  have hi : InlA σ.length [(1, VObj.box [PV.int .i64 65000, .int .i64 4, byt 10, byt 0, byt 0, byt 1, byt 0, byt 0, byt 0, byt 0, byt 0, byt 0, byt 0, byt 0, byt 0, byt 0, byt 0, byt 0, .int .i64 h, .int .i64 65000, .row (σ.length + 1) (0 + 1)] false), (1, VObj.row 2 [[PV.int .i64 4, PV.int .i64 5]] false)] [(1, VObj.box [PV.int .i64 65000, .int .i64 4, byt 10, byt 0, byt 0, byt 1, byt 0, byt 0, byt 0, byt 0, byt 0, byt 0, byt 0, byt 0, byt 0, byt 0, byt 0, byt 0, .int .i64 h, .int .i64 65000, .row (σ.length + 1) (0 + 1)] false), (1, VObj.row 2 [[PV.int .i64 4, PV.int .i64 5]] false)] [PV.int .i64 65000, .int .i64 4, byt 10, byt 0, byt 0, byt 1, byt 0, byt 0, byt 0, byt 0, byt 0, byt 0, byt 0, byt 0, byt 0, byt 0, byt 0, byt 0, .int .i64 h, .int .i64 65000, .row (σ.length + 1) (0 + 1)] [PV.int .i64 65000, .int .i64 4, byt 10, byt 0, byt 0, byt 1, byt 0, byt 0, byt 0, byt 0, byt 0, byt 0, byt 0, byt 0, byt 0, byt 0, byt 0, byt 0, .int .i64 h, .int .i64 65000, .sl [[.int .i64 4, .int .i64 5]]] [(1, VObj.box [PV.int .i64 65000, .int .i64 4, byt 10, byt 0, byt 0, byt 1, byt 0, byt 0, byt 0, byt 0, byt 0, byt 0, byt 0, byt 0, byt 0, byt 0, byt 0, byt 0, .int .i64 h, .int .i64 65000, .row (σ.length + 1) (0 + 1)] false), (1, VObj.row 2 [[PV.int .i64 4, PV.int .i64 5]] true)] := by
    repeat (first | exact .nil _ | refine .row (vGet_of rfl) rfl ?_ | refine .pl inferInstance ?_)
  refine ret_a (v' := .agg (prC (peerP h))) (L' := [(1, VObj.box [PV.int .i64 65000, .int .i64 4, byt 10, byt 0, byt 0, byt 1, byt 0, byt 0, byt 0, byt 0, byt 0, byt 0, byt 0, byt 0, byt 0, byt 0, byt 0, byt 0, .int .i64 h, .int .i64 65000, .row (σ.length + 1) (0 + 1)] false), (1, VObj.row 2 [[PV.int .i64 4, PV.int .i64 5]] true)]) (.inl rfl) rfl (rv_one (rv_c (id := σ.length + 0) (g := 0 + 1) (off := 0) rfl (by exact lget rfl (vGet_of rfl)) (by exact rfl))) (by exact InlA.agg hi (.nil _)) (by exact z_be) rfl hB hk
end Go.Proofs.YtocnjlfnapefjaaGreatDoor
