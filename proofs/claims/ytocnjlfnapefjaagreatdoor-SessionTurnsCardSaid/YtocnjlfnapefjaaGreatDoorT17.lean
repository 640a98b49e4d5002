/- Sessions: New, Families. -/
import Derived.Test.YtocnjlfnapefjaaGreatDoorT16
namespace Go.Proofs.YtocnjlfnapefjaaGreatDoor
open Go Go.V
set_option maxRecDepth 10000
set_option linter.unusedVariables false
attribute [local irreducible] vBuild vCallV
theorem keep_nil {a b : VHeap} (h : Keep [] a b) : ∃ X, b = a ++ X := by
  refine ⟨b.drop a.length, ?_⟩
  conv => lhs; rw [← List.take_append_drop a.length b]
  congr 1
  apply List.ext_getElem?
  intro i
  by_cases hi : i < a.length
  · rw [List.getElem?_take_of_lt hi, h.2 i hi (by simp)]
  · rw [List.getElem?_eq_none (by rw [List.length_take]; omega), List.getElem?_eq_none (by omega)]
def opP (p : Pr) (a : Int) : Opn := ⟨a, p.hold, p.id, p.fams, false⟩
def opsP (p : Pr) : List Opn := [opP p p.asn, opP p p.other]
def newOk (p : Pr) : Bool := (opsP p).all fun x => rightOp x && okAd x.id
def ses0 (p : Pr) : Ses := ⟨p, 0, false, ad0, 0, false, false, false, false, [], [], []⟩
set_option maxHeartbeats 16000000 in
theorem tNewS {σ : VHeap} {p : Pr} {Post : KP} (pk : okPr p) (lf : p.fams.length * 16 ≤ 140737488355328)
    (k1 : newOk p = true → ∀ (σ' : VHeap) (O' : List Nat) (b : Nat), Keep [] σ σ' → (∀ i, i ∈ O' → σ.length ≤ i) → At σ' O' b (ses0 p) → Post (.tup [.ptr b 1 0, .int .i64 0]) σ')
    (k0 : newOk p = false → ∀ σ', Keep [] σ σ' → Post (.tup [.nilp, .int .i64 1]) σ') : T Tryz.prog 9 [.agg (prC p)] σ Post := by
  have pl := prC_len pk
  have ps := prC_sc (x := p)
  have pa := prC_all pk
  have p1 := prC_gasn pk
  have p2 := prC_ghold pk
  have p3 := prC_gid pk
  have p4 := prC_gfams pk
  have p5 := prC_gother pk
  have p6 : splice (prC p) 20 [.sl (p.fams.map fmC)] = prC p := prC_sfams pk (v := p.fams)
  have il := adc_len pk.id
  have is := adc_sc (a := p.id)
  have ok1 : okOp (opP p p.asn) := ⟨pk.id⟩
  have ok2 : okOp (opP p p.other) := ⟨pk.id⟩
  have o1 : splice [.int .i64 p.asn, .int .i64 p.hold, D.i 0, D.b 0, D.b 0, D.b 0, D.b 0, D.b 0, D.b 0, D.b 0, D.b 0, D.b 0, D.b 0, D.b 0, D.b 0, D.b 0, D.b 0, D.b 0, D.b 0, .nils, .bool false] 2 (adc p.id) = [.int .i64 p.asn, .int .i64 p.hold] ++ (adc p.id ++ [.nils, .bool false]) := by
    generalize adc p.id = x at il ⊢
    exact spl_sk (a := [PV.int .i64 p.asn, .int .i64 p.hold]) (o := 0) rfl rfl (spl_hd (X := [D.i 0, D.b 0, D.b 0, D.b 0, D.b 0, D.b 0, D.b 0, D.b 0, D.b 0, D.b 0, D.b 0, D.b 0, D.b 0, D.b 0, D.b 0, D.b 0, D.b 0]) il)
  have o2 : splice ([PV.int .i64 p.asn, .int .i64 p.hold] ++ (adc p.id ++ [.nils, .bool false])) 19 [.sl (p.fams.map fmC)] = opC (opP p p.asn) := spl_sk (o := 17) rfl rfl (spl_sk (o := 0) il rfl rfl)
  have l1 := opC_len ok1
  have c1 := opC_sc (x := opP p p.asn)
  have a1 := opC_all ok1
  have z1 : splice [D.i 0, D.i 0, D.i 0, D.b 0, D.b 0, D.b 0, D.b 0, D.b 0, D.b 0, D.b 0, D.b 0, D.b 0, D.b 0, D.b 0, D.b 0, D.b 0, D.b 0, D.b 0, D.b 0, .nils, .bool false] 0 (opC (opP p p.asn)) = opC (opP p p.asn) := opC_any ok1 rfl
  have s1' : splice (opC (opP p p.asn)) 0 [.int .i64 p.other] = opC (opP p p.other) := opC_sasn ok1 (v := p.other)
  have l2 := opC_len ok2
  have c2 := opC_sc (x := opP p p.other)
  have a2 := opC_all ok2
  have z2 : splice [D.i 0, D.i 0, D.i 0, D.b 0, D.b 0, D.b 0, D.b 0, D.b 0, D.b 0, D.b 0, D.b 0, D.b 0, D.b 0, D.b 0, D.b 0, D.b 0, D.b 0, D.b 0, D.b 0, .nils, .bool false] 0 (opC (opP p p.other)) = opC (opP p p.other) := opC_any ok2 rfl
  refine T9 ?_
  refine W ?_
  refine cu (uCloneF lf) ?_
  refine W ?_
  have xl : ((opsP p).map opC).length = 2 := rfl
  refine lp (fun j e s => ∃ (i g4 : Nat) (o4 : VObj), i + j = 2 ∧ e 1 = .ptr (σ.length + 0) (0 + 1) 0 ∧ e 2 = .nilp ∧ e 3 = .int .i64 0 ∧ e 27 = .row (σ.length + 3) (0 + 1) ∧ e 28 = .int .i64 (2 : Nat) ∧ e 29 = .int .i64 i ∧ ((opsP p).take i).all (fun x => rightOp x && okAd x.id) = true ∧ s = σ ++ [(1, VObj.box (prC p) false), (1, .box (opC (opP p p.asn)) false), (1, .box (opC (opP p p.other)) false), (1, .row 21 ((opsP p).map opC) false), (g4, o4), D.dd]) 2 ⟨0, 0, .dead, rfl, rfl, rfl, rfl, rfl, rfl, rfl, rfl, rfl⟩ ?_
  intro j u s' hI
  revert hI
  generalize mix _ u _ = E
  rintro ⟨i, g4, o4, hi, e1, e2, e3, e27, e28, e29, hal, rfl⟩
  by_cases hlt : i < 2
  · obtain ⟨x, hx⟩ : ∃ x, (opsP p)[i]? = some x := ⟨_, List.getElem?_eq_getElem (by show i < 2; exact hlt)⟩
    have hg : ((opsP p).map opC)[(i : Int).toNat]? = some (opC x) := by rw [Int.toNat_natCast, List.getElem?_map, hx]; rfl
    have hxm := List.mem_of_getElem? hx
    have hid : x.id = p.id ∧ x.fams = p.fams := by
      unfold opsP at hxm
      simp only [List.mem_cons, List.not_mem_nil, or_false] at hxm
      rcases hxm with rfl | rfl <;> exact ⟨rfl, rfl⟩
    have okx : okOp x := ⟨by rw [hid.1]; exact pk.id⟩
    have lx := opC_len okx
    have cx := opC_sc (x := x)
    have ax := opC_all okx
    have zx : splice [D.i 0, D.i 0, D.i 0, D.b 0, D.b 0, D.b 0, D.b 0, D.b 0, D.b 0, D.b 0, D.b 0, D.b 0, D.b 0, D.b 0, D.b 0, D.b 0, D.b 0, D.b 0, D.b 0, .nils, .bool false] 0 (opC x) = opC x := opC_any okx rfl
    have gx := opC_gid okx
    have sx := msN_spl okx
    have ur := uRightM okx (by rw [hid.2]; omega)
    have tk : ((opsP p).take (i + 1)).all (fun x => rightOp x && okAd x.id) = (((opsP p).take i).all (fun x => rightOp x && okAd x.id) && (rightOp x && okAd x.id)) := by
      rw [List.take_add_one, hx, List.all_append]; simp
    refine W ?_
    refine callU (vs := [.agg (msC (mOpen x))]) ur (by exact z_hn) (by rw [← msN_nz]; exact .agg (.flat (msN_plB x)) (.nil _)) ?_
    cases r : rightOp x with
    | false =>
      have hf : newOk p = false := by
        cases hn : newOk p with
        | false => rfl
        | true =>
          have := List.all_eq_true.1 hn x hxm
          rw [r] at this; cases this
      refine W ?_
      exact k0 hf _ ((Keep.refl _ _).app _)
    | true =>
      have ua := uRightD (a := x.id) (by rw [hid.1]; exact pk.id)
      refine W ?_
      refine cu ua ?_
      cases r2 : okAd x.id with
      | false =>
        have hf : newOk p = false := by
          cases hn : newOk p with
          | false => rfl
          | true =>
            have := List.all_eq_true.1 hn x hxm
            rw [r2, Bool.and_false] at this; cases this
        refine W ?_
        exact k0 hf _ ((Keep.refl _ _).app _)
      | true =>
        refine W ?_
        exact ⟨j - 1, by omega, i + 1, _, _, by omega, e1, e2, e3, e27, e28, rfl, by rw [tk, hal, r, r2]; rfl, rfl⟩
  · have hi2 : i = 2 := by omega
    have hok : newOk p = true := by
      unfold newOk
      rw [hi2] at hal
      rw [show (opsP p).take 2 = opsP p from rfl] at hal
      exact hal
    refine Wo ?_
    refine drJ (fun hh => vGet hh (σ.length + 0) 1 = some (.box (prC p) false)) [(2, 0), (0, 1), (2, 2), (0, 3), (2, 4), (2, 5)] (by kernel_rfl) (by kernel_rfl) (by exact z_ol) (lget rfl rfl) ?_
    have y0 : splice [D.i 0, D.i 0, D.b 0, D.b 0, D.b 0, D.b 0, D.b 0, D.b 0, D.b 0, D.b 0, D.b 0, D.b 0, D.b 0, D.b 0, D.b 0, D.b 0, D.b 0, D.b 0, D.i 0, D.i 0, .nils, D.i 0, .bool false, .nilp, D.i 0, D.b 0, D.b 0, D.b 0, D.b 0, D.b 0, D.b 0, D.b 0, D.b 0, D.b 0, D.b 0, D.b 0, D.b 0, D.b 0, D.b 0, D.b 0, D.b 0, D.i 0, .nils, .nils, .bool false, .bool false, .bool false, .bool false] 0 (prC p) = prC p ++ [D.i 0, .bool false, .nilp, D.i 0, D.b 0, D.b 0, D.b 0, D.b 0, D.b 0, D.b 0, D.b 0, D.b 0, D.b 0, D.b 0, D.b 0, D.b 0, D.b 0, D.b 0, D.b 0, D.b 0, D.i 0, .nils, .nils, .bool false, .bool false, .bool false, .bool false] := by
      generalize prC p = x at pl ⊢
      exact spl_hd (X := [D.i 0, D.i 0, D.b 0, D.b 0, D.b 0, D.b 0, D.b 0, D.b 0, D.b 0, D.b 0, D.b 0, D.b 0, D.b 0, D.b 0, D.b 0, D.b 0, D.b 0, D.b 0, D.i 0, D.i 0, .nils]) pl
    have y1 : ∀ tm : Nat, splice (prC p ++ [D.i 0, .bool false, .nilp, D.i 0, D.b 0, D.b 0, D.b 0, D.b 0, D.b 0, D.b 0, D.b 0, D.b 0, D.b 0, D.b 0, D.b 0, D.b 0, D.b 0, D.b 0, D.b 0, D.b 0, D.i 0, .nils, .nils, .bool false, .bool false, .bool false, .bool false]) 23 [.ptr tm 1 0] = scC ((ses0 p).c tm .nil .nil) := fun tm => spl_sk (o := 2) pl rfl rfl
    have sl : ∀ tm : Nat, (scC ((ses0 p).c tm .nil .nil)).length = 48 := fun tm => scC_len ⟨pk, ad0_ok⟩
    have ss : ∀ tm : Nat, (scC ((ses0 p).c tm .nil .nil)).all scalar = true := fun tm => scC_sc
    refine Wo ?_
    refine sv_0 ?_
    refine ct ?_
    refine tNew fun σ2 K t2 => ?_
    obtain ⟨X, rfl⟩ := keep_nil K
    rw [List.append_assoc] at t2 ⊢
    have hLn : (σ ++ [(1, VObj.box (prC p) false), (1, VObj.box (opC (opP p p.asn)) false), (1, VObj.box (opC (opP p p.other)) false), (1, VObj.row 21 ((opsP p).map opC) false), (g4, o4), D.dd]).length = σ.length + 6 := by rw [List.length_append]; rfl
    rw [hLn] at t2 ⊢
    have y2 := y1 (σ.length + 6 + 1)
    have sl2 := sl (σ.length + 6 + 1)
    have ss2 := ss (σ.length + 6 + 1)
    refine st_end ⟨lget rfl (vGet_of rfl), ?_⟩
    refine Wo ?_
    refine sv_0 ?_
    refine est (by exact z_ea) ?_
    refine st_end ⟨lget rfl (vGet_of rfl), ?_⟩
    refine W ?_
    have e : ∀ x : Nat × VObj, (σ ++ ([(1, VObj.box (prC p) false), (1, VObj.box (opC (opP p p.asn)) false), (1, VObj.box (opC (opP p p.other)) false), (1, VObj.row 21 ((opsP p).map opC) false), (g4, o4), D.dd] ++ X)).set (σ.length + 5) x = σ ++ ((1, VObj.box (prC p) false) :: (1, VObj.box (opC (opP p p.asn)) false) :: (1, VObj.box (opC (opP p p.other)) false) :: (1, VObj.row 21 ((opsP p).map opC) false) :: (g4, o4) :: x :: X) := fun x => lset rfl 5 x
    obtain ⟨tn, tb, ts, tc, tm, ti⟩ := t2
    refine k1 hok _ [σ.length + 5, σ.length + 6 + 1, σ.length + 6 + 0] (σ.length + 5) ((Keep.refl _ _).app _) (fun i hi => ?_) ⟨σ.length + 6 + 1, σ.length + 6 + 0, .nil, .nil, ?_⟩
    · simp only [List.mem_cons, List.not_mem_nil, or_false] at hi
      omega
    · have tl := vGet_lt tb
      have ml := vGet_lt tm
      refine ⟨lget rfl (vGet_of rfl), pk, ad0_ok, ⟨tn, ?_, ts, tc, ?_, ti⟩, rfl, rfl, fun m hm => (by cases hm), fun _ => rfl, by simp, by simp, by simp, fun i hi => ?_⟩
      · have := hget_ne (x := (1, VObj.box (scC ((ses0 p).c (σ.length + 6 + 1) .nil .nil)) false)) (show σ.length + 5 ≠ σ.length + 6 + 1 by omega) tb
        rw [e] at this; exact this
      · have := hget_ne (x := (1, VObj.box (scC ((ses0 p).c (σ.length + 6 + 1) .nil .nil)) false)) (show σ.length + 5 ≠ σ.length + 6 + 0 by omega) tm
        rw [e] at this; exact this
      · simp only [List.length_append, List.length_cons, List.length_nil] at tl ml ⊢
        simp only [List.mem_cons, List.not_mem_nil, or_false] at hi
        omega
theorem tFams {σ : VHeap} {O : List Nat} {b : Nat} {S : Ses} {Post : KP} (h : At σ O b S) (lf : S.fams.length * 16 ≤ 140737488355328) (k : ∀ σ', Stp σ O σ' O → At σ' O b S → Post (.sl (S.fams.map fmC)) σ') : T Tryz.prog 14 [.ptr b 1 0] σ Post := by
  obtain ⟨tm, mid, fv, sv, h⟩ := h
  have box := h.box
  have g := scC_gfv h.okc
  have bl := vGet_lt box
  refine T14 fun hB hA => ?_
  cases fv with
  | nil =>
    have e0 : S.fams = [] := List.map_eq_nil_iff.1 h.fr
    have g : cut (scC (S.c tm .nil sv)) 42 none = some .nils := g
    have hk := k σ (Stp.refl _ _) ⟨_, _, _, _, h⟩
    rw [e0] at hk
    refine W ?_
    refine cu (uCloneF (l := []) (by simp)) ?_
    refine W ?_
    exact hk
  | row id g' =>
    have g : cut (scC (S.c tm (.row id g') sv)) 42 none = some (.row id g') := g
    obtain ⟨hid, fz, hg⟩ := h.fr
    have il := vGet_lt hg
    have hg' := vGet_some (oget (L := [(1, VObj.row 2 [] false)]) hg)
    have hk := k (σ.set id (g', .row 2 (S.fams.map fmC) true)) (.of (l := [id]) ((Keep.refl _ _).set (.inl (by simp))) fun i hi => by rw [List.mem_singleton.1 hi]; exact hid) ⟨_, _, _, _, h.frz hg⟩
    have hn2 : (σ.set id (g', VObj.row 2 (S.fams.map fmC) true)).length = σ.length := List.length_set
    refine W ?_
    refine st_callX (vs := [.row id g']) (ws := [.sl (S.fams.map fmC)]) (σ' := (σ ++ [(1, VObj.row 2 [] false)]).set id (g', .row 2 (S.fams.map fmC) true)) rfl ?_ ?_ ?_
    · show [inl (σ ++ [(1, VObj.row 2 [] false)]) (.row id g')] = _
      simp only [inl, hg', if_true]
    · show frzArgs (σ ++ [(1, VObj.row 2 [] false)]) [.row id g'] = _
      simp only [frzArgs, refsL, refs, List.append_nil, frzIds, List.foldl_cons, List.foldl_nil, frzId, hg', VObj.freeze]
    · rw [oset _ il]
      refine uCloneF lf _ _ ?_
      refine W ?_
      exact hk
end Go.Proofs.YtocnjlfnapefjaaGreatDoor
