/- slices.MinFunc of candidates. -/
import Derived.Test.YtjhmobdncjhcnaaGreatDoorHV
import Derived.Test.YtjhmobdncjhcnaaGreatDoorR27
import Derived.Test.YtjhmobdncjhcnaaGreatDoorR32
import Derived.Test.YtjhmobdncjhcnaaGreatDoorGB
namespace Go.Proofs.YtjhmobdncjhcnaaGreatDoor
open Go Go.V
set_option maxRecDepth 10000
set_option linter.unusedVariables false
attribute [local irreducible] vBuild vCallV
def minF (p : Cd → Cd → Int) : Cd → List Cd → Cd
  | m, [] => m
  | m, x :: r => minF p (if p x m < 0 then x else m) r
theorem minF_snoc (p : Cd → Cd → Int) (c : Cd) : ∀ (l : List Cd) (m : Cd), minF p m (l ++ [c]) = if p c (minF p m l) < 0 then c else minF p m l
  | [], m => rfl
  | x :: r, m => by rw [List.cons_append, minF, minF_snoc p c r, minF]
theorem minF_ok {p : Cd → Cd → Int} : ∀ {l : List Cd} {m : Cd}, okCd m → (∀ x, x ∈ l → okCd x) → okCd (minF p m l)
  | [], m, h, _ => h
  | x :: r, m, h, hl => by
    unfold minF
    refine minF_ok ?_ fun y hy => hl y (List.mem_cons_of_mem _ hy)
    split
    · exact hl x List.mem_cons_self
    · exact h
set_option maxHeartbeats 16000000 in
theorem uMin {c : Cd} {l : List Cd} {p : Cd → Cd → Int} (hc : okCd c) (hl : ∀ x, x ∈ l → okCd x) (hn : l.length ≤ 1000000) (hp : ∀ x y, okCd x → okCd y → U Tryz.prog 71 [.agg (cdC x), .agg (cdC y)] (.int .i64 (p x y))) : U Tryz.prog 70 [.sl ((c :: l).map cdC), .fn 71 []] (.agg (cdC (minF p c l))) := by
  intro σ Post hk
  have hcall : callOk Tryz.prog 71 = true := by kernel_rfl
  have b1 : ((c :: l).map cdC).length = l.length + 1 := by simp
  have b2 : (c :: l).length = l.length + 1 := List.length_cons
  have cs := cdC_sc (x := c)
  have cl := cdC_len hc
  have cc := cdC_all hc
  have d0 := cdC_any hc (cs := [PV.int .i64 0, D.o, D.o, D.o, D.o, D.o, D.o, D.o, D.o, D.o, D.o, D.o, D.o, D.o, D.o, D.o, D.o, D.o, D.o, D.o, D.o, D.o, D.o, D.o, D.o, .int .i64 0, D.o, D.o, D.o, D.o, D.o, D.o, D.o, D.o, .int .i64 0, .str []]) rfl
  have hg : ((c :: l).map cdC)[(0 : Int).toNat]? = some (cdC c) := rfl
  refine T70 fun hB hA => ?_
  refine W ?_
  refine lp (fun j e h => ∃ i : Nat, i + j = l.length ∧ e 6 = .int .i64 ((i : Int) + 1) ∧ h = σ ++ [(1, VObj.box [PV.int .i64 0, D.o, D.o, D.o, D.o, D.o, D.o, D.o, D.o, D.o, D.o, D.o, D.o, D.o, D.o, D.o, D.o, D.o, D.o, D.o, D.o, D.o, D.o, D.o, D.o, .int .i64 0, D.o, D.o, D.o, D.o, D.o, D.o, D.o, D.o, .int .i64 0, .str []] false), (1, .box (cdC (minF p c (l.take i))) false)]) l.length ⟨0, by simp, rfl, rfl⟩ ?_
  rintro j u _ ⟨i, hi, e6, rfl⟩
  have mo : okCd (minF p c (l.take i)) := minF_ok hc fun x hx => hl x (List.mem_of_mem_take hx)
  have ml := cdC_len mo
  have mc := cdC_all mo
  have ms := cdC_sc (x := minF p c (l.take i))
  by_cases h5 : i < l.length
  · obtain ⟨x, hx⟩ : ∃ x, l[i]? = some x := ⟨_, List.getElem?_eq_getElem h5⟩
    have hgx : ((c :: l).map cdC)[((i : Int) + 1).toNat]? = some (cdC x) := by
      rw [show ((i : Int) + 1).toNat = i + 1 by omega, List.map_cons, List.getElem?_cons_succ, List.getElem?_map, hx]; rfl
    have hm := hl x (List.mem_of_getElem? hx)
    have xl := cdC_len hm
    have xc := cdC_all hm
    have xs := cdC_sc (x := x)
    have hst := minF_snoc p x (l.take i) c
    rw [← take_snoc hx] at hst
    have xd := cdC_any hm (cs := cdC (minF p c (l.take i))) ml
    have hpx := hp x (minF p c (l.take i)) hm mo
    generalize minF p c (l.take i) = M at *
    refine W ?_
    refine sv_0 ?_
    refine callC (vs := [.agg (cdC x), .agg (cdC M)]) rfl hcall rfl ?_
    refine hpx _ _ ?_
    refine st_end ⟨trivial, ?_⟩
    by_cases hlt : p x M < 0
    · rw [if_pos hlt] at hst
      refine W ?_
      exact ⟨j - 1, by omega, i + 1, by omega, by show PV.int _ _ = _; congr 1, by rw [hst]⟩
    · rw [if_neg hlt] at hst
      refine W ?_
      exact ⟨j - 1, by omega, i + 1, by omega, by show PV.int _ _ = _; congr 1, by rw [hst]⟩
  · have h9 : l.take i = l := List.take_of_length_le (by omega)
    rw [h9] at mo ml mc ms ⊢
    have fd := cdC_any mo (cs := [PV.int .i64 0, D.o, D.o, D.o, D.o, D.o, D.o, D.o, D.o, D.o, D.o, D.o, D.o, D.o, D.o, D.o, D.o, D.o, D.o, D.o, D.o, D.o, D.o, D.o, D.o, .int .i64 0, D.o, D.o, D.o, D.o, D.o, D.o, D.o, D.o, .int .i64 0, .str []]) rfl
    refine W ?_
    exact hk
end Go.Proofs.YtjhmobdncjhcnaaGreatDoor
/- vrf.Taken. -/
namespace Go.Proofs.YtjhmobdncjhcnaaGreatDoor
open Go Go.V
set_option maxRecDepth 10000
set_option linter.unusedVariables false
attribute [local irreducible] vBuild vCallV
set_option maxHeartbeats 16000000 in
theorem uTaken {v : Vr} {pe : Ad} {l : List Rt} (hv : okVrf v) (hp : okD pe) (h : ∀ r, r ∈ l → okRib r) (ex8 : ∀ r, r ∈ l → ∀ e, e ∈ r.att.ex → e.length = 8) (li : v.imp.length ≤ 1000000) (hn : l.length ≤ 1000000) : U Tryz.prog 119 [.agg (vrC v), .agg (adc pe), .sl (l.map rtC)] (.sl ((l.filter (takeV v pe)).map rtC)) := by
  intro σ Post hk
  have vs := vrC_sc (x := v)
  have vl := vrC_len hv.ok
  have vc := vrC_all hv.ok
  have psc := adc_sc (a := pe)
  have pln := adc_len hp
  have pca := adc_all hp
  have b1 : (l.map rtC).length = l.length := List.length_map _
  refine T119 fun hB hA => ?_
  refine W ?_
  refine lp (fun j e s => ∃ (i g g4 g5 : Nat) (o4 o5 : VObj), i + j = l.length ∧ e 12 = .int .i64 i ∧ e 7 = .row (σ.length + 3) g ∧ s = σ ++ [(1, VObj.box (vrC v) false), (1, .box (adc pe) false), (1, .row 132 [] false), (g, .row 132 (((l.take i).filter (takeV v pe)).map rtC) false), (g4, o4), (g5, o5), (0, .dead)]) l.length ⟨0, 1, 0, 0, .dead, .dead, by simp, rfl, rfl, rfl⟩ ?_
  rintro j u _ ⟨i, g, g4, g5, o4, o5, hi, e12, e7, rfl⟩
  by_cases h5 : i < l.length
  · obtain ⟨x, hx⟩ : ∃ x, l[i]? = some x := ⟨_, List.getElem?_eq_getElem h5⟩
    have hg : (l.map rtC)[(i : Int).toNat]? = some (rtC x) := by rw [Int.toNat_natCast, List.getElem?_map, hx]; rfl
    have hm := List.mem_of_getElem? hx
    have ox := (h x hm).ok
    have xs := rtC_sc (x := x)
    have xl := rtC_len ox
    have xc := rtC_all ox
    have xd := rtC_any ox (cs := [PV.int .i64 0, .int .i64 0, .int .i64 0, D.o, D.o, D.o, D.o, D.o, D.o, D.o, D.o, .int .i64 0, .int .i64 0, D.o, D.o, D.o, D.o, D.o, D.o, D.o, D.o, D.o, D.o, D.o, D.o, D.o, D.o, D.o, D.o, .int .i64 0, D.o, D.o, D.o, D.o, D.o, D.o, D.o, D.o, D.o, D.o, D.o, D.o, D.o, D.o, D.o, D.o, .int .i64 0, D.o, D.o, D.o, D.o, D.o, D.o, D.o, D.o, D.o, D.o, D.o, D.o, D.o, D.o, D.o, D.o, .str [], D.o, D.o, D.o, D.o, D.o, D.o, D.o, D.o, .int .i64 0, D.o, D.o, D.o, D.o, D.o, D.o, D.o, D.o, D.o, D.o, D.o, D.o, D.o, D.o, D.o, D.o, .int .i64 0, .int .i64 0, .int .i64 0, D.o, D.o, D.o, D.o, D.o, D.o, D.o, D.o, D.o, D.o, D.o, D.o, D.o, D.o, D.o, D.o, .int .i64 0, .nils, .int .i64 0, .int .i64 0, .int .i64 0, D.o, D.o, D.o, D.o, D.o, D.o, D.o, D.o, D.o, D.o, D.o, D.o, D.o, D.o, D.o, D.o, .nils, .nils, .nils]) rfl
    have r1 : RowOk 132 [rtC x] := fun e he => by rw [List.mem_singleton.1 he]; exact ⟨xl, xs⟩
    have r2 : RowOk 132 (((l.take i).filter (takeV v pe)).map rtC) := fun e he => by
      obtain ⟨y, hy, rfl⟩ := List.mem_map.1 he
      exact ⟨rtC_len (h y (List.mem_of_mem_take (List.mem_filter.1 hy).1)).ok, rtC_sc⟩
    have b2 : (((l.take i).filter (takeV v pe)).map rtC).length ≤ i := by
      rw [List.length_map]
      exact Nat.le_trans (List.length_filter_le _ _) (by rw [List.length_take]; omega)
    refine W ?_
    refine cu (uTakesV hv hp (h x hm) (ex8 x hm) li) ?_
    cases ht : takeV v pe x with
    | true =>
      have hst : ((l.take (i + 1)).filter (takeV v pe)) = (l.take i).filter (takeV v pe) ++ [x] := by
        rw [take_snoc hx, List.filter_append]; simp [ht]
      refine W ?_
      exact ⟨j - 1, by omega, i + 1, g + 1, g4 + 1, g5 + 1, .box (rtC x) false, .row 132 [rtC x] false, by omega, rfl, rfl, by rw [hst]⟩
    | false =>
      have hst : ((l.take (i + 1)).filter (takeV v pe)) = (l.take i).filter (takeV v pe) := by
        rw [take_snoc hx, List.filter_append]; simp [ht]
      refine W ?_
      exact ⟨j - 1, by omega, i + 1, g, g4 + 1, g5, .box (rtC x) false, o5, by omega, rfl, e7, by rw [hst]⟩
  · have h9 : l.take i = l := List.take_of_length_le (by omega)
    rw [h9]
    refine W ?_
    exact hk
end Go.Proofs.YtjhmobdncjhcnaaGreatDoor
/- community.rest, AS, Importer. -/
namespace Go.Proofs.YtjhmobdncjhcnaaGreatDoor
open Go Go.V
set_option maxRecDepth 10000
set_option linter.unusedVariables false
attribute [local irreducible] vBuild vCallV
open D in
theorem T149e {args : List PV} {σ : VHeap} {Post : KP} (h : vrun Tryz.prog σ.length vb149 (argsEnv args) (σ ++ [dd]) (vend vf149 Post)) (hl : args.length ≤ 5 := by exact Nat.le_of_ble_eq_true rfl) : T Tryz.prog 149 args σ Post := T.walkR Tryz.func149 cf149 hl rfl h
theorem tRest {σ L L' : VHeap} {n k : Nat} {Post : KP} {e : List UInt8} (he : e.length = 8) (hk : Post (.ptr (n + (k + 1)) 1 0) (σ ++ L'))
    (hn : σ.length = n := by exact z_hn) (hL : L.length = k := by exact z_ll) (hL' : L ++ [(1, VObj.box (u8c e) true), (1, VObj.box [.sl (bsl ((e.drop 2).take 6)), .bool false] false)] = L' := by exact z_nl) : T Tryz.prog 149 [.agg (u8c e)] (σ ++ L) Post := by
  subst hn hL hL'
  have ln := u8c_len8 he
  have sc := u8c_sc e
  have c0 := cut_hd0 ln
  refine T149e ?_
  refine W ?_
  refine ct ?_
  refine tOpen (l := (e.drop 2).take 6) (by rw [List.length_take]; omega) ?_
  refine W ?_
  rw [List.length_append, List.append_assoc, Nat.add_assoc]
  exact hk
theorem tTakeOk {σ : VHeap} {Post : KP} {id g : Nat} {l : List UInt8} {z : Nat} (h : vGet σ id g = some (.box [.sl (bsl l), .bool false] false)) (hl : z ≤ l.length ∧ l.length ≤ 1000)
    (hk : Post (.sl (bsl (l.take z))) (σ.set id (g, .box [.sl (bsl (l.drop z)), .bool false] false))) : T Tryz.prog 150 [.ptr id g 0, .int .i64 z] σ Post := by
  refine tTake (by omega) h fun l1 l2 b hb => ?_
  rw [if_neg (by simp; omega), Int.toNat_natCast] at hb
  obtain ⟨rfl, rfl, rfl⟩ := hb
  exact hk
def asF (e : List UInt8) : Int × Bool := if kindE e = 3 then ((big (((e.drop 2).take 6).take 4) 0 : Nat), true) else (0, false)
set_option maxHeartbeats 8000000 in
theorem uAS {e : List UInt8} (he : e.length = 8) : U Tryz.prog 105 [.agg (u8c e)] (.tup [.int .i64 (asF e).1, .bool (asF e).2]) := by
  intro σ Post hk
  have ln := u8c_len8 he
  have sc := u8c_sc e
  have c0 := cut_hd0 ln
  unfold asF at hk
  refine T105 fun hB hA => ?_
  refine W ?_
  refine cu (uKind he) ?_
  by_cases h3 : kindE e = 3
  · rw [if_pos h3] at hk
    refine W ?_
    refine ct ?_
    refine tRest he ?_
    refine W ?_
    refine ct ?_
    refine tNumOk (l := (e.drop 2).take 6) (z := 4) (lget rfl rfl) (by omega) (by omega) (by rw [List.length_take, List.length_drop]; omega) ?_
    rw [lset rfl]
    refine W ?_
    exact hk
  · rw [if_neg h3] at hk
    refine W ?_
    exact hk
theorem adc_any {a : Ad} (h : okD a) {cs : List PV} (hc : cs.length = 17) : splice cs 0 (adc a) = adc a := spl_hd0 (by rw [hc, adc_len h])
def imF (e : List UInt8) : Ad × Int × Bool := if kindE e = 2 then ((ofA (((e.drop 2).take 6).take 4)).1, (big ((((e.drop 2).take 6).drop 4).take 2) 0 : Nat), true) else (ad0, 0, false)
set_option maxHeartbeats 8000000 in
theorem uImporter {e : List UInt8} (he : e.length = 8) : U Tryz.prog 102 [.agg (u8c e)] (.tup [.agg (adc (imF e).1), .int .i64 (imF e).2.1, .bool (imF e).2.2]) := by
  intro σ Post hk
  have ln := u8c_len8 he
  have sc := u8c_sc e
  have c0 := cut_hd0 ln
  have l6 : ((e.drop 2).take 6).length = 6 := by rw [List.length_take, List.length_drop]; omega
  have z0 : splice [PV.int .i64 0, D.o, D.o, D.o, D.o, D.o, D.o, D.o, D.o, D.o, D.o, D.o, D.o, D.o, D.o, D.o, D.o] 0 [PV.int .i64 0, D.o, D.o, D.o, D.o, D.o, D.o, D.o, D.o, D.o, D.o, D.o, D.o, D.o, D.o, D.o, D.o] = adc ad0 := rfl
  have zl := adc_len ad0_ok
  have zc := adc_all ad0_ok
  unfold imF at hk
  refine T102 fun hB hA => ?_
  refine W ?_
  refine cu (uKind he) ?_
  by_cases h3 : kindE e = 2
  · rw [if_pos h3] at hk
    have okA' : okD (ofA (((e.drop 2).take 6).take 4)).1 := ofA_ok _
    have al := adc_len okA'
    have ac := adc_all okA'
    have as2 := adc_sc (a := (ofA (((e.drop 2).take 6).take 4)).1)
    have ad := adc_any okA' (cs := [PV.int .i64 0, D.o, D.o, D.o, D.o, D.o, D.o, D.o, D.o, D.o, D.o, D.o, D.o, D.o, D.o, D.o, D.o]) rfl
    refine W ?_
    refine ct ?_
    refine tRest he ?_
    refine W ?_
    refine ct ?_
    refine tTakeOk (l := (e.drop 2).take 6) (z := 4) (lget rfl rfl) (by omega) ?_
    rw [lset rfl]
    refine W ?_
    refine cu (uOfA (l := ((e.drop 2).take 6).take 4) (by rw [List.length_take]; omega)) ?_
    refine Wo ?_
    refine drJ (fun hh => vGet hh (σ.length + 2) 1 = some (.box (adc (ofA (((e.drop 2).take 6).take 4)).1) false)) [(2, 0), (2, 1), (0, 2), (0, 3), (2, 4), (2, 5)] (by kernel_rfl) (by kernel_rfl) (by exact z_ol) (lget rfl rfl) ?_
    refine Wo ?_
    refine sv_0 ?_
    refine ct ?_
    refine tNumOk (l := ((e.drop 2).take 6).drop 4) (z := 2) (lget rfl rfl) (by omega) (by omega) (by rw [List.length_drop]; omega) ?_
    rw [lset rfl]
    refine st_end ⟨lget rfl rfl, ?_⟩
    refine Wo ?_
    refine sv_0 ?_
    refine est (by exact z_ea) ?_
    refine st_end ⟨lget rfl rfl, ?_⟩
    refine W ?_
    exact hk
  · rw [if_neg h3] at hk
    refine W ?_
    exact hk
/-! A route's name, as cells of the route. -/
section
variable {r : Rt}
theorem rt_gu {o : Nat} {sz : Option Nat} {q : Option PV} (e : cut (urU r.u ++ (adc r.next ++ atC r.att)) o sz = q) (h : okRt r) : cut (rtC r) (64 + o) sz = q :=
  cut_sk (n := 1) (o := 63 + o) rfl (by omega) (cut_sk (n := 1) (o := 62 + o) rfl (by omega) (cut_sk (o := o) (mrc_len h.m) (by omega) e))
theorem rt_grd (h : okRt r) : cut (rtC r) 64 (some 8) = some (.agg (u8c r.u.1.rd)) := by
  refine rt_gu (o := 0) ?_ h
  show cut ((u8c r.u.1.rd ++ (pfx r.u.1.s r.u.1.b r.u.1.k ++ [.int .i64 r.u.2])) ++ _) 0 (some 8) = _
  rw [List.append_assoc]
  exact cut_hd (u8c_len8 h.u.1)
def rtPf (r : Rt) : Pf := ⟨⟨r.u.1.s, r.u.1.b⟩, r.u.1.k⟩
theorem rtPf_ok (h : okRt r) : okPf (rtPf r) := ⟨h.u.2⟩
theorem rt_gpf (h : okRt r) : cut (rtC r) 72 (some 18) = some (.agg (pfC (rtPf r))) := by
  refine rt_gu (o := 8) ?_ h
  show cut ((u8c r.u.1.rd ++ (pfC (rtPf r) ++ [.int .i64 r.u.2])) ++ _) 8 (some 18) = _
  rw [List.append_assoc, List.append_assoc]
  exact cut_sk (o := 0) (u8c_len8 h.u.1) rfl (cut_hd (pfC_len (rtPf_ok h)))
theorem rt_gbits (h : okRt r) : cut (rtC r) 89 none = some (.int .i64 r.u.1.k) := by
  refine rt_gu (o := 25) ?_ h
  show cut ((u8c r.u.1.rd ++ ((adc (rtPf r).a ++ [.int .i64 r.u.1.k]) ++ [.int .i64 r.u.2])) ++ _) 25 none = _
  rw [List.append_assoc, List.append_assoc, List.append_assoc]
  exact cut_sk (o := 17) (u8c_len8 h.u.1) rfl (cut_sk (o := 0) (adc_len (rtPf_ok h).a) rfl rfl)
end
def upStep (s : Us × Bool × Bool) (e : List UInt8) : Us × Bool × Bool :=
  if kindE e = 2 then (if s.2.1 = true then s else ({ s.1 with imp := e, pe := (imF e).1 }, true, s.2.2))
  else if kindE e = 3 then (if s.2.2 = true then s else ({ s.1 with asn := (asF e).1 }, s.2.1, (asF e).2)) else s
def upL (r : Rt) (l : List (List UInt8)) : Us × Bool × Bool := l.foldl upStep (⟨ad0, [0, 0, 0, 0, 0, 0, 0, 0], 0, r.u.1.rd⟩, false, false)
def upF (r : Rt) : Us × Bool := ((upL r r.att.ex).1, (upL r r.att.ex).2.1)
theorem imF_ok (e : List UInt8) : okD (imF e).1 := by
  unfold imF; split
  · exact ofA_ok _
  · exact ad0_ok
theorem upStep_ok {s : Us × Bool × Bool} {e : List UInt8} (hs : okUs s.1) (he : e.length = 8) : okUs (upStep s e).1 := by
  unfold upStep
  split
  · split
    · exact hs
    · exact ⟨imF_ok e, he, hs.rd⟩
  · split
    · split
      · exact hs
      · exact ⟨hs.pe, hs.imp, hs.rd⟩
    · exact hs
theorem upFold_ok : ∀ {l : List (List UInt8)} {s : Us × Bool × Bool}, okUs s.1 → (∀ e, e ∈ l → e.length = 8) → okUs (l.foldl upStep s).1
  | [], _, hs, _ => hs
  | x :: l, s, hs, h => by
    rw [List.foldl_cons]
    exact upFold_ok (upStep_ok hs (h x List.mem_cons_self)) fun e he => h e (List.mem_cons_of_mem _ he)
theorem upL_ok {r : Rt} (h : okRt r) {l : List (List UInt8)} (hl : ∀ e, e ∈ l → e.length = 8) : okUs (upL r l).1 := upFold_ok ⟨ad0_ok, rfl, h.u.1⟩ hl
theorem upL_snoc {r : Rt} {l : List (List UInt8)} {e : List UInt8} : upL r (l ++ [e]) = upStep (upL r l) e := by
  unfold upL; rw [List.foldl_append]; rfl
set_option maxHeartbeats 16000000 in
theorem uUp {r : Rt} (h : okRt r) (ex8 : ∀ e, e ∈ r.att.ex → e.length = 8) (hn : r.att.ex.length ≤ 1000000) : U Tryz.prog 120 [.agg (rtC r)] (.tup [.agg (usC (upF r).1), .bool (upF r).2]) := by
  intro σ Post hk
  have xs := rtC_sc (x := r)
  have xl := rtC_len h
  have xc := rtC_all h
  have g1 := rt_grd h
  have g2 : cut (rtC r) 130 none = some (.sl (r.att.ex.map u8c)) := rt_ga (o := 22) h (atC_gex h.att)
  have rl : (u8c r.u.1.rd).length = 8 := u8c_len8 h.u.1
  have rs := u8c_sc r.u.1.rd
  have z1 : splice [PV.int .i64 0, D.o, D.o, D.o, D.o, D.o, D.o, D.o, D.o, D.o, D.o, D.o, D.o, D.o, D.o, D.o, D.o, D.o, D.o, D.o, D.o, D.o, D.o, D.o, D.o, .int .i64 0, D.o, D.o, D.o, D.o, D.o, D.o, D.o, D.o] 26 (u8c r.u.1.rd) = usC ⟨ad0, [0, 0, 0, 0, 0, 0, 0, 0], 0, r.u.1.rd⟩ := usC_srd (x := us0) ⟨ad0_ok, rfl, rfl⟩ h.u.1
  have b1 : (r.att.ex.map u8c).length = r.att.ex.length := List.length_map _
  have zok : okUs (⟨ad0, [0, 0, 0, 0, 0, 0, 0, 0], 0, r.u.1.rd⟩ : Us) := ⟨ad0_ok, rfl, h.u.1⟩
  refine T120 fun hB hA => ?_
  refine W ?_
  refine lp (fun j e s => ∃ (i g : Nat) (o : VObj), i + j = r.att.ex.length ∧ e 15 = .int .i64 i ∧ e 3 = .bool (upL r (r.att.ex.take i)).2.1 ∧ e 4 = .bool (upL r (r.att.ex.take i)).2.2 ∧ s = σ ++ [(1, VObj.box (rtC r) false), (1, .box (usC (upL r (r.att.ex.take i)).1) false), (g, o)]) r.att.ex.length ⟨0, 0, .dead, by simp, rfl, rfl, rfl, rfl⟩ ?_
  rintro j u _ ⟨i, g, o, hi, e15, e3, e4, rfl⟩
  have hU := upL_ok h (l := r.att.ex.take i) fun e he => ex8 e (List.mem_of_mem_take he)
  by_cases h5 : i < r.att.ex.length
  · obtain ⟨x, hx⟩ : ∃ x, r.att.ex[i]? = some x := ⟨_, List.getElem?_eq_getElem h5⟩
    have hg : (r.att.ex.map u8c)[(i : Int).toNat]? = some (u8c x) := by rw [Int.toNat_natCast, List.getElem?_map, hx]; rfl
    have x8 := ex8 x (List.mem_of_getElem? hx)
    have xl8 := u8c_len8 x8
    have xsc := u8c_sc x
    have xca := cut_hd0 xl8
    have xan := spl_any8 (cs := [D.o, D.o, D.o, D.o, D.o, D.o, D.o, D.o]) xl8
    have hst := upL_snoc (r := r) (l := r.att.ex.take i) (e := x)
    rw [← take_snoc hx] at hst
    generalize upL r (r.att.ex.take i) = S at *
    obtain ⟨S1, S2, S3⟩ := S
    dsimp only at hU ⊢
    replace e3 : _ = PV.bool S2 := e3
    replace e4 : _ = PV.bool S3 := e4
    have ul := usC_len hU
    have us := usC_sc (x := S1)
    have uc := usC_all hU
    refine W ?_
    refine cu (uKind x8) ?_
    unfold upStep at hst
    dsimp only at hst
    by_cases h2 : kindE x = 2
    · rw [if_pos h2] at hst
      cases S2 with
      | true =>
        rw [if_pos rfl] at hst
        refine W ?_
        exact ⟨j - 1, by omega, i + 1, g + 1, .box (u8c x) false, by omega, rfl, by rw [hst]; exact e3, by rw [hst]; exact e4, by rw [hst]⟩
      | false =>
        rw [if_neg (by decide)] at hst
        have hU1 : okUs { S1 with imp := x } := ⟨hU.pe, x8, hU.rd⟩
        have y1 := usC_simp hU (v := x) x8
        have y1l := usC_len hU1
        have y1s := usC_sc (x := { S1 with imp := x })
        have y2 := usC_spe hU1 (v := (imF x).1) (imF_ok x)
        have pl := adc_len (imF_ok x)
        have ps := adc_sc (a := (imF x).1)
        refine W ?_
        refine cu (uImporter x8) ?_
        refine W ?_
        exact ⟨j - 1, by omega, i + 1, g + 1, .box (u8c x) false, by omega, rfl, by rw [hst]; rfl, by rw [hst]; exact e4, by rw [hst]⟩
    · rw [if_neg h2] at hst
      by_cases h3 : kindE x = 3
      · rw [if_pos h3] at hst
        cases S3 with
        | true =>
          rw [if_pos rfl] at hst
          refine W ?_
          exact ⟨j - 1, by omega, i + 1, g + 1, .box (u8c x) false, by omega, rfl, by rw [hst]; exact e3, by rw [hst]; exact e4, by rw [hst]⟩
        | false =>
          rw [if_neg (by decide)] at hst
          have y1 := usC_sasn hU (v := (asF x).1)
          refine W ?_
          refine cu (uAS x8) ?_
          refine W ?_
          exact ⟨j - 1, by omega, i + 1, g + 1, .box (u8c x) false, by omega, rfl, by rw [hst]; exact e3, by rw [hst]; rfl, by rw [hst]⟩
      · rw [if_neg h3] at hst
        refine W ?_
        exact ⟨j - 1, by omega, i + 1, g + 1, .box (u8c x) false, by omega, rfl, by rw [hst]; exact e3, by rw [hst]; exact e4, by rw [hst]⟩
  · have h9 : r.att.ex.take i = r.att.ex := List.take_of_length_le (by omega)
    rw [h9] at e3 e4 hU ⊢
    have ul := usC_len hU
    have us := usC_sc (x := (upL r r.att.ex).1)
    have uc := usC_all hU
    have ua := usC_any hU (cs := usC (upL r r.att.ex).1) ul
    refine W ?_
    exact hk
end Go.Proofs.YtjhmobdncjhcnaaGreatDoor
/- umh.Select's comparison. -/
namespace Go.Proofs.YtjhmobdncjhcnaaGreatDoor
open Go Go.V
set_option maxRecDepth 10000
set_option linter.unusedVariables false
attribute [local irreducible] vBuild vCallV
def selCmp (x y : Cd) : Int := orI [cmpI y.bits x.bits, adrCmp y.up.pe.s y.up.pe.b x.up.pe.s x.up.pe.b, cmpS x.name y.name]
theorem cdC_gpe {x : Cd} (h : okCd x) : cut (cdC x) 0 (some 17) = some (.agg (adc x.up.pe)) := by
  show cut ((adc x.up.pe ++ _) ++ _) 0 (some 17) = _
  rw [List.append_assoc]
  exact cut_hd (adc_len h.up.pe)
theorem uSelCmp {x y : Cd} (hx : okCd x) (hy : okCd y) : U Tryz.prog 71 [.agg (cdC x), .agg (cdC y)] (.int .i64 (selCmp x y)) := by
  intro σ Post hk
  have xs := cdC_sc (x := x)
  have xl := cdC_len hx
  have xb := cdC_gbits hx
  have xn := cdC_gname hx
  have xp := cdC_gpe hx
  have ys := cdC_sc (x := y)
  have yl := cdC_len hy
  have yb := cdC_gbits hy
  have yn := cdC_gname hy
  have yp := cdC_gpe hy
  unfold selCmp at hk
  refine T71 fun hB hA => ?_
  refine Wo ?_
  refine drJ (fun _ => True) [(1, 0), (1, 1), (1, 2), (1, 3), (1, 4), (1, 5), (1, 6), (1, 7), (1, 8), (1, 9), (1, 10), (1, 11), (1, 12), (1, 13), (1, 14), (1, 15), (1, 16), (0, 17), (0, 18), (2, 19)] (by kernel_rfl) (by kernel_rfl) (by exact z_ol) trivial ?_
  refine W ?_
  refine s1 (uCmp (a := y.bits) (b := x.bits)) ?_
  refine W ?_
  refine s1 (uAdrCmp (s := y.up.pe.s) (t := x.up.pe.s) hy.up.pe hx.up.pe) ?_
  refine W ?_
  refine s1 (uCmpS (a := x.name) (b := y.name)) ?_
  refine W ?_
  refine sv_0 ?_
  refine cu (uOr (l := [cmpI y.bits x.bits, adrCmp y.up.pe.s y.up.pe.b x.up.pe.s x.up.pe.b, cmpS x.name y.name]) (by simp)) ?_
  refine st_end ⟨trivial, ?_⟩
  refine W ?_
  exact hk
end Go.Proofs.YtjhmobdncjhcnaaGreatDoor
/- umh.candidates, umh.Select. -/
namespace Go.Proofs.YtjhmobdncjhcnaaGreatDoor
open Go Go.V
set_option maxRecDepth 10000
set_option linter.unusedVariables false
attribute [local irreducible] vBuild vCallV
def routeC (a : Ad) (r : Rt) : List Cd := if r.safi = 128 ∧ hasF (rtPf r) a = true then (if (upF r).2 = true then [⟨(upF r).1, r.u.1.k, nameR r⟩] else []) else []
def candsR (v : Vr) (pe a : Ad) (l : List Rt) : List Cd := (l.filter (takeV v pe)).flatMap (routeC a)
theorem routeC_len (a : Ad) (r : Rt) : (routeC a r).length ≤ 1 := by
  unfold routeC; split <;> (try split) <;> simp
theorem flatC_len (a : Ad) : ∀ l : List Rt, (l.flatMap (routeC a)).length ≤ l.length
  | [] => by simp
  | x :: l => by
    rw [List.flatMap_cons, List.length_append, List.length_cons]
    have := routeC_len a x; have := flatC_len a l; omega
structure okCRt (r : Rt) : Prop where
  rib : okRib r
  ex8 : ∀ e, e ∈ r.att.ex → e.length = 8
  exl : r.att.ex.length ≤ 1000000
theorem routeC_ok {a : Ad} {r : Rt} (h : okCRt r) : ∀ c, c ∈ routeC a r → okCd c := by
  unfold routeC; intro c hc
  split at hc
  · split at hc
    · rw [List.mem_singleton.1 hc]; exact ⟨upL_ok h.rib.ok h.ex8⟩
    · simp at hc
  · simp at hc
theorem flatC_ok {a : Ad} {l : List Rt} (h : ∀ r, r ∈ l → okCRt r) : ∀ c, c ∈ l.flatMap (routeC a) → okCd c := by
  intro c hc
  obtain ⟨r, hr, hc⟩ := List.mem_flatMap.1 hc
  exact routeC_ok (h r hr) c hc
def candsG (v : Vr) (s : Si) (a : Ad) : List Cd := candsF v s a ++ candsR v s.pe a s.lrn
open D in
def vb69_4 : VC :=
  .seq (.seq (.region [m 43 (.load (some 30) (t 3)), m 44 (.field 0 (t 4)), m 45 (.load (some 17) (t 44)), m 46 (.field 22 (t 4)), m 47 (.load none (t 46)), m 48 (.call false 119 [(t 43), (t 45), (t 47)]), m 49 (.len (t 48)), m 50 (.mov (.c q))]) <|
  .block 0 <| .loop <| .seq (.region [m 51 (.bin .lss .num (t 50) (t 49))]) <|
  .seq (.cond (t 51) (.skip) (.exit 0)) <|
  .seq (.block 1 <| .seq (.region [m 52 (.index 132 (t 48) (t 50)), m 53 (.load (some 132) (t 52)), m 13 (.alloc 9 [q, q, q, o, o, o, o, o, o, o, o, q, q, o, o, o, o, o, o, o, o, o, o, o, o, o, o, o, o, q, o, o, o, o, o, o, o, o, o, o, o, o, o, o, o, o, q, o, o, o, o, o, o, o, o, o, o, o, o, o, o, o, o, (.str []), o, o, o, o, o, o, o, o, q, o, o, o, o, o, o, o, o, o, o, o, o, o, o, o, o, q, q, q, o, o, o, o, o, o, o, o, o, o, o, o, o, o, o, o, q, .nils, q, q, q, o, o, o, o, o, o, o, o, o, o, o, o, o, o, o, o, .nils, .nils, .nils]), e (.store 132 (t 13) (t 53))]) <|
  .seq (.seq (.region [m 54 (.field 1 (t 13)), m 55 (.load none (t 54)), m 56 (.bin .neq .num (t 55) (.c (i 128))), m 57 (.mov (t 56)), g 58 57 false (.field 64 (t 13)), g 59 57 false (.field 8 (t 58)), g 60 57 false (.load (some 18) (t 59)), g 61 57 false (.load (some 17) (t 5)), g 62 57 false (.call false 76 [(t 60), (t 61)]), g 63 57 false (.un .not (t 62)), m 64 (.pick (t 57) (.c (.bool true)) (t 63))]) <|
  .cond (t 64) (.exit 1) (.skip)) <|
  .seq (.region [m 66 (.load (some 132) (t 13)), m 67 (.call false 120 [(t 66)]), m 65 (.mov (t 67)), m 68 (.extract 0 (t 65)), m 69 (.extract 1 (t 65)), m 14 (.alloc 10 [q, o, o, o, o, o, o, o, o, o, o, o, o, o, o, o, o, o, o, o, o, o, o, o, o, q, o, o, o, o, o, o, o, o]), e (.store 34 (t 14) (t 68)), m 15 (.mov (t 69))]) <|
  .seq (.region [m 70 (.mov (t 15))]) <|
  .cond (t 70) (.seq (.region [m 72 (.load (some 132) (t 13)), m 73 (.call false 15 [(t 72)]), m 71 (.mov (t 73)), m 74 (.extract 0 (t 71)), m 75 (.extract 1 (t 71)), m 16 (.mov (t 74)), m 17 (.mov (t 75))]) <|
  .region [m 76 (.mov (t 7)), m 77 (.load (some 34) (t 14)), m 78 (.field 64 (t 13)), m 79 (.field 8 (t 78)), m 80 (.field 17 (t 79)), m 81 (.load none (t 80)), m 82 (.mov (t 16)), m 83 (.build [q, o, o, o, o, o, o, o, o, o, o, o, o, o, o, o, o, o, o, o, o, o, o, o, o, q, o, o, o, o, o, o, o, o, q, (.str [])] [(0, 34, (t 77)), (34, 1, (t 81)), (35, 1, (t 82))]), m 84 (.buildSlice 11 36 1 [q, o, o, o, o, o, o, o, o, o, o, o, o, o, o, o, o, o, o, o, o, o, o, o, o, q, o, o, o, o, o, o, o, o, q, (.str [])] [(0, (t 83))]), m 85 (.append 12 36 72 (t 76) (t 84)), m 7 (.mov (t 85))]) (.skip)) <|
  .region [m 86 (.bin .add .num (t 50) (.c (i 1))), m 50 (.mov (t 86))]) <|
  .seq (.region [m 87 (.mov (t 7)), m 6 (.mov (t 87))]) <|
  .ret
open D in
theorem vb69_eq : vb69 =
  (.seq (.region [m 3 (.box 0 (t 0)), m 4 (.box 1 (t 1)), m 5 (.box 2 (t 2)), m 6 (.newRow 3 36)]) <|
  .seq (.region [m 7 (.newRow 4 36)]) <|
  .seq (.region [m 19 (.load (some 30) (t 3)), m 20 (.load (some 23) (t 4)), m 21 (.call false 28 [(t 19), (t 20)]), m 18 (.mov (t 21)), m 22 (.extract 0 (t 18)), m 23 (.extract 1 (t 18)), m 8 (.alloc 5 [q, o, o, o, o, o, o, o, o, o, o, o, o, o, o, o, o, o, o, o, o, o, o, o, o, q, o, o, o, o, o, o, o, o]), e (.store 34 (t 8) (t 22)), m 9 (.mov (t 23))]) <|
  .seq (.seq (.region [m 25 (.load (some 30) (t 3)), m 26 (.load (some 23) (t 4)), m 27 (.load (some 17) (t 5)), m 28 (.call false 27 [(t 25), (t 26), (t 27)]), m 24 (.mov (t 28)), m 29 (.extract 0 (t 24)), m 30 (.extract 1 (t 24)), m 10 (.alloc 6 [q, o, o, o, o, o, o, o, o, o, o, o, o, o, o, o, o, q]), e (.store 18 (t 10) (t 29)), m 11 (.mov (t 30))]) <|
  .seq (.region [m 31 (.mov (t 11)), m 32 (.mov (t 31)), g 33 32 true (.mov (t 9)), g 34 32 true (.bin .eql .num (t 33) (.c q)), m 35 (.pick (t 32) (t 34) (.c (.bool false)))]) <|
  .cond (t 35) (.region [m 36 (.mov (t 7)), m 37 (.load (some 34) (t 8)), m 38 (.field 17 (t 10)), m 39 (.load none (t 38)), m 40 (.build [q, o, o, o, o, o, o, o, o, o, o, o, o, o, o, o, o, o, o, o, o, o, o, o, o, q, o, o, o, o, o, o, o, o, q, (.str [])] [(0, 34, (t 37)), (34, 1, (t 39)), (35, 1, (.c (.str [])))]), m 41 (.buildSlice 7 36 1 [q, o, o, o, o, o, o, o, o, o, o, o, o, o, o, o, o, o, o, o, o, o, o, o, o, q, o, o, o, o, o, o, o, o, q, (.str [])] [(0, (t 40))]), m 42 (.append 8 36 72 (t 36) (t 41)), m 7 (.mov (t 42))]) (.skip)) <|
  vb69_4) := rfl
set_option maxHeartbeats 32000000 in
theorem tLoop69 {v : Vr} {s : Si} {a : Ad} {σ : VHeap} {Post : KP} {l0 : List Cd} {ou : Us} {bp : Pf} {g0 g7 : Nat} {o7 : VObj} {E : Env} (hv : okVrf v) (hs : okSi s) (ha : okD a) (hB : belH σ.length σ) (h : ∀ r, r ∈ s.lrn → okCRt r) (li : v.imp.length ≤ 1000000) (hn : s.lrn.length ≤ 1000000)
    (h0 : l0.length ≤ 1) (h0c : ∀ c, c ∈ l0 → okCd c) (e3 : E 3 = .ptr (σ.length + 0) 1 0) (e4 : E 4 = .ptr (σ.length + 1) 1 0) (e5 : E 5 = .ptr (σ.length + 2) 1 0) (e7 : E 7 = .row (σ.length + 4) g0)
    (hk : Post (.sl ((l0 ++ candsR v s.pe a s.lrn).map cdC)) σ) :
    vrun Tryz.prog σ.length vb69_4 E (σ ++ [(1, VObj.box (vrC v) false), (1, .box (siC s) false), (1, .box (adc a) false), (1, .row 36 [] false), (g0, .row 36 (l0.map cdC) false), (1, .box (usC ou) false), (1, .box (pfC bp) false), (g7, o7), (0, .dead), (0, .dead), (0, .dead), (0, .dead), (0, .dead)]) (vend vf69 (TrimP σ.length Post)) := by
  have vs := vrC_sc (x := v)
  have vl := vrC_len hv.ok
  have vc := vrC_all hv.ok
  have ss := siC_sc (x := s)
  have sl := siC_len hs
  have sa := siC_all hs
  have sg1 := siC_gpe hs
  have sg4 := siC_glrn hs
  have sc := adc_sc (a := a)
  have ln := adc_len ha
  have c0 := adc_all ha
  unfold vb69_4
  refine W ?_
  refine cu (uTaken (l := s.lrn) hv hs.pe (fun r hr => (h r hr).rib) (fun r hr => (h r hr).ex8) li hn) ?_
  unfold candsR at hk
  have hL : ∀ r, r ∈ s.lrn.filter (takeV v s.pe) → okCRt r := fun r hr => h r (List.mem_filter.1 hr).1
  have hLn : (s.lrn.filter (takeV v s.pe)).length ≤ 1000000 := Nat.le_trans (List.length_filter_le _ _) hn
  generalize s.lrn.filter (takeV v s.pe) = L at *
  have b1 : (L.map rtC).length = L.length := List.length_map _
  refine W ?_
  refine lp (fun j e s' => ∃ (i g g9 g10 g11 : Nat) (o9 o10 o11 : VObj), i + j = L.length ∧ e 50 = .int .i64 i ∧ e 7 = .row (σ.length + 4) g ∧ s' = σ ++ [(1, VObj.box (vrC v) false), (1, .box (siC s) false), (1, .box (adc a) false), (1, .row 36 [] false), (g, .row 36 ((l0 ++ (L.take i).flatMap (routeC a)).map cdC) false), (1, .box (usC ou) false), (1, .box (pfC bp) false), (g7, o7), (0, .dead), (g9, o9), (g10, o10), (g11, o11), (0, .dead)]) L.length ⟨0, g0, 0, 0, 0, .dead, .dead, .dead, by simp, rfl, e7, by simp⟩ ?_
  rintro j u _ ⟨i, g, g9, g10, g11, o9, o10, o11, hi, e50, e7', rfl⟩
  by_cases h5 : i < L.length
  · obtain ⟨x, hx⟩ : ∃ x, L[i]? = some x := ⟨_, List.getElem?_eq_getElem h5⟩
    have hg : (L.map rtC)[(i : Int).toNat]? = some (rtC x) := by rw [Int.toNat_natCast, List.getElem?_map, hx]; rfl
    have hm := hL x (List.mem_of_getElem? hx)
    have ox := hm.rib.ok
    have xs := rtC_sc (x := x)
    have xl := rtC_len ox
    have xc := rtC_all ox
    have x1 := rtC_gsafi ox
    have x2 := rt_gpf ox
    have x3 := rt_gbits ox
    have xd := rtC_any ox (cs := [PV.int .i64 0, .int .i64 0, .int .i64 0, D.o, D.o, D.o, D.o, D.o, D.o, D.o, D.o, .int .i64 0, .int .i64 0, D.o, D.o, D.o, D.o, D.o, D.o, D.o, D.o, D.o, D.o, D.o, D.o, D.o, D.o, D.o, D.o, .int .i64 0, D.o, D.o, D.o, D.o, D.o, D.o, D.o, D.o, D.o, D.o, D.o, D.o, D.o, D.o, D.o, D.o, .int .i64 0, D.o, D.o, D.o, D.o, D.o, D.o, D.o, D.o, D.o, D.o, D.o, D.o, D.o, D.o, D.o, D.o, .str [], D.o, D.o, D.o, D.o, D.o, D.o, D.o, D.o, .int .i64 0, D.o, D.o, D.o, D.o, D.o, D.o, D.o, D.o, D.o, D.o, D.o, D.o, D.o, D.o, D.o, D.o, .int .i64 0, .int .i64 0, .int .i64 0, D.o, D.o, D.o, D.o, D.o, D.o, D.o, D.o, D.o, D.o, D.o, D.o, D.o, D.o, D.o, D.o, .int .i64 0, .nils, .int .i64 0, .int .i64 0, .int .i64 0, D.o, D.o, D.o, D.o, D.o, D.o, D.o, D.o, D.o, D.o, D.o, D.o, D.o, D.o, D.o, D.o, .nils, .nils, .nils]) rfl
    have hst : l0 ++ (L.take (i + 1)).flatMap (routeC a) = (l0 ++ (L.take i).flatMap (routeC a)) ++ routeC a x := by
      rw [take_snoc hx, List.flatMap_append, List.append_assoc]; simp
    have hacc : ∀ c, c ∈ l0 ++ (L.take i).flatMap (routeC a) → okCd c := fun c hc => by
      rcases List.mem_append.1 hc with hc | hc
      · exact h0c c hc
      · exact flatC_ok (fun r hr => hL r (List.mem_of_mem_take hr)) c hc
    have hal : (l0 ++ (L.take i).flatMap (routeC a)).length ≤ i + 1 := by
      rw [List.length_append]
      have := flatC_len a (L.take i)
      rw [List.length_take] at this
      omega
    generalize l0 ++ (L.take i).flatMap (routeC a) = A at *
    have b2 : (A.map cdC).length = A.length := List.length_map _
    have r2 : RowOk 36 (A.map cdC) := fun e he => by
      obtain ⟨y, hy, rfl⟩ := List.mem_map.1 he
      exact ⟨cdC_len (hacc y hy), cdC_sc⟩
    rw [show routeC a x = (if x.safi = 128 ∧ hasF (rtPf x) a = true then (if (upF x).2 = true then [⟨(upF x).1, x.u.1.k, nameR x⟩] else []) else []) from rfl] at hst
    by_cases hs1 : x.safi = 128
    · cases hh : hasF (rtPf x) a with
      | true =>
        rw [if_pos ⟨hs1, hh⟩] at hst
        have hU : okUs (upF x).1 := upL_ok ox hm.ex8
        have ul := usC_len hU
        have us := usC_sc (x := (upF x).1)
        have uc := usC_all hU
        have ua := usC_any hU (cs := [PV.int .i64 0, D.o, D.o, D.o, D.o, D.o, D.o, D.o, D.o, D.o, D.o, D.o, D.o, D.o, D.o, D.o, D.o, D.o, D.o, D.o, D.o, D.o, D.o, D.o, D.o, .int .i64 0, D.o, D.o, D.o, D.o, D.o, D.o, D.o, D.o]) rfl
        have uh := uHas (rtPf_ok ox) ha
        rw [hh] at uh
        refine W ?_
        refine cu uh ?_
        refine W ?_
        refine cu (uUp ox hm.ex8 hm.exl) ?_
        generalize upF x = UU at *
        obtain ⟨U1, U2⟩ := UU
        dsimp only at *
        cases U2 with
        | true =>
          rw [if_pos rfl] at hst
          obtain ⟨f1, f2, f3⟩ := cd_fill (u := U1) (b := x.u.1.k) (n := nameR x) hU
          have hc : okCd ⟨U1, x.u.1.k, nameR x⟩ := ⟨hU⟩
          have cs := cdC_sc (x := ⟨U1, x.u.1.k, nameR x⟩)
          have cl := cdC_len hc
          have cc := cdC_all hc
          have rk : RowOk 36 [cdC ⟨U1, x.u.1.k, nameR x⟩] := fun e he => by rw [List.mem_singleton.1 he]; exact ⟨cl, cs⟩
          refine W ?_
          refine cu (uName15 hm.rib) ?_
          refine W ?_
          exact ⟨j - 1, by omega, i + 1, g + 1, g9 + 1, g10 + 1, g11 + 1, .box (rtC x) false, .box (usC U1) false, .row 36 [cdC ⟨U1, x.u.1.k, nameR x⟩] false, by omega, rfl, rfl, by rw [hst, List.map_append]⟩
        | false =>
          rw [if_neg (by decide)] at hst
          refine W ?_
          exact ⟨j - 1, by omega, i + 1, g, g9 + 1, g10 + 1, g11, .box (rtC x) false, .box (usC U1) false, o11, by omega, rfl, e7', by rw [hst, List.append_nil]⟩
      | false =>
        rw [if_neg (by simp [hh]), List.append_nil] at hst
        have uh := uHas (rtPf_ok ox) ha
        rw [hh] at uh
        refine W ?_
        refine cu uh ?_
        refine W ?_
        exact ⟨j - 1, by omega, i + 1, g, g9 + 1, g10, g11, .box (rtC x) false, o10, o11, by omega, rfl, e7', by rw [hst]⟩
    · rw [if_neg (by simp [hs1]), List.append_nil] at hst
      refine W ?_
      exact ⟨j - 1, by omega, i + 1, g, g9 + 1, g10, g11, .box (rtC x) false, o10, o11, by omega, rfl, e7', by rw [hst]⟩
  · have h9 : L.take i = L := List.take_of_length_le (by omega)
    rw [h9]
    refine W ?_
    exact hk
theorem candsF_len {v : Vr} {s : Si} {a : Ad} : (candsF v s a).length ≤ 1 := by
  unfold candsF; split <;> simp
theorem candsF_ok {v : Vr} {s : Si} {a : Ad} (hv : okVr v) (hs : okSi s) : ∀ c, c ∈ candsF v s a → okCd c := by
  unfold candsF; intro c hc
  split at hc
  · rw [List.mem_singleton.1 hc]; exact ⟨ownF_ok hv hs⟩
  · simp at hc
theorem candsG_ok {v : Vr} {s : Si} {a : Ad} (hv : okVr v) (hs : okSi s) (h : ∀ r, r ∈ s.lrn → okCRt r) : ∀ c, c ∈ candsG v s a → okCd c := by
  intro c hc
  unfold candsG at hc
  rcases List.mem_append.1 hc with hc | hc
  · exact candsF_ok hv hs c hc
  · exact flatC_ok (fun r hr => h r (List.mem_filter.1 hr).1) c hc
theorem candsG_len {v : Vr} {s : Si} {a : Ad} : (candsG v s a).length ≤ s.lrn.length + 1 := by
  unfold candsG candsR
  rw [List.length_append]
  have h1 := candsF_len (v := v) (s := s) (a := a)
  have h2 := flatC_len a (s.lrn.filter (takeV v s.pe))
  have h3 := List.length_filter_le (takeV v s.pe) s.lrn
  omega
set_option maxHeartbeats 32000000 in
theorem uCands {v : Vr} {s : Si} {a : Ad} (hv : okVrf v) (hs : okSi s) (ha : okD a) (hl : ∀ x, x ∈ s.locs → okLc x) (hn : s.locs.length ≤ 1000000) (h : ∀ r, r ∈ s.lrn → okCRt r) (li : v.imp.length ≤ 1000000) (hn2 : s.lrn.length ≤ 1000000) : U Tryz.prog 69 [.agg (vrC v), .agg (siC s), .agg (adc a)] (.sl ((candsG v s a).map cdC)) := by
  intro σ Post hk
  have vs := vrC_sc (x := v)
  have vl := vrC_len hv.ok
  have vc := vrC_all hv.ok
  have vg1 := vrC_gname hv.ok
  have ss := siC_sc (x := s)
  have sl := siC_len hs
  have sa := siC_all hs
  have sg1 := siC_gpe hs
  have sg2 := siC_gasn hs
  have sg0 := siC_gvrfs hs
  have sg3 := siC_glocs hs
  have sg4 := siC_glrn hs
  have sg5 := siC_gacts hs
  have sg6 := siC_gjoins hs
  have sc := adc_sc (a := a)
  have ln := adc_len ha
  have c0 := adc_all ha
  have ho := ownF_ok hv.ok hs
  have hh := hereF_ok (v := v) (a := a) hl
  have ol := usC_len ho
  have oc := usC_all ho
  have osc := usC_sc (x := (ownF v s).1)
  have od := usC_any ho (cs := [PV.int .i64 0, D.o, D.o, D.o, D.o, D.o, D.o, D.o, D.o, D.o, D.o, D.o, D.o, D.o, D.o, D.o, D.o, D.o, D.o, D.o, D.o, D.o, D.o, D.o, D.o, .int .i64 0, D.o, D.o, D.o, D.o, D.o, D.o, D.o, D.o]) rfl
  have hll := pfC_len hh
  have hlc := pfC_all hh
  have hls := pfC_sc (x := (hereF v s a).1)
  have hlb := pfC_gbits hh
  have hld := pfC_any hh (cs := [PV.int .i64 0, D.o, D.o, D.o, D.o, D.o, D.o, D.o, D.o, D.o, D.o, D.o, D.o, D.o, D.o, D.o, D.o, .int .i64 0]) rfl
  have fl := candsF_len (v := v) (s := s) (a := a)
  have fo := candsF_ok (a := a) hv.ok hs
  unfold candsG at hk
  refine T69 fun hB hA => ?_
  rw [vb69_eq]
  refine W ?_
  refine cu (uOwn hv.ok hs) ?_
  refine W ?_
  refine cu (uHere hv.ok hs ha hl hn) ?_
  have hf : candsF v s a = if (hereF v s a).2 = true ∧ (ownF v s).2 = 0 then [⟨(ownF v s).1, (hereF v s a).1.bits, []⟩] else [] := rfl
  generalize candsF v s a = l0 at *
  generalize hereF v s a = B at *
  generalize ownF v s = O at *
  obtain ⟨bp, bi⟩ := B
  obtain ⟨ou, oe⟩ := O
  dsimp only at *
  by_cases h1 : bi = true
  · subst h1
    by_cases h2 : oe = 0
    · rw [if_pos ⟨rfl, h2⟩] at hf
      obtain ⟨f1, f2, f3⟩ := cd_fill (u := ou) (b := bp.bits) (n := []) ho
      have hc : okCd ⟨ou, bp.bits, []⟩ := ⟨ho⟩
      have cs := cdC_sc (x := ⟨ou, bp.bits, []⟩)
      have cl := cdC_len hc
      have cc := cdC_all hc
      have ip : PlL (cdC ⟨ou, bp.bits, []⟩) := inferInstance
      have ic : ClL (cdC ⟨ou, bp.bits, []⟩) := inferInstance
      have e9 : l0.map cdC = [cdC ⟨ou, bp.bits, []⟩] := by rw [hf]; rfl
      generalize hC : cdC ⟨ou, bp.bits, []⟩ = C at *
      have rk : RowOk 36 [C] := fun e he => by rw [List.mem_singleton.1 he]; exact ⟨cl, cs⟩
      refine W ?_
      rw [← e9]
      exact tLoop69 hv hs ha hB h li hn2 fl fo rfl rfl rfl rfl hk
    · rw [if_neg (by simp [h2])] at hf
      subst hf
      refine W ?_
      exact tLoop69 (l0 := []) hv hs ha hB h li hn2 fl fo rfl rfl rfl rfl hk
  · have h1 : bi = false := by simpa using h1
    subst h1
    rw [if_neg (by simp)] at hf
    subst hf
    refine W ?_
    exact tLoop69 (l0 := []) hv hs ha hB h li hn2 fl fo rfl rfl rfl rfl hk
end Go.Proofs.YtjhmobdncjhcnaaGreatDoor
