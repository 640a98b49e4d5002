/- The seat's frame: the tables that the rows list; a peer, rows of events as arguments. -/
import Derived.Test.YtocnjlfnapefjaaGreatDoorRows
import Derived.Test.YtocnjlfnapefjaaGreatDoorVZ
import Derived.Stop.LaidErr
import Derived.Test.YtocnjlfnapefjaaGreatDoorED
import Derived.Test.YtocnjlfnapefjaaGreatDoorT12
namespace Go.Proofs.YtocnjlfnapefjaaGreatDoor
open Go Go.V
set_option maxRecDepth 100000
set_option linter.unusedVariables false
def laidL : List (String × DataW Unit) := [("math/bits.deBruijn32tab", Rows.laid_math_bits_deBruijn32tab), ("math/bits.deBruijn64tab", Rows.laid_math_bits_deBruijn64tab), ("internal/strconv.uint64pow10", Rows.laid_internal_strconv_uint64pow10), ("unicode/utf8.acceptRanges", Rows.laid_unicode_utf8_acceptRanges), ("unicode/utf8.first", Rows.laid_unicode_utf8_first)]
theorem glo {W : World} (hL : laidMetH Tryz.prog laidL W) (β : Beta) : GloRep W [] β := fun g cells h => by cases h
theorem fits_1 {x : Sh} {s : List Sh} {cs : List PV} (h : FitsL ([x] ++ s) cs) : ∃ c r, cs = c :: r ∧ Fits x c ∧ FitsL s r := fits_one h
theorem fits_list {α : Type} {c : α → List PV} {ok : α → Prop} {s : List Sh} (h : ∀ e, FitsL s e → ∃ x, e = c x ∧ ok x) : ∀ {es : List (List PV)}, (∀ e, e ∈ es → FitsL s e) → ∃ l : List α, es = l.map c ∧ ∀ x, x ∈ l → ok x
  | [], _ => ⟨[], rfl, fun x hx => by cases hx⟩
  | e :: es, hf => by
    obtain ⟨x, rfl, hx⟩ := h e (hf e (by simp))
    obtain ⟨l, rfl, hl⟩ := fits_list h (es := es) fun e he => hf e (by simp [he])
    refine ⟨x :: l, rfl, fun y hy => ?_⟩
    rcases List.mem_cons.1 hy with rfl | hy
    · exact hx
    · exact hl y hy
def shA : List Sh := .int .i64 :: List.replicate 16 (.int .u8)
theorem fits_A {cs : List PV} (h : FitsL shA cs) : ∃ a, cs = adc a ∧ okD a := by
  obtain ⟨c, r, rfl, h3, h4⟩ := fits_one h
  obtain ⟨b, hb, rfl⟩ := fits_bytes 16 h4
  cases h3 with
  | int _ s ws => exact ⟨⟨s, b⟩, by simp [adc, adr, u8c], hb⟩
/-- What came in is plain. -/
theorem fits_pl {s : Sh} {c : PV} (h : Fits s c) : scalar c = true ∧ Pl c ∧ Cl c := by
  induction h with
  | bool b => exact ⟨rfl, inferInstance, inferInstance⟩
  | int k n _ => exact ⟨rfl, inferInstance, inferInstance⟩
  | str s _ => exact ⟨rfl, inferInstance, inferInstance⟩
  | sl l es _ h1 h2 ih =>
    refine ⟨rfl, inferInstance, ?_⟩
    have : ClLL es := ⟨fun n => by
      have : ∀ (es' : List (List PV)), (∀ e, e ∈ es' → e ∈ es) → belLL n es' := by
        intro es'
        induction es' with
        | nil => intro _; trivial
        | cons e r ihr =>
          intro hm
          refine ⟨?_, ihr fun x hx => hm x (List.mem_cons_of_mem _ hx)⟩
          have he := hm e List.mem_cons_self
          have : ClL e := clL_iff fun x hx => by
            obtain ⟨i, hi⟩ := List.getElem?_of_mem hx
            have hlt := (List.getElem?_eq_some_iff.1 hi).1
            rw [h1 e he] at hlt
            exact (ih e i _ x he (List.getElem?_eq_getElem hlt) hi).2.2
          exact this.cl n
      exact this es fun _ h => h⟩
    infer_instance
theorem fitsL_pl {s : List Sh} {cs : List PV} (h : FitsL s cs) : cs.all scalar = true ∧ PlL cs ∧ ClL cs := by
  have h1 : ∀ x, x ∈ cs → scalar x = true ∧ Pl x ∧ Cl x := fun x hx => by
    obtain ⟨i, hi⟩ := List.getElem?_of_mem hx
    have hlt := (List.getElem?_eq_some_iff.1 hi).1
    rw [h.1] at hlt
    exact fits_pl (h.2 i _ x (List.getElem?_eq_getElem hlt) hi)
  exact ⟨List.all_eq_true.2 fun x hx => (h1 x hx).1, plL_iff fun x hx => (h1 x hx).2.1, clL_iff fun x hx => (h1 x hx).2.2⟩
theorem fits_Cs {s : List Sh} {cs : List PV} (h : FitsL s cs) (hs : s.length = 26) : ∃ x : Cs, cs = csC x ∧ okCs x := by
  obtain ⟨a, b, c⟩ := fitsL_pl h
  exact ⟨⟨cs, a, b, c⟩, rfl, by show cs.length = 26; rw [h.1, hs]⟩
def shFm : List Sh := [.int .i64, .int .i64]
def Fm64 (x : Fm) : Prop := True
theorem fits_Fm {cs : List PV} (h : FitsL shFm cs) : ∃ x : Fm, cs = fmC x ∧ okFm x := by
  obtain ⟨c, r, rfl, h1, h2⟩ := fits_one h
  obtain ⟨d, r, rfl, h3, h4⟩ := fits_one h2
  obtain rfl := fits_nil h4
  cases h1 with
  | int _ a _ => cases h3 with
    | int _ b _ => exact ⟨⟨a, b⟩, rfl, ⟨trivial⟩⟩
theorem fits_Fms {c : PV} (h : Fits (.sl shFm) c) : ∃ l : List Fm, c = .sl (l.map fmC) := by
  obtain ⟨es, rfl, _, hes⟩ := fits_sl h
  obtain ⟨l, rfl, _⟩ := fits_list (c := fmC) (ok := okFm) (fun e he => fits_Fm he) hes
  exact ⟨l, rfl⟩
theorem fits_bs {c : PV} (h : Fits (.sl [.int .u8]) c) : ∃ l : List UInt8, c = .sl (bsl l) := by
  obtain ⟨es, rfl, _, hes⟩ := fits_sl h
  obtain ⟨l, rfl⟩ := fits_rows hes
  exact ⟨l, rfl⟩
theorem fits_i64 {c : PV} (h : Fits (.int .i64) c) : ∃ n : Int, c = .int .i64 n ∧ -9223372036854775808 ≤ n ∧ n ≤ 9223372036854775807 := by
  cases h with
  | int _ n hn =>
    have h : decide (-9223372036854775808 ≤ n ∧ n ≤ 9223372036854775807) = true := by
      simp [Lit.wf, IntKind.min, IntKind.max, IntKind.signed, IntKind.bits] at hn
      exact decide_eq_true hn
    exact ⟨n, rfl, of_decide_eq_true h⟩
theorem fits_Pr {cs : List PV} (h : FitsL ([.int .i64] ++ (shA ++ ([.int .i64] ++ ([.int .i64] ++ [.sl shFm])))) cs) : ∃ p : Pr, cs = prC p ∧ okPr p := by
  obtain ⟨c, r, rfl, h1, h2⟩ := fits_1 h
  obtain ⟨p, q, rfl, h3, h4⟩ := fits_split h2
  obtain ⟨a, rfl, ha⟩ := fits_A h3
  obtain ⟨d, r, rfl, h5, h6⟩ := fits_1 h4
  obtain ⟨e, r, rfl, h7, h8⟩ := fits_1 h6
  obtain ⟨f, r, rfl, h9, hA⟩ := fits_one h8
  obtain rfl := fits_nil hA
  obtain ⟨n1, rfl, _⟩ := fits_i64 h1
  obtain ⟨n2, rfl, _⟩ := fits_i64 h5
  obtain ⟨n3, rfl, _⟩ := fits_i64 h7
  obtain ⟨l, rfl⟩ := fits_Fms h9
  exact ⟨⟨n1, a, n2, n3, l⟩, by simp [prC], ⟨ha⟩⟩
def shOp : List Sh := [.int .i64] ++ ([.int .i64] ++ (shA ++ ([.sl shFm] ++ [.bool])))
theorem fits_Op {cs : List PV} (h : FitsL shOp cs) : ∃ o : Opn, cs = opC o ∧ okOp o ∧ -9223372036854775808 ≤ o.hold ∧ o.hold ≤ 9223372036854775807 := by
  obtain ⟨c, r, rfl, h1, h2⟩ := fits_1 h
  obtain ⟨d, r, rfl, h5, h6⟩ := fits_1 h2
  obtain ⟨p, q, rfl, h3, h4⟩ := fits_split h6
  obtain ⟨a, rfl, ha⟩ := fits_A h3
  obtain ⟨e, r, rfl, h7, h8⟩ := fits_1 h4
  obtain ⟨f, r, rfl, h9, hA⟩ := fits_one h8
  obtain rfl := fits_nil hA
  obtain ⟨n1, rfl, _⟩ := fits_i64 h1
  obtain ⟨n2, rfl, hn⟩ := fits_i64 h5
  obtain ⟨l, rfl⟩ := fits_Fms h7
  cases h9 with
  | bool b => exact ⟨⟨n1, n2, a, l, b⟩, by simp [opC], ⟨ha⟩, hn⟩
def shNt : List Sh := [.int .i64] ++ ([.int .i64] ++ [.sl [.int .u8]])
theorem fits_Nt {cs : List PV} (h : FitsL shNt cs) : ∃ x : Nt, cs = ntC x ∧ okNt x := by
  obtain ⟨c, r, rfl, h1, h2⟩ := fits_1 h
  obtain ⟨d, r, rfl, h5, h6⟩ := fits_1 h2
  obtain ⟨f, r, rfl, h9, hA⟩ := fits_one h6
  obtain rfl := fits_nil hA
  obtain ⟨n1, rfl, _⟩ := fits_i64 h1
  obtain ⟨n2, rfl, _⟩ := fits_i64 h5
  obtain ⟨l, rfl⟩ := fits_bs h9
  exact ⟨⟨n1, n2, l⟩, rfl, ⟨trivial⟩⟩
theorem fits_Ms {s : List Sh} {cs : List PV} (hs : s.length = 26) (h : FitsL ([.int .i64] ++ (shOp ++ (s ++ (shNt ++ shFm)))) cs) : ∃ m : Ms, cs = msC m ∧ okMs m ∧ -9223372036854775808 ≤ m.op.hold ∧ m.op.hold ≤ 9223372036854775807 := by
  obtain ⟨c, r, rfl, h1, h2⟩ := fits_1 h
  obtain ⟨p, q, rfl, h3, h4⟩ := fits_split h2
  obtain ⟨o, rfl, ho, hh⟩ := fits_Op h3
  obtain ⟨p, q, rfl, h5, h6⟩ := fits_split h4
  obtain ⟨u, rfl, hu⟩ := fits_Cs h5 hs
  obtain ⟨p, q, rfl, h7, h8⟩ := fits_split h6
  obtain ⟨n, rfl, hn⟩ := fits_Nt h7
  obtain ⟨f, rfl, hf⟩ := fits_Fm h8
  obtain ⟨n1, rfl, _⟩ := fits_i64 h1
  exact ⟨⟨n1, o, u, n, f⟩, by simp [msC], ⟨ho, hu, hn, hf⟩, hh⟩
theorem fits_Ev {s : List Sh} {cs : List PV} (hs : s.length = 26) (h : FitsL ([.int .i64] ++ (([.int .i64] ++ (shOp ++ (s ++ (shNt ++ shFm)))) ++ ([.int .i64] ++ shNt))) cs) : ∃ e : Ev, cs = evC e ∧ okEv e ∧ -9223372036854775808 ≤ e.h.op.hold ∧ e.h.op.hold ≤ 9223372036854775807 := by
  obtain ⟨c, r, rfl, h1, h2⟩ := fits_1 h
  obtain ⟨p, q, rfl, h3, h4⟩ := fits_split h2
  obtain ⟨m, rfl, hm, hh⟩ := fits_Ms hs h3
  obtain ⟨d, r, rfl, h5, h6⟩ := fits_1 h4
  obtain ⟨n, rfl, hn⟩ := fits_Nt h6
  obtain ⟨n1, rfl, _⟩ := fits_i64 h1
  obtain ⟨n2, rfl, _⟩ := fits_i64 h5
  exact ⟨⟨n1, m, n2, n⟩, by simp [evC], ⟨hm, hn⟩, hh⟩
theorem reach_le : reachBytes ≤ 140737488355328 := by decide
theorem sz_Pr {p : Pr} (s : SzL (prC p)) : p.fams.length * 16 ≤ 140737488355328 := by
  have k : PV.sl (p.fams.map fmC) ∈ prC p := by simp [prC]
  have h := s _ k
  cases hf : p.fams with
  | nil => simp
  | cons x r =>
    have := h.slB (e := fmC x) (by rw [hf]; simp)
    rw [List.length_map, hf] at this
    exact Nat.le_trans this reach_le
theorem sz_Ev {e : Ev} (ok : okEv e) (hh : -9223372036854775808 ≤ e.h.op.hold ∧ e.h.op.hold ≤ 9223372036854775807) (s : SzL (evC e)) : OkE e := by
  have k1 : PV.sl (bsl e.nt.data) ∈ evC e := by simp [evC, ntC]
  have k2 : PV.sl (e.h.op.fams.map fmC) ∈ evC e := by simp [evC, msC, opC]
  refine ⟨ok, ?_, ?_, hh⟩
  · have := (s _ k1).slLen; rw [bsl_len] at this; exact Nat.le_trans this reach_le
  · have := (s _ k2).slLen; rw [List.length_map] at this; exact Nat.le_trans this reach_le
theorem fits_Evs {s : List Sh} {c : PV} (hs : s.length = 26) (h : Fits (.sl ([.int .i64] ++ (([.int .i64] ++ (shOp ++ (s ++ (shNt ++ shFm)))) ++ ([.int .i64] ++ shNt)))) c) (sz : Sz c) : ∃ l : List Ev, c = .sl (l.map evC) ∧ ∀ e, e ∈ l → OkE e := by
  obtain ⟨es, rfl, _, hes⟩ := fits_sl h
  obtain ⟨l, rfl, hl⟩ := fits_list (c := evC) (ok := fun e => okEv e ∧ -9223372036854775808 ≤ e.h.op.hold ∧ e.h.op.hold ≤ 9223372036854775807) (fun e he => fits_Ev hs he) hes
  exact ⟨l, rfl, fun e he => sz_Ev (hl e he).1 (hl e he).2 (sz.slAll (List.mem_map_of_mem he))⟩
def shEv : List Sh := [.int .i64, .int .i64, .int .i64, .int .i64, .int .i64, .int .u8, .int .u8, .int .u8, .int .u8, .int .u8, .int .u8, .int .u8, .int .u8, .int .u8, .int .u8, .int .u8, .int .u8, .int .u8, .int .u8, .int .u8, .int .u8, .sl [.int .i64, .int .i64], .bool, .int .i64, .sl [.bool, .sl [.int .i64]], .int .i64, .int .i64, .int .i64, .int .u8, .int .u8, .int .u8, .int .u8, .int .u8, .int .u8, .int .u8, .int .u8, .int .u8, .int .u8, .int .u8, .int .u8, .int .u8, .int .u8, .int .u8, .int .u8, .sl [.int .i64, .int .u8, .int .u8, .int .u8, .int .u8, .int .u8, .int .u8, .int .u8, .int .u8, .int .u8, .int .u8, .int .u8, .int .u8, .int .u8, .int .u8, .int .u8, .int .u8], .sl [.int .u8, .int .u8, .int .u8, .int .u8, .int .u8, .int .u8, .int .u8, .int .u8], .sl [.bool, .int .i64, .int .i64, .int .i64, .int .u8, .int .u8, .int .u8, .int .u8, .int .u8, .int .u8, .int .u8, .int .u8, .int .u8, .int .u8, .int .u8, .int .u8, .int .u8, .int .u8, .int .u8, .int .u8, .sl [.int .u8]], .sl [.int .i64, .int .i64, .int .i64, .int .u8, .int .u8, .int .u8, .int .u8, .int .u8, .int .u8, .int .u8, .int .u8, .int .u8, .int .u8, .int .u8, .int .u8, .int .u8, .int .u8, .int .u8, .int .u8, .sl [.int .i64, .int .u8, .int .u8, .int .u8, .int .u8, .int .u8, .int .u8, .int .u8, .int .u8, .int .i64, .int .i64, .int .u8, .int .u8, .int .u8, .int .u8, .int .u8, .int .u8, .int .u8, .int .u8, .int .u8, .int .u8, .int .u8, .int .u8, .int .u8, .int .u8, .int .u8, .int .u8, .int .i64, .int .u8, .int .u8, .int .u8, .int .u8, .int .u8, .int .u8, .int .u8, .int .u8, .int .u8, .int .u8, .int .u8, .int .u8, .int .u8, .int .u8, .int .u8, .int .u8, .int .i64, .int .u8, .int .u8, .int .u8, .int .u8, .int .u8, .int .u8, .int .u8, .int .u8, .int .u8, .int .u8, .int .u8, .int .u8, .int .u8, .int .u8, .int .u8, .int .u8, .str], .sl [.int .u8, .int .u8, .int .u8, .int .u8, .int .u8, .int .u8, .int .u8, .int .u8, .int .i64, .int .u8, .int .u8, .int .u8, .int .u8, .int .u8, .int .u8, .int .u8, .int .u8, .int .u8, .int .u8, .int .u8, .int .u8, .int .u8, .int .u8, .int .u8, .int .u8, .int .i64, .int .i64]], .sl [.int .i64, .int .i64, .int .i64, .int .u8, .int .u8, .int .u8, .int .u8, .int .u8, .int .u8, .int .u8, .int .u8, .int .u8, .int .u8, .int .u8, .int .u8, .int .u8, .int .u8, .int .u8, .int .u8, .sl [.int .i64, .int .u8, .int .u8, .int .u8, .int .u8, .int .u8, .int .u8, .int .u8, .int .u8, .int .i64, .int .i64, .int .u8, .int .u8, .int .u8, .int .u8, .int .u8, .int .u8, .int .u8, .int .u8, .int .u8, .int .u8, .int .u8, .int .u8, .int .u8, .int .u8, .int .u8, .int .u8, .int .i64, .int .u8, .int .u8, .int .u8, .int .u8, .int .u8, .int .u8, .int .u8, .int .u8, .int .u8, .int .u8, .int .u8, .int .u8, .int .u8, .int .u8, .int .u8, .int .u8, .int .i64, .int .u8, .int .u8, .int .u8, .int .u8, .int .u8, .int .u8, .int .u8, .int .u8, .int .u8, .int .u8, .int .u8, .int .u8, .int .u8, .int .u8, .int .u8, .int .u8, .str], .sl [.int .u8, .int .u8, .int .u8, .int .u8, .int .u8, .int .u8, .int .u8, .int .u8, .int .i64, .int .u8, .int .u8, .int .u8, .int .u8, .int .u8, .int .u8, .int .u8, .int .u8, .int .u8, .int .u8, .int .u8, .int .u8, .int .u8, .int .u8, .int .u8, .int .u8, .int .i64, .int .i64]], .int .i64, .int .i64, .sl [.int .u8], .int .i64, .int .i64, .int .i64, .int .i64, .int .i64, .sl [.int .u8]]
def shCs : List Sh := (shEv.drop 23).take 26
theorem fits_rowEv {c : PV} (h : Fits (.sl shEv) c) (sz : Sz c) : ∃ l : List Ev, c = .sl (l.map evC) ∧ ∀ e, e ∈ l → OkE e := fits_Evs (s := shCs) rfl h sz
end Go.Proofs.YtocnjlfnapefjaaGreatDoor
