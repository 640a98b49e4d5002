/- mroute: Right, Take, Parse in full. -/
import Derived.Test.YtjhmobdncjhcnaaGreatDoorHC
namespace Go.Proofs.YtjhmobdncjhcnaaGreatDoor
open Go Go.V
set_option maxRecDepth 10000
theorem rs1_key (p : Pt) (S : RS) : (rs1 p S).m.key = S.m.key := by unfold rs1; split <;> rfl
theorem rs2_key (p : Pt) (S : RS) : (rs2 p S).m.key = S.m.key := by unfold rs2; split <;> rfl
theorem rs3_key (p : Pt) (S : RS) : (rs3 p S).m.key = S.m.key := by unfold rs3; split <;> rfl
theorem rs4_key (p : Pt) (S : RS) : (rs4 p S).m.key = S.m.key := by unfold rs4; split <;> rfl
theorem readM_key (k : Int) (l : List UInt8) (bad : Bool) (key : List UInt8) : (readM k l bad key).m.key = key := by unfold readM; rw [rs4_key, rs3_key, rs2_key, rs1_key]; rfl
theorem takeG_ok (rt sz : Mr → Bool) (l : List UInt8) (s : Int) : okM (takeG rt sz l s).m := by
  unfold takeG
  split
  · exact mr0_ok
  · split
    · split
      · exact mr0_ok
      · split
        · exact mr0_ok
        · split
          · exact readM_ok _ _ _ _
          · exact mr0_ok
    · exact mr0_ok
theorem prs_ok {t : MT} (h : okM t.m) (n : Nat) : okM (prs t n).1 := by
  unfold prs; split
  · exact mr0_ok
  · split
    · exact mr0_ok
    · exact h
/-! What does not begin with a leaf's mark. -/
def rtN (m : Mr) : Bool := rightG m false
def szN (s : Int) (m : Mr) : Bool := sizedG m s 0
def takeN (l : List UInt8) (s : Int) : MT := takeG rtN (szN s) l s
def parseN (l : List UInt8) (s : Int) : Mr × Int := prs (takeN l s) l.length
theorem uTakeN {l : List UInt8} {s : Int} (hl : l.length ≤ 140737488355328) (h4 : l.head? ≠ some 4) : U Tryz.prog 201 [.sl (bsl l), .int .i64 s] (.tup [.agg (mrc (takeN l s).m), .int .i64 ((takeN l s).n : Int), .int .i64 (takeN l s).e]) := by
  have hx : ∀ x t, l = x :: t → ¬ (x.toNat : Int) = 4 := fun x t e => byte_ne4 fun e' => h4 (by rw [e, List.head?_cons, e'])
  refine uTakeG hl (fun x t e key l' bad hk => ?_) (fun x t e key l' bad hk _ => ?_)
  · exact uRightG (X := mr0) (readM_ok _ _ _ _) mr0_ok fun h => absurd (by rw [readM_k] at h; exact h) (hx x t e)
  · exact uSizedG (t := (mr0, 0)) (readM_ok _ _ _ _) (by rw [readM_key]; omega) mr0_ok fun h => absurd (by rw [readM_k] at h; exact h) (hx x t e)
theorem uParseN {l : List UInt8} {s : Int} (hl : l.length ≤ 140737488355328) (h4 : l.head? ≠ some 4) : U Tryz.prog 171 [.sl (bsl l), .int .i64 s] (.tup [.agg (mrc (parseN l s).1), .int .i64 (parseN l s).2]) :=
  uParseG (takeG_ok _ _ _ _) (uTakeN hl h4)
def ansF (key : List UInt8) : Mr × Bool := if key.head? = some 4 then (mr0, false) else ansG (parseN key)
theorem ansG_ok {P : Int → Mr × Int} (h : ∀ s, okM (P s).1) : okM (ansG P).1 := by
  unfold ansG; split
  · exact h 4
  · split
    · exact h 16
    · exact mr0_ok
theorem ansF_ok (key : List UInt8) : okM (ansF key).1 := by
  unfold ansF; split
  · exact mr0_ok
  · exact ansG_ok fun s => prs_ok (takeG_ok _ _ _ _) _
theorem uAns {key : List UInt8} (hkl : key.length ≤ 140737488355328) : U Tryz.prog 187 [.str key] (.tup [.agg (mrc (ansF key).1), .bool (ansF key).2]) := by
  unfold ansF
  split
  · rename_i h
    cases key with
    | nil => cases h
    | cons x t =>
      rw [List.head?_cons, Option.some.injEq] at h
      subst h
      exact uAns4
  · rename_i h
    exact uAnsG hkl h (fun s _ => uParseN hkl h) fun s _ => prs_ok (takeG_ok _ _ _ _) _
def rightF (m : Mr) : Bool := rightG m (ansF m.key).2
theorem uRightM {m : Mr} (h : okM m) (hkl : m.key.length ≤ 140737488355328) : U Tryz.prog 143 [.agg (mrc m)] (.bool (rightF m)) :=
  uRightG h (ansF_ok m.key) fun _ => uAns hkl
theorem rightF_key {m : Mr} (h : rightF m = true) (h4 : m.k = 4) : m.key.head? ≠ some 4 := by
  intro e
  unfold rightF rightG ansF at h
  rw [if_pos e, decide_eq_false (show ¬ m.k ≠ 4 by simpa using h4)] at h
  simp at h
def szF (s : Int) (m : Mr) : Bool := sizedG m s (parseN m.key s).2
theorem uSizedM {m : Mr} {s : Int} (h : okM m) (hkl : m.key.length ≤ 140737488355328) (hr : rightF m = true) : U Tryz.prog 224 [.agg (mrc m), .int .i64 s] (.bool (szF s m)) :=
  uSizedG (t := parseN m.key s) h hkl (prs_ok (takeG_ok _ _ _ _) _) fun h4 => uParseN hkl (rightF_key hr h4)
def takeM (l : List UInt8) (s : Int) : MT := takeG rightF (szF s) l s
theorem uTakeM {l : List UInt8} {s : Int} (hl : l.length ≤ 140737488355328) : U Tryz.prog 201 [.sl (bsl l), .int .i64 s] (.tup [.agg (mrc (takeM l s).m), .int .i64 ((takeM l s).n : Int), .int .i64 (takeM l s).e]) :=
  uTakeG hl (fun x t _ key l' bad hk => uRightM (readM_ok _ _ _ _) (by rw [readM_key]; omega)) (fun x t _ key l' bad hk hr => uSizedM (readM_ok _ _ _ _) (by rw [readM_key]; omega) hr)
end Go.Proofs.YtjhmobdncjhcnaaGreatDoor
