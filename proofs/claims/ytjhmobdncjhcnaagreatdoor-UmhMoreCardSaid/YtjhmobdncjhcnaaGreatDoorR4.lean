/- attr.Right, pmsi.Right. -/
import Derived.Test.YtjhmobdncjhcnaaGreatDoorR3
namespace Go.Proofs.YtjhmobdncjhcnaaGreatDoor
open Go Go.V
set_option maxRecDepth 10000
attribute [local irreducible] vBuild vCallV
theorem fin {Post : KP} {v w : PV} {σ : VHeap} (hk : Post v σ) (e : v = w) : Post w σ := e ▸ hk
set_option maxHeartbeats 4000000 in
theorem uRouterA {a : Ad} (h : okD a) : U Tryz.prog 174 [.agg (adc a)] (.bool (router4 a)) := by
  intro σ Post hk
  have sc := adc_sc (a := a)
  have ln := adc_len h
  have c0 := adc_all h
  have cs := adc_s (a := a)
  refine T174 fun hB hA => ?_
  by_cases h4 : a.s = 4
  · refine W ?_
    refine cu (uRightD h) ?_
    refine W ?_
    exact fin hk (by simp [router4, h4])
  · refine W ?_
    exact fin hk (by simp [router4, h4])
set_option maxHeartbeats 4000000 in
theorem uNotRouter {a : Ad} (h : okD a) : U Tryz.prog 175 [.agg (adc a)] (.bool (!router4 a)) := by
  intro σ Post hk
  have sc := adc_sc (a := a)
  have ln := adc_len h
  have c0 := adc_all h
  have cs := adc_s (a := a)
  refine T175 fun hB hA => ?_
  refine W ?_
  refine cu (uRouterA h) ?_
  refine W ?_
  exact hk
set_option maxHeartbeats 4000000 in
theorem uTunnel {t : Tn} (h : okTn t) (hid : t.id.length ≤ 140737488355328) : U Tryz.prog 178 [.agg (tnC t)] (.bool (tnR t)) := by
  intro σ Post hk
  have sc := tnC_sc (x := t)
  have ln := tnC_len h
  have c0 := tnC_all h
  have g1 := tnC_gkind h
  have g2 := tnC_glabel h
  have g3 := tnC_groot h
  have g4 := tnC_gid h
  have g5 : cut (tnC t) 3 none = some (.int .i64 t.root.s) := rfl
  refine T178 fun hB hA => ?_
  refine W ?_
  refine cu (uRightD h.root) ?_
  cases o1 : okAd t.root with
  | true =>
    by_cases l0 : 0 ≤ t.label
    · by_cases l1 : t.label ≤ 1048575
      · by_cases k0 : t.kind = 0
        · have rs := okAd_s o1
          by_cases z : t.root.s + t.id.length = 0
          · refine W ?_
            exact fin hk (by simp [tnR, tnK, o1, l0, l1, k0, z])
          · refine W ?_
            exact fin hk (by simp [tnR, tnK, o1, l0, l1, k0, z])
        · by_cases k1 : t.kind = 1
          · by_cases r4 : t.root.s = 4
            · by_cases i6 : t.id.length = 6
              · refine W ?_
                exact fin hk (by simp [tnR, tnK, o1, l0, l1, k1, r4, i6])
              · refine W ?_
                exact fin hk (by simp [tnR, tnK, o1, l0, l1, k1, r4, i6])
            · refine W ?_
              exact fin hk (by simp [tnR, tnK, o1, l0, l1, k1, r4])
          · by_cases k2 : t.kind = 2
            · by_cases r0 : 0 < t.root.s
              · by_cases i64 : t.id.length ≤ 64
                · refine W ?_
                  exact fin hk (by simp [tnR, tnK, o1, l0, l1, k2, r0, i64])
                · refine W ?_
                  exact fin hk (by simp [tnR, tnK, o1, l0, l1, k2, r0, i64])
              · refine W ?_
                exact fin hk (by simp [tnR, tnK, o1, l0, l1, k2, r0])
            · by_cases k7 : t.kind = 7
              · by_cases r0 : 0 < t.root.s
                · by_cases i64 : t.id.length ≤ 64
                  · refine W ?_
                    exact fin hk (by simp [tnR, tnK, o1, l0, l1, k7, r0, i64])
                  · refine W ?_
                    exact fin hk (by simp [tnR, tnK, o1, l0, l1, k7, r0, i64])
                · refine W ?_
                  exact fin hk (by simp [tnR, tnK, o1, l0, l1, k7, r0])
              · by_cases k3 : t.kind = 3
                · have q0 := ofA_ok t.id
                  have q1 := adc_len q0
                  have q2 := adc_sc (a := (ofA t.id).1)
                  have q3 := ad_set q0
                  have q4 := adc_all q0
                  have q5 := adc_s (a := (ofA t.id).1)
                  refine W ?_
                  refine cu (uOfA (l := t.id) hid) ?_
                  by_cases e0 : (ofA t.id).2 = 0
                  · by_cases es : (ofA t.id).1.s = t.root.s
                    · refine W ?_
                      refine cu (uMulti q0) ?_
                      refine W ?_
                      exact fin hk (by simp [tnR, tnK, o1, l0, l1, k3, e0, es])
                    · refine W ?_
                      exact fin hk (by simp [tnR, tnK, o1, l0, l1, k3, e0, es])
                  · refine W ?_
                    exact fin hk (by simp [tnR, tnK, o1, l0, l1, k3, e0])
                · by_cases k4 : t.kind = 4
                  · have q0 := ofA_ok t.id
                    have q1 := adc_len q0
                    have q2 := adc_sc (a := (ofA t.id).1)
                    have q3 := ad_set q0
                    have q4 := adc_all q0
                    have q5 := adc_s (a := (ofA t.id).1)
                    refine W ?_
                    refine cu (uOfA (l := t.id) hid) ?_
                    by_cases e0 : (ofA t.id).2 = 0
                    · by_cases es : (ofA t.id).1.s = t.root.s
                      · refine W ?_
                        refine cu (uMulti q0) ?_
                        refine W ?_
                        exact fin hk (by simp [tnR, tnK, o1, l0, l1, k4, e0, es])
                      · refine W ?_
                        exact fin hk (by simp [tnR, tnK, o1, l0, l1, k4, e0, es])
                    · refine W ?_
                      exact fin hk (by simp [tnR, tnK, o1, l0, l1, k4, e0])
                  · by_cases k5 : t.kind = 5
                    · have q0 := ofA_ok t.id
                      have q1 := adc_len q0
                      have q2 := adc_sc (a := (ofA t.id).1)
                      have q3 := ad_set q0
                      have q4 := adc_all q0
                      have q5 := adc_s (a := (ofA t.id).1)
                      refine W ?_
                      refine cu (uOfA (l := t.id) hid) ?_
                      by_cases e0 : (ofA t.id).2 = 0
                      · by_cases es : (ofA t.id).1.s = t.root.s
                        · refine W ?_
                          refine cu (uMulti q0) ?_
                          refine W ?_
                          exact fin hk (by simp [tnR, tnK, o1, l0, l1, k5, e0, es])
                        · refine W ?_
                          exact fin hk (by simp [tnR, tnK, o1, l0, l1, k5, e0, es])
                      · refine W ?_
                        exact fin hk (by simp [tnR, tnK, o1, l0, l1, k5, e0])
                    · by_cases k6 : t.kind = 6
                      · by_cases r0 : 0 < t.root.s
                        · by_cases i0 : t.id.length = 0
                          · refine W ?_
                            exact fin hk (by simp [tnR, tnK, o1, l0, l1, k6, r0, i0])
                          · refine W ?_
                            exact fin hk (by simp [tnR, tnK, o1, l0, l1, k6, r0, i0])
                        · refine W ?_
                          exact fin hk (by simp [tnR, tnK, o1, l0, l1, k6, r0])
                      · refine W ?_
                        exact fin hk (by simp [tnR, tnK, o1, l0, l1, k0, k1, k2, k7, k3, k4, k5, k6])
      · refine W ?_
        exact fin hk (by simp [tnR, tnK, o1, l0, l1])
    · refine W ?_
      exact fin hk (by simp [tnR, tnK, o1, l0])
  | false =>
    refine W ?_
    exact fin hk (by simp [tnR, tnK, o1])
set_option maxHeartbeats 4000000 in
theorem uNotTunnel {t : Tn} (h : okTn t) (hid : t.id.length ≤ 140737488355328) : U Tryz.prog 177 [.agg (tnC t)] (.bool (!tnR t)) := by
  intro σ Post hk
  have sc := tnC_sc (x := t)
  have ln := tnC_len h
  have c0 := tnC_all h
  have g1 := tnC_gkind h
  have g2 := tnC_glabel h
  have g3 := tnC_groot h
  have g4 := tnC_gid h
  have g5 : cut (tnC t) 3 none = some (.int .i64 t.root.s) := rfl
  refine T177 fun hB hA => ?_
  refine W ?_
  refine cu (uTunnel h hid) ?_
  refine W ?_
  exact hk
set_option maxHeartbeats 4000000 in
theorem uBadNum {n : Int} : U Tryz.prog 237 [.int .i64 n] (.bool (decide (n < 0) || decide (4294967295 < n))) := by
  intro σ Post hk
  refine T237 fun hB hA => ?_
  by_cases n0 : n < 0
  · refine W ?_
    exact fin hk (by simp [n0])
  · by_cases n1 : 4294967295 < n
    · refine W ?_
      exact fin hk (by simp [n0, n1])
    · refine W ?_
      exact fin hk (by simp [n0, n1])
set_option maxHeartbeats 4000000 in
theorem uSegW {s : Seg} : U Tryz.prog 205 [.agg (segC s)] (.bool (segW s)) := by
  intro σ Post hk
  have sc := segC_sc (x := s)
  have ln := segC_len (x := s) ⟨trivial⟩
  have g1 := segC_gnums (x := s) ⟨trivial⟩
  have bl : (s.nums.map fun n => [PV.int .i64 n]).length = s.nums.length := List.length_map _
  have hcl : callOk Tryz.prog 237 = true := by kernel_rfl
  refine T205 fun hB hA => ?_
  by_cases n0 : s.nums.length < 1
  · refine W ?_
    exact fin hk (by simp [segW, n0])
  · by_cases n1 : 255 < s.nums.length
    · refine W ?_
      exact fin hk (by simp [segW, n0, n1])
    · refine W ?_
      refine ct ?_
      refine tConI (l := s.nums) (p := fun n => decide (n < 0) || decide (4294967295 < n)) (by omega) hcl (fun x _ L Q hq => uBadNum _ _ hq) ?_
      refine W ?_
      exact fin hk (by simp [segW, n0, n1])
set_option maxHeartbeats 4000000 in
theorem uPathR {l : List Seg} : U Tryz.prog 179 [.sl (l.map segC)] (.bool (pathR l)) := by
  intro σ Post hk
  have bl : (l.map segC).length = l.length := List.length_map _
  have hcl : callOk Tryz.prog 205 = true := by kernel_rfl
  refine T179 fun hB hA => ?_
  by_cases n0 : l.length ≤ 16
  · refine W ?_
    refine ct ?_
    refine tConS (l := l) (p := segW) (by omega) hcl (fun x _ L Q hq => uSegW _ _ hq) ?_
    refine W ?_
    exact fin hk (by simp [pathR, n0])
  · refine W ?_
    exact fin hk (by simp [pathR, n0])
set_option maxHeartbeats 4000000 in
theorem uAtR {a : At} (h : okAt a) (hk3 : ∀ c, c ∈ a.cl → okD c) (hk4 : (∀ t, t ∈ a.tn → okTn t) ∧ ∀ t, t ∈ a.tn → t.id.length ≤ 140737488355328) : U Tryz.prog 137 [.agg (atC a)] (.bool (atR a)) := by
  intro σ Post hk
  have sc := atC_sc (x := a)
  have ln := atC_len h
  have c0 := atC_all h
  have gorigin := atC_gorigin h
  have gpath := atC_gpath h
  have gmed := atC_gmed h
  have gpref := atC_gpref h
  have gorig := atC_gorig h
  have gcl := atC_gcl h
  have gex := atC_gex h
  have gtn := atC_gtn h
  have q0 := eqC_ad h.orig ad0_ok
  have qc := adc_all h.orig
  have h1 : callOk Tryz.prog 175 = true := by kernel_rfl
  have h2 : callOk Tryz.prog 177 = true := by kernel_rfl
  have b1 : (a.cl.map adc).length = a.cl.length := List.length_map _
  have b2 : (a.ex.map u8c).length = a.ex.length := List.length_map _
  have b3 : (a.tn.map tnC).length = a.tn.length := List.length_map _
  refine T137 fun hB hA => ?_
  by_cases x1 : 0 ≤ a.origin
  · by_cases x2 : a.origin ≤ 2
    · by_cases x3 : -1 ≤ a.med
      · by_cases x4 : a.med ≤ 4294967295
        · by_cases x5 : -1 ≤ a.pref
          · by_cases x6 : a.pref ≤ 4294967295
            · cases o1 : a.orig == ad0 with
              | true =>
                rw [o1] at q0
                by_cases y1 : a.cl.length ≤ 32
                · by_cases y2 : a.ex.length ≤ 64
                  · by_cases y3 : a.tn.length ≤ 1
                    · refine W ?_
                      refine ct ?_
                      refine tConA (l := a.cl) (p := fun c => !router4 c) (by omega) h1 hk3 (fun x hx L Q hq => uNotRouter (hk3 x hx) _ _ hq) ?_
                      cases z1 : a.cl.any fun c => !router4 c with
                      | true =>
                        refine W ?_
                        exact fin hk (by simp [atR, x1, x2, x3, x4, x5, x6, o1, y1, y2, y3, z1])
                      | false =>
                        refine W ?_
                        refine ct ?_
                        refine tConT (l := a.tn) (p := fun t => !tnR t) (by omega) h2 hk4.1 (fun x hx L Q hq => uNotTunnel (hk4.1 x hx) (hk4.2 x hx) _ _ hq) ?_
                        cases z2 : a.tn.any fun t => !tnR t with
                        | true =>
                          refine W ?_
                          exact fin hk (by simp [atR, x1, x2, x3, x4, x5, x6, o1, y1, y2, y3, z1, z2])
                        | false =>
                          refine W ?_
                          refine cu (uPathR (l := a.path)) ?_
                          refine W ?_
                          exact fin hk (by simp [atR, x1, x2, x3, x4, x5, x6, o1, y1, y2, y3, z1, z2])
                    · refine W ?_
                      exact fin hk (by simp [atR, x1, x2, x3, x4, x5, x6, o1, y1, y2, y3])
                  · refine W ?_
                    exact fin hk (by simp [atR, x1, x2, x3, x4, x5, x6, o1, y1, y2])
                · refine W ?_
                  exact fin hk (by simp [atR, x1, x2, x3, x4, x5, x6, o1, y1])
              | false =>
                rw [o1] at q0
                refine W ?_
                refine cu (uRouterA h.orig) ?_
                cases o2 : router4 a.orig with
                | true =>
                  by_cases y1 : a.cl.length ≤ 32
                  · by_cases y2 : a.ex.length ≤ 64
                    · by_cases y3 : a.tn.length ≤ 1
                      · refine W ?_
                        refine ct ?_
                        refine tConA (l := a.cl) (p := fun c => !router4 c) (by omega) h1 hk3 (fun x hx L Q hq => uNotRouter (hk3 x hx) _ _ hq) ?_
                        cases z1 : a.cl.any fun c => !router4 c with
                        | true =>
                          refine W ?_
                          exact fin hk (by simp [atR, x1, x2, x3, x4, x5, x6, o1, o2, y1, y2, y3, z1])
                        | false =>
                          refine W ?_
                          refine ct ?_
                          refine tConT (l := a.tn) (p := fun t => !tnR t) (by omega) h2 hk4.1 (fun x hx L Q hq => uNotTunnel (hk4.1 x hx) (hk4.2 x hx) _ _ hq) ?_
                          cases z2 : a.tn.any fun t => !tnR t with
                          | true =>
                            refine W ?_
                            exact fin hk (by simp [atR, x1, x2, x3, x4, x5, x6, o1, o2, y1, y2, y3, z1, z2])
                          | false =>
                            refine W ?_
                            refine cu (uPathR (l := a.path)) ?_
                            refine W ?_
                            exact fin hk (by simp [atR, x1, x2, x3, x4, x5, x6, o1, o2, y1, y2, y3, z1, z2])
                      · refine W ?_
                        exact fin hk (by simp [atR, x1, x2, x3, x4, x5, x6, o1, o2, y1, y2, y3])
                    · refine W ?_
                      exact fin hk (by simp [atR, x1, x2, x3, x4, x5, x6, o1, o2, y1, y2])
                  · refine W ?_
                    exact fin hk (by simp [atR, x1, x2, x3, x4, x5, x6, o1, o2, y1])
                | false =>
                  refine W ?_
                  exact fin hk (by simp [atR, x1, x2, x3, x4, x5, x6, o1, o2])
            · refine W ?_
              exact fin hk (by simp [atR, x1, x2, x3, x4, x5, x6])
          · refine W ?_
            exact fin hk (by simp [atR, x1, x2, x3, x4, x5])
        · refine W ?_
          exact fin hk (by simp [atR, x1, x2, x3, x4])
      · refine W ?_
        exact fin hk (by simp [atR, x1, x2, x3])
    · refine W ?_
      exact fin hk (by simp [atR, x1, x2])
  · refine W ?_
    exact fin hk (by simp [atR, x1])
end Go.Proofs.YtjhmobdncjhcnaaGreatDoor
