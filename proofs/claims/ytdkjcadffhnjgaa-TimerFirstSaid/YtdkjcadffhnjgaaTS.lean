/- Timers: the small case. -/
import Derived.Test.YtdkjcadffhnjgaaTN
namespace Go.Proofs.Ytdkjcadffhnjgaa
open Go Go.V
set_option maxRecDepth 10000

theorem keep_via {σ a b : VHeap} {mid : Nat} (h : Keep [] σ a) (hm : σ.length ≤ mid) (k : Keep [mid] a b) : Keep [] σ b :=
  ((h.mono (l' := [mid]) (by simp)).trans k).mono fun i hi => by simp at hi; subst hi; exact .inr hm
theorem perm_one {α : Type} {l : List α} {a : α} (h : l.Perm [a]) : l = [a] := List.perm_singleton.1 h
theorem sort_one (a : List UInt8) : ([a].mergeSort fun x y => decide (x ≤ y)) = [a] := by
  apply perm_one; exact List.mergeSort_perm _ _

theorem tSmall {σ : VHeap} {Post : KP} (k : ∀ σ' : VHeap, Keep [] σ σ' → Post (.bool true) σ') : T Try.prog 7 [] σ Post := by
  refine T7 (sf (by show 0 ≤ _; decide) ?_)
  show vrun _ _ vb7 _ (σ ++ vdead 0) _
  unfold vb7
  (repeat (first
        | ((with_reducible apply st_movG); (first | exact (rfl : _ = PV.int _ _) | exact (rfl : _ = PV.bool _) | exact (rfl : _ = PV.ptr _ _ _) | exact (rfl : _ = PV.str _) | exact (rfl : _ = PV.row _ _) | exact (rfl : _ = PV.map _ _) | exact (rfl : _ = PV.sl _) | exact (rfl : _ = PV.tup _) | exact (rfl : _ = PV.agg _) | exact (rfl : _ = PV.iter _ _) | exact (rfl : _ = PV.rptr _ _ _ _) | exact (rfl : _ = PV.iptr _ _) | assumption | exact rfl))
        | ((with_reducible apply st_guardT); (first | exact rfl | assumption))
        | ((with_reducible apply st_guardF); (first | exact rfl | assumption))
        | ((with_reducible apply st_guardN); (first | exact rfl | assumption))
        | ((with_reducible apply st_loadP); (first | exact rfl | assumption); (first | assumption | ((repeat (with_reducible refine hget_ne (by omega) ?_)); first | assumption | (refine hget_eq (by first | omega | (simp only [List.length_set, List.length_append, vdead_len]; omega))))); exact rfl)
        | ((with_reducible apply st_loadI); (first | exact rfl | assumption); exact rfl)
        | ((with_reducible apply st_loadR); (first | exact rfl | assumption); (first | assumption | ((repeat (with_reducible refine hget_ne (by omega) ?_)); first | assumption | (refine hget_eq (by first | omega | (simp only [List.length_set, List.length_append, vdead_len]; omega))))); (first | exact rfl | assumption); exact rfl)
        | ((with_reducible apply st_nilP); (first | exact rfl | assumption); (first | assumption | ((repeat (with_reducible refine hget_ne (by omega) ?_)); first | assumption | (refine hget_eq (by first | omega | (simp only [List.length_set, List.length_append, vdead_len]; omega))))))
        | ((with_reducible apply st_nilR); (first | exact rfl | assumption); (first | assumption | ((repeat (with_reducible refine hget_ne (by omega) ?_)); first | assumption | (refine hget_eq (by first | omega | (simp only [List.length_set, List.length_append, vdead_len]; omega))))))
        | ((with_reducible apply st_nilI); (first | exact rfl | assumption))
        | ((with_reducible apply st_fieldP); (first | exact rfl | assumption); (first | assumption | ((repeat (with_reducible refine hget_ne (by omega) ?_)); first | assumption | (refine hget_eq (by first | omega | (simp only [List.length_set, List.length_append, vdead_len]; omega))))))
        | ((with_reducible apply st_fieldI); (first | exact rfl | assumption))
        | ((with_reducible apply st_fieldR); (first | exact rfl | assumption); (first | assumption | ((repeat (with_reducible refine hget_ne (by omega) ?_)); first | assumption | (refine hget_eq (by first | omega | (simp only [List.length_set, List.length_append, vdead_len]; omega))))))
        | ((with_reducible apply st_bin); (first | exact rfl | assumption); (first | exact rfl | assumption); first | assumption | exact i_add (by omega) (by omega) | exact i_sub (by omega) (by omega) | exact i_lssT (by omega) | exact i_lssF (by omega) | exact i_geqT (by omega) | exact i_geqF (by omega) | exact i_eqlT (by omega) | exact i_eqlF (by omega) | exact i_neqT (by omega) | exact i_neqF (by omega) | exact i_gtrT (by omega) | exact i_gtrF (by omega) | exact i_leqT (by omega) | exact i_leqF (by omega) | exact rfl)
        | ((with_reducible apply st_binS); (first | exact rfl | assumption); (first | exact rfl | assumption); exact rfl)
        | ((with_reducible apply st_eqB); (first | exact rfl | assumption); (first | exact rfl | assumption))
        | ((with_reducible apply st_neB); (first | exact rfl | assumption); (first | exact rfl | assumption))
        | ((with_reducible apply st_pickT); (first | exact rfl | assumption))
        | ((with_reducible apply st_pickF); (first | exact rfl | assumption))
        | ((with_reducible apply st_extract); (first | exact rfl | assumption); exact rfl)
        | ((with_reducible apply st_not); (first | exact rfl | assumption))
        | ((with_reducible apply st_lenR); (first | exact rfl | assumption); (first | assumption | ((repeat (with_reducible refine hget_ne (by omega) ?_)); first | assumption | (refine hget_eq (by first | omega | (simp only [List.length_set, List.length_append, vdead_len]; omega))))))
        | ((with_reducible apply st_lenS); (first | exact rfl | assumption))
        | with_reducible apply st_end
        | with_reducible apply sc_seq
        | with_reducible apply sc_region
        | with_reducible apply sq_thenN
        | with_reducible apply sc_block
        | with_reducible apply sc_skip
        | with_reducible apply sc_ret
        | with_reducible apply sc_exit
        | with_reducible apply sq_thenR
        | with_reducible apply sq_thenX
        | with_reducible apply sq_blockN
        | with_reducible apply sq_blockR
        | with_reducible apply sq_blockX
        | ((with_reducible apply sc_condT); (first | exact rfl | assumption))
        | ((with_reducible apply sc_condF); (first | exact rfl | assumption))
        | ((with_reducible apply sq_blockY); decide)
        | ((with_reducible apply st_neg); (first | exact rfl | assumption))
        | ((with_reducible apply st_lenMap); (first | exact rfl | assumption); (first | assumption | ((repeat (with_reducible refine hget_ne (by omega) ?_)); first | assumption | (refine hget_eq (by first | omega | (simp only [List.length_set, List.length_append, vdead_len]; omega))))))
        | ((with_reducible apply st_lenStr); (first | exact rfl | assumption))
        | ((with_reducible apply st_ptrNil); (first | exact rfl | assumption); (first | exact rfl | assumption); (first | assumption | ((repeat (with_reducible refine hget_ne (by omega) ?_)); first | assumption | (refine hget_eq (by first | omega | (simp only [List.length_set, List.length_append, vdead_len]; omega))))))
        | ((with_reducible apply st_newRow); (first | assumption | ((repeat (with_reducible refine hraw_ne (by omega) ?_)); first | assumption | exact hraw_dead (by decide) | (refine hraw_eq (by first | omega | (simp only [List.length_set, List.length_append, vdead_len]; omega))))))
        | ((with_reducible apply st_alloc); (first | assumption | ((repeat (with_reducible refine hraw_ne (by omega) ?_)); first | assumption | exact hraw_dead (by decide) | (refine hraw_eq (by first | omega | (simp only [List.length_set, List.length_append, vdead_len]; omega))))))
        | ((with_reducible apply st_makeMap); (first | assumption | ((repeat (with_reducible refine hraw_ne (by omega) ?_)); first | assumption | exact hraw_dead (by decide) | (refine hraw_eq (by first | omega | (simp only [List.length_set, List.length_append, vdead_len]; omega))))))
        | ((with_reducible apply st_build); exact rfl)
        | ((with_reducible apply st_box); exact rfl; (first | assumption | ((repeat (with_reducible refine hraw_ne (by omega) ?_)); first | assumption | exact hraw_dead (by decide) | (refine hraw_eq (by first | omega | (simp only [List.length_set, List.length_append, vdead_len]; omega))))))
        | ((with_reducible apply st_buildSlice); exact rfl; (first | assumption | ((repeat (with_reducible refine hraw_ne (by omega) ?_)); first | assumption | exact hraw_dead (by decide) | (refine hraw_eq (by first | omega | (simp only [List.length_set, List.length_append, vdead_len]; omega))))))
        | ((with_reducible apply st_store); (first | exact rfl | assumption); exact rfl; exact rfl; (first | assumption | ((repeat (with_reducible refine hget_ne (by omega) ?_)); first | assumption | (refine hget_eq (by first | omega | (simp only [List.length_set, List.length_append, vdead_len]; omega))))); exact (by decide))))
  apply st_callP rfl rfl
  refine tNew fun σ1 bid mid mg k1 hb hm t1 => ?_
  rw [List.length_append, vdead_len] at hb hm
  have hbx := t1.box
  (repeat (first
        | ((with_reducible apply st_movG); (first | exact (rfl : _ = PV.int _ _) | exact (rfl : _ = PV.bool _) | exact (rfl : _ = PV.ptr _ _ _) | exact (rfl : _ = PV.str _) | exact (rfl : _ = PV.row _ _) | exact (rfl : _ = PV.map _ _) | exact (rfl : _ = PV.sl _) | exact (rfl : _ = PV.tup _) | exact (rfl : _ = PV.agg _) | exact (rfl : _ = PV.iter _ _) | exact (rfl : _ = PV.rptr _ _ _ _) | exact (rfl : _ = PV.iptr _ _) | assumption | exact rfl))
        | ((with_reducible apply st_guardT); (first | exact rfl | assumption))
        | ((with_reducible apply st_guardF); (first | exact rfl | assumption))
        | ((with_reducible apply st_guardN); (first | exact rfl | assumption))
        | ((with_reducible apply st_loadP); (first | exact rfl | assumption); (first | assumption | ((repeat (with_reducible refine hget_ne (by omega) ?_)); first | assumption | (refine hget_eq (by first | omega | (simp only [List.length_set, List.length_append, vdead_len]; omega))))); exact rfl)
        | ((with_reducible apply st_loadI); (first | exact rfl | assumption); exact rfl)
        | ((with_reducible apply st_loadR); (first | exact rfl | assumption); (first | assumption | ((repeat (with_reducible refine hget_ne (by omega) ?_)); first | assumption | (refine hget_eq (by first | omega | (simp only [List.length_set, List.length_append, vdead_len]; omega))))); (first | exact rfl | assumption); exact rfl)
        | ((with_reducible apply st_nilP); (first | exact rfl | assumption); (first | assumption | ((repeat (with_reducible refine hget_ne (by omega) ?_)); first | assumption | (refine hget_eq (by first | omega | (simp only [List.length_set, List.length_append, vdead_len]; omega))))))
        | ((with_reducible apply st_nilR); (first | exact rfl | assumption); (first | assumption | ((repeat (with_reducible refine hget_ne (by omega) ?_)); first | assumption | (refine hget_eq (by first | omega | (simp only [List.length_set, List.length_append, vdead_len]; omega))))))
        | ((with_reducible apply st_nilI); (first | exact rfl | assumption))
        | ((with_reducible apply st_fieldP); (first | exact rfl | assumption); (first | assumption | ((repeat (with_reducible refine hget_ne (by omega) ?_)); first | assumption | (refine hget_eq (by first | omega | (simp only [List.length_set, List.length_append, vdead_len]; omega))))))
        | ((with_reducible apply st_fieldI); (first | exact rfl | assumption))
        | ((with_reducible apply st_fieldR); (first | exact rfl | assumption); (first | assumption | ((repeat (with_reducible refine hget_ne (by omega) ?_)); first | assumption | (refine hget_eq (by first | omega | (simp only [List.length_set, List.length_append, vdead_len]; omega))))))
        | ((with_reducible apply st_bin); (first | exact rfl | assumption); (first | exact rfl | assumption); first | assumption | exact i_add (by omega) (by omega) | exact i_sub (by omega) (by omega) | exact i_lssT (by omega) | exact i_lssF (by omega) | exact i_geqT (by omega) | exact i_geqF (by omega) | exact i_eqlT (by omega) | exact i_eqlF (by omega) | exact i_neqT (by omega) | exact i_neqF (by omega) | exact i_gtrT (by omega) | exact i_gtrF (by omega) | exact i_leqT (by omega) | exact i_leqF (by omega) | exact rfl)
        | ((with_reducible apply st_binS); (first | exact rfl | assumption); (first | exact rfl | assumption); exact rfl)
        | ((with_reducible apply st_eqB); (first | exact rfl | assumption); (first | exact rfl | assumption))
        | ((with_reducible apply st_neB); (first | exact rfl | assumption); (first | exact rfl | assumption))
        | ((with_reducible apply st_pickT); (first | exact rfl | assumption))
        | ((with_reducible apply st_pickF); (first | exact rfl | assumption))
        | ((with_reducible apply st_extract); (first | exact rfl | assumption); exact rfl)
        | ((with_reducible apply st_not); (first | exact rfl | assumption))
        | ((with_reducible apply st_lenR); (first | exact rfl | assumption); (first | assumption | ((repeat (with_reducible refine hget_ne (by omega) ?_)); first | assumption | (refine hget_eq (by first | omega | (simp only [List.length_set, List.length_append, vdead_len]; omega))))))
        | ((with_reducible apply st_lenS); (first | exact rfl | assumption))
        | with_reducible apply st_end
        | with_reducible apply sc_seq
        | with_reducible apply sc_region
        | with_reducible apply sq_thenN
        | with_reducible apply sc_block
        | with_reducible apply sc_skip
        | with_reducible apply sc_ret
        | with_reducible apply sc_exit
        | with_reducible apply sq_thenR
        | with_reducible apply sq_thenX
        | with_reducible apply sq_blockN
        | with_reducible apply sq_blockR
        | with_reducible apply sq_blockX
        | ((with_reducible apply sc_condT); (first | exact rfl | assumption))
        | ((with_reducible apply sc_condF); (first | exact rfl | assumption))
        | ((with_reducible apply sq_blockY); decide)
        | ((with_reducible apply st_neg); (first | exact rfl | assumption))
        | ((with_reducible apply st_lenMap); (first | exact rfl | assumption); (first | assumption | ((repeat (with_reducible refine hget_ne (by omega) ?_)); first | assumption | (refine hget_eq (by first | omega | (simp only [List.length_set, List.length_append, vdead_len]; omega))))))
        | ((with_reducible apply st_lenStr); (first | exact rfl | assumption))
        | ((with_reducible apply st_ptrNil); (first | exact rfl | assumption); (first | exact rfl | assumption); (first | assumption | ((repeat (with_reducible refine hget_ne (by omega) ?_)); first | assumption | (refine hget_eq (by first | omega | (simp only [List.length_set, List.length_append, vdead_len]; omega))))))
        | ((with_reducible apply st_newRow); (first | assumption | ((repeat (with_reducible refine hraw_ne (by omega) ?_)); first | assumption | exact hraw_dead (by decide) | (refine hraw_eq (by first | omega | (simp only [List.length_set, List.length_append, vdead_len]; omega))))))
        | ((with_reducible apply st_alloc); (first | assumption | ((repeat (with_reducible refine hraw_ne (by omega) ?_)); first | assumption | exact hraw_dead (by decide) | (refine hraw_eq (by first | omega | (simp only [List.length_set, List.length_append, vdead_len]; omega))))))
        | ((with_reducible apply st_makeMap); (first | assumption | ((repeat (with_reducible refine hraw_ne (by omega) ?_)); first | assumption | exact hraw_dead (by decide) | (refine hraw_eq (by first | omega | (simp only [List.length_set, List.length_append, vdead_len]; omega))))))
        | ((with_reducible apply st_build); exact rfl)
        | ((with_reducible apply st_box); exact rfl; (first | assumption | ((repeat (with_reducible refine hraw_ne (by omega) ?_)); first | assumption | exact hraw_dead (by decide) | (refine hraw_eq (by first | omega | (simp only [List.length_set, List.length_append, vdead_len]; omega))))))
        | ((with_reducible apply st_buildSlice); exact rfl; (first | assumption | ((repeat (with_reducible refine hraw_ne (by omega) ?_)); first | assumption | exact hraw_dead (by decide) | (refine hraw_eq (by first | omega | (simp only [List.length_set, List.length_append, vdead_len]; omega))))))
        | ((with_reducible apply st_store); (first | exact rfl | assumption); exact rfl; exact rfl; (first | assumption | ((repeat (with_reducible refine hget_ne (by omega) ?_)); first | assumption | (refine hget_eq (by first | omega | (simp only [List.length_set, List.length_append, vdead_len]; omega))))); exact (by decide))))
  apply st_callP (vs := [.ptr bid 1 0, .str [97], .int .i64 2]) rfl rfl
  refine tStart t1 (by omega) fun σ2 k2 t2 => ?_
  (repeat (first
        | ((with_reducible apply st_movG); (first | exact (rfl : _ = PV.int _ _) | exact (rfl : _ = PV.bool _) | exact (rfl : _ = PV.ptr _ _ _) | exact (rfl : _ = PV.str _) | exact (rfl : _ = PV.row _ _) | exact (rfl : _ = PV.map _ _) | exact (rfl : _ = PV.sl _) | exact (rfl : _ = PV.tup _) | exact (rfl : _ = PV.agg _) | exact (rfl : _ = PV.iter _ _) | exact (rfl : _ = PV.rptr _ _ _ _) | exact (rfl : _ = PV.iptr _ _) | assumption | exact rfl))
        | ((with_reducible apply st_guardT); (first | exact rfl | assumption))
        | ((with_reducible apply st_guardF); (first | exact rfl | assumption))
        | ((with_reducible apply st_guardN); (first | exact rfl | assumption))
        | ((with_reducible apply st_loadP); (first | exact rfl | assumption); (first | assumption | ((repeat (with_reducible refine hget_ne (by omega) ?_)); first | assumption | (refine hget_eq (by first | omega | (simp only [List.length_set, List.length_append, vdead_len]; omega))))); exact rfl)
        | ((with_reducible apply st_loadI); (first | exact rfl | assumption); exact rfl)
        | ((with_reducible apply st_loadR); (first | exact rfl | assumption); (first | assumption | ((repeat (with_reducible refine hget_ne (by omega) ?_)); first | assumption | (refine hget_eq (by first | omega | (simp only [List.length_set, List.length_append, vdead_len]; omega))))); (first | exact rfl | assumption); exact rfl)
        | ((with_reducible apply st_nilP); (first | exact rfl | assumption); (first | assumption | ((repeat (with_reducible refine hget_ne (by omega) ?_)); first | assumption | (refine hget_eq (by first | omega | (simp only [List.length_set, List.length_append, vdead_len]; omega))))))
        | ((with_reducible apply st_nilR); (first | exact rfl | assumption); (first | assumption | ((repeat (with_reducible refine hget_ne (by omega) ?_)); first | assumption | (refine hget_eq (by first | omega | (simp only [List.length_set, List.length_append, vdead_len]; omega))))))
        | ((with_reducible apply st_nilI); (first | exact rfl | assumption))
        | ((with_reducible apply st_fieldP); (first | exact rfl | assumption); (first | assumption | ((repeat (with_reducible refine hget_ne (by omega) ?_)); first | assumption | (refine hget_eq (by first | omega | (simp only [List.length_set, List.length_append, vdead_len]; omega))))))
        | ((with_reducible apply st_fieldI); (first | exact rfl | assumption))
        | ((with_reducible apply st_fieldR); (first | exact rfl | assumption); (first | assumption | ((repeat (with_reducible refine hget_ne (by omega) ?_)); first | assumption | (refine hget_eq (by first | omega | (simp only [List.length_set, List.length_append, vdead_len]; omega))))))
        | ((with_reducible apply st_bin); (first | exact rfl | assumption); (first | exact rfl | assumption); first | assumption | exact i_add (by omega) (by omega) | exact i_sub (by omega) (by omega) | exact i_lssT (by omega) | exact i_lssF (by omega) | exact i_geqT (by omega) | exact i_geqF (by omega) | exact i_eqlT (by omega) | exact i_eqlF (by omega) | exact i_neqT (by omega) | exact i_neqF (by omega) | exact i_gtrT (by omega) | exact i_gtrF (by omega) | exact i_leqT (by omega) | exact i_leqF (by omega) | exact rfl)
        | ((with_reducible apply st_binS); (first | exact rfl | assumption); (first | exact rfl | assumption); exact rfl)
        | ((with_reducible apply st_eqB); (first | exact rfl | assumption); (first | exact rfl | assumption))
        | ((with_reducible apply st_neB); (first | exact rfl | assumption); (first | exact rfl | assumption))
        | ((with_reducible apply st_pickT); (first | exact rfl | assumption))
        | ((with_reducible apply st_pickF); (first | exact rfl | assumption))
        | ((with_reducible apply st_extract); (first | exact rfl | assumption); exact rfl)
        | ((with_reducible apply st_not); (first | exact rfl | assumption))
        | ((with_reducible apply st_lenR); (first | exact rfl | assumption); (first | assumption | ((repeat (with_reducible refine hget_ne (by omega) ?_)); first | assumption | (refine hget_eq (by first | omega | (simp only [List.length_set, List.length_append, vdead_len]; omega))))))
        | ((with_reducible apply st_lenS); (first | exact rfl | assumption))
        | with_reducible apply st_end
        | with_reducible apply sc_seq
        | with_reducible apply sc_region
        | with_reducible apply sq_thenN
        | with_reducible apply sc_block
        | with_reducible apply sc_skip
        | with_reducible apply sc_ret
        | with_reducible apply sc_exit
        | with_reducible apply sq_thenR
        | with_reducible apply sq_thenX
        | with_reducible apply sq_blockN
        | with_reducible apply sq_blockR
        | with_reducible apply sq_blockX
        | ((with_reducible apply sc_condT); (first | exact rfl | assumption))
        | ((with_reducible apply sc_condF); (first | exact rfl | assumption))
        | ((with_reducible apply sq_blockY); decide)
        | ((with_reducible apply st_neg); (first | exact rfl | assumption))
        | ((with_reducible apply st_lenMap); (first | exact rfl | assumption); (first | assumption | ((repeat (with_reducible refine hget_ne (by omega) ?_)); first | assumption | (refine hget_eq (by first | omega | (simp only [List.length_set, List.length_append, vdead_len]; omega))))))
        | ((with_reducible apply st_lenStr); (first | exact rfl | assumption))
        | ((with_reducible apply st_ptrNil); (first | exact rfl | assumption); (first | exact rfl | assumption); (first | assumption | ((repeat (with_reducible refine hget_ne (by omega) ?_)); first | assumption | (refine hget_eq (by first | omega | (simp only [List.length_set, List.length_append, vdead_len]; omega))))))
        | ((with_reducible apply st_newRow); (first | assumption | ((repeat (with_reducible refine hraw_ne (by omega) ?_)); first | assumption | exact hraw_dead (by decide) | (refine hraw_eq (by first | omega | (simp only [List.length_set, List.length_append, vdead_len]; omega))))))
        | ((with_reducible apply st_alloc); (first | assumption | ((repeat (with_reducible refine hraw_ne (by omega) ?_)); first | assumption | exact hraw_dead (by decide) | (refine hraw_eq (by first | omega | (simp only [List.length_set, List.length_append, vdead_len]; omega))))))
        | ((with_reducible apply st_makeMap); (first | assumption | ((repeat (with_reducible refine hraw_ne (by omega) ?_)); first | assumption | exact hraw_dead (by decide) | (refine hraw_eq (by first | omega | (simp only [List.length_set, List.length_append, vdead_len]; omega))))))
        | ((with_reducible apply st_build); exact rfl)
        | ((with_reducible apply st_box); exact rfl; (first | assumption | ((repeat (with_reducible refine hraw_ne (by omega) ?_)); first | assumption | exact hraw_dead (by decide) | (refine hraw_eq (by first | omega | (simp only [List.length_set, List.length_append, vdead_len]; omega))))))
        | ((with_reducible apply st_buildSlice); exact rfl; (first | assumption | ((repeat (with_reducible refine hraw_ne (by omega) ?_)); first | assumption | exact hraw_dead (by decide) | (refine hraw_eq (by first | omega | (simp only [List.length_set, List.length_append, vdead_len]; omega))))))
        | ((with_reducible apply st_store); (first | exact rfl | assumption); exact rfl; exact rfl; (first | assumption | ((repeat (with_reducible refine hget_ne (by omega) ?_)); first | assumption | (refine hget_eq (by first | omega | (simp only [List.length_set, List.length_append, vdead_len]; omega))))); exact (by decide))))
  apply st_callP (vs := [.ptr bid 1 0, .str [98], .int .i64 1]) rfl rfl
  refine tStart t2 (by omega) fun σ3 k3 t3 => ?_
  have hM : (if startR [98] 1 (if startR [97] 2 [] = 0 then mput [97] 2 [] else []) = 0 then mput [98] 1 (if startR [97] 2 [] = 0 then mput [97] 2 [] else []) else (if startR [97] 2 [] = 0 then mput [97] 2 [] else [])) = [([98], 1), ([97], 2)] := by decide
  rw [hM] at t3
  have r1 : startR [97] 2 [] = 0 := by decide
  have r2 : startR [98] 1 (if startR [97] 2 [] = 0 then mput [97] 2 [] else []) = 0 := by decide
  rw [r2]
  rw [r1]
  (repeat (first
        | ((with_reducible apply st_movG); (first | exact (rfl : _ = PV.int _ _) | exact (rfl : _ = PV.bool _) | exact (rfl : _ = PV.ptr _ _ _) | exact (rfl : _ = PV.str _) | exact (rfl : _ = PV.row _ _) | exact (rfl : _ = PV.map _ _) | exact (rfl : _ = PV.sl _) | exact (rfl : _ = PV.tup _) | exact (rfl : _ = PV.agg _) | exact (rfl : _ = PV.iter _ _) | exact (rfl : _ = PV.rptr _ _ _ _) | exact (rfl : _ = PV.iptr _ _) | assumption | exact rfl))
        | ((with_reducible apply st_guardT); (first | exact rfl | assumption))
        | ((with_reducible apply st_guardF); (first | exact rfl | assumption))
        | ((with_reducible apply st_guardN); (first | exact rfl | assumption))
        | ((with_reducible apply st_loadP); (first | exact rfl | assumption); (first | assumption | ((repeat (with_reducible refine hget_ne (by omega) ?_)); first | assumption | (refine hget_eq (by first | omega | (simp only [List.length_set, List.length_append, vdead_len]; omega))))); exact rfl)
        | ((with_reducible apply st_loadI); (first | exact rfl | assumption); exact rfl)
        | ((with_reducible apply st_loadR); (first | exact rfl | assumption); (first | assumption | ((repeat (with_reducible refine hget_ne (by omega) ?_)); first | assumption | (refine hget_eq (by first | omega | (simp only [List.length_set, List.length_append, vdead_len]; omega))))); (first | exact rfl | assumption); exact rfl)
        | ((with_reducible apply st_nilP); (first | exact rfl | assumption); (first | assumption | ((repeat (with_reducible refine hget_ne (by omega) ?_)); first | assumption | (refine hget_eq (by first | omega | (simp only [List.length_set, List.length_append, vdead_len]; omega))))))
        | ((with_reducible apply st_nilR); (first | exact rfl | assumption); (first | assumption | ((repeat (with_reducible refine hget_ne (by omega) ?_)); first | assumption | (refine hget_eq (by first | omega | (simp only [List.length_set, List.length_append, vdead_len]; omega))))))
        | ((with_reducible apply st_nilI); (first | exact rfl | assumption))
        | ((with_reducible apply st_fieldP); (first | exact rfl | assumption); (first | assumption | ((repeat (with_reducible refine hget_ne (by omega) ?_)); first | assumption | (refine hget_eq (by first | omega | (simp only [List.length_set, List.length_append, vdead_len]; omega))))))
        | ((with_reducible apply st_fieldI); (first | exact rfl | assumption))
        | ((with_reducible apply st_fieldR); (first | exact rfl | assumption); (first | assumption | ((repeat (with_reducible refine hget_ne (by omega) ?_)); first | assumption | (refine hget_eq (by first | omega | (simp only [List.length_set, List.length_append, vdead_len]; omega))))))
        | ((with_reducible apply st_bin); (first | exact rfl | assumption); (first | exact rfl | assumption); first | assumption | exact i_add (by omega) (by omega) | exact i_sub (by omega) (by omega) | exact i_lssT (by omega) | exact i_lssF (by omega) | exact i_geqT (by omega) | exact i_geqF (by omega) | exact i_eqlT (by omega) | exact i_eqlF (by omega) | exact i_neqT (by omega) | exact i_neqF (by omega) | exact i_gtrT (by omega) | exact i_gtrF (by omega) | exact i_leqT (by omega) | exact i_leqF (by omega) | exact rfl)
        | ((with_reducible apply st_binS); (first | exact rfl | assumption); (first | exact rfl | assumption); exact rfl)
        | ((with_reducible apply st_eqB); (first | exact rfl | assumption); (first | exact rfl | assumption))
        | ((with_reducible apply st_neB); (first | exact rfl | assumption); (first | exact rfl | assumption))
        | ((with_reducible apply st_pickT); (first | exact rfl | assumption))
        | ((with_reducible apply st_pickF); (first | exact rfl | assumption))
        | ((with_reducible apply st_extract); (first | exact rfl | assumption); exact rfl)
        | ((with_reducible apply st_not); (first | exact rfl | assumption))
        | ((with_reducible apply st_lenR); (first | exact rfl | assumption); (first | assumption | ((repeat (with_reducible refine hget_ne (by omega) ?_)); first | assumption | (refine hget_eq (by first | omega | (simp only [List.length_set, List.length_append, vdead_len]; omega))))))
        | ((with_reducible apply st_lenS); (first | exact rfl | assumption))
        | with_reducible apply st_end
        | with_reducible apply sc_seq
        | with_reducible apply sc_region
        | with_reducible apply sq_thenN
        | with_reducible apply sc_block
        | with_reducible apply sc_skip
        | with_reducible apply sc_ret
        | with_reducible apply sc_exit
        | with_reducible apply sq_thenR
        | with_reducible apply sq_thenX
        | with_reducible apply sq_blockN
        | with_reducible apply sq_blockR
        | with_reducible apply sq_blockX
        | ((with_reducible apply sc_condT); (first | exact rfl | assumption))
        | ((with_reducible apply sc_condF); (first | exact rfl | assumption))
        | ((with_reducible apply sq_blockY); decide)
        | ((with_reducible apply st_neg); (first | exact rfl | assumption))
        | ((with_reducible apply st_lenMap); (first | exact rfl | assumption); (first | assumption | ((repeat (with_reducible refine hget_ne (by omega) ?_)); first | assumption | (refine hget_eq (by first | omega | (simp only [List.length_set, List.length_append, vdead_len]; omega))))))
        | ((with_reducible apply st_lenStr); (first | exact rfl | assumption))
        | ((with_reducible apply st_ptrNil); (first | exact rfl | assumption); (first | exact rfl | assumption); (first | assumption | ((repeat (with_reducible refine hget_ne (by omega) ?_)); first | assumption | (refine hget_eq (by first | omega | (simp only [List.length_set, List.length_append, vdead_len]; omega))))))
        | ((with_reducible apply st_newRow); (first | assumption | ((repeat (with_reducible refine hraw_ne (by omega) ?_)); first | assumption | exact hraw_dead (by decide) | (refine hraw_eq (by first | omega | (simp only [List.length_set, List.length_append, vdead_len]; omega))))))
        | ((with_reducible apply st_alloc); (first | assumption | ((repeat (with_reducible refine hraw_ne (by omega) ?_)); first | assumption | exact hraw_dead (by decide) | (refine hraw_eq (by first | omega | (simp only [List.length_set, List.length_append, vdead_len]; omega))))))
        | ((with_reducible apply st_makeMap); (first | assumption | ((repeat (with_reducible refine hraw_ne (by omega) ?_)); first | assumption | exact hraw_dead (by decide) | (refine hraw_eq (by first | omega | (simp only [List.length_set, List.length_append, vdead_len]; omega))))))
        | ((with_reducible apply st_build); exact rfl)
        | ((with_reducible apply st_box); exact rfl; (first | assumption | ((repeat (with_reducible refine hraw_ne (by omega) ?_)); first | assumption | exact hraw_dead (by decide) | (refine hraw_eq (by first | omega | (simp only [List.length_set, List.length_append, vdead_len]; omega))))))
        | ((with_reducible apply st_buildSlice); exact rfl; (first | assumption | ((repeat (with_reducible refine hraw_ne (by omega) ?_)); first | assumption | exact hraw_dead (by decide) | (refine hraw_eq (by first | omega | (simp only [List.length_set, List.length_append, vdead_len]; omega))))))
        | ((with_reducible apply st_store); (first | exact rfl | assumption); exact rfl; exact rfl; (first | assumption | ((repeat (with_reducible refine hget_ne (by omega) ?_)); first | assumption | (refine hget_eq (by first | omega | (simp only [List.length_set, List.length_append, vdead_len]; omega))))); exact (by decide))))
  apply st_callP (vs := [.ptr bid 1 0]) rfl rfl
  refine tNext t3 fun σ4 n is k4 hn => ?_
  have hn1 := hn.2 (by simp)
  obtain ⟨his, ⟨e, he, hen⟩, hmin⟩ := hn1
  have h1 := hmin ([98], 1) (by simp)
  have hn2 : n = 1 := by
    simp at he
    rcases he with rfl | rfl
    · exact hen.symm
    · simp only at hen h1; omega
  subst hn2 his
  have t4 := t3.keep k4
  (repeat (first
        | ((with_reducible apply st_movG); (first | exact (rfl : _ = PV.int _ _) | exact (rfl : _ = PV.bool _) | exact (rfl : _ = PV.ptr _ _ _) | exact (rfl : _ = PV.str _) | exact (rfl : _ = PV.row _ _) | exact (rfl : _ = PV.map _ _) | exact (rfl : _ = PV.sl _) | exact (rfl : _ = PV.tup _) | exact (rfl : _ = PV.agg _) | exact (rfl : _ = PV.iter _ _) | exact (rfl : _ = PV.rptr _ _ _ _) | exact (rfl : _ = PV.iptr _ _) | assumption | exact rfl))
        | ((with_reducible apply st_guardT); (first | exact rfl | assumption))
        | ((with_reducible apply st_guardF); (first | exact rfl | assumption))
        | ((with_reducible apply st_guardN); (first | exact rfl | assumption))
        | ((with_reducible apply st_loadP); (first | exact rfl | assumption); (first | assumption | ((repeat (with_reducible refine hget_ne (by omega) ?_)); first | assumption | (refine hget_eq (by first | omega | (simp only [List.length_set, List.length_append, vdead_len]; omega))))); exact rfl)
        | ((with_reducible apply st_loadI); (first | exact rfl | assumption); exact rfl)
        | ((with_reducible apply st_loadR); (first | exact rfl | assumption); (first | assumption | ((repeat (with_reducible refine hget_ne (by omega) ?_)); first | assumption | (refine hget_eq (by first | omega | (simp only [List.length_set, List.length_append, vdead_len]; omega))))); (first | exact rfl | assumption); exact rfl)
        | ((with_reducible apply st_nilP); (first | exact rfl | assumption); (first | assumption | ((repeat (with_reducible refine hget_ne (by omega) ?_)); first | assumption | (refine hget_eq (by first | omega | (simp only [List.length_set, List.length_append, vdead_len]; omega))))))
        | ((with_reducible apply st_nilR); (first | exact rfl | assumption); (first | assumption | ((repeat (with_reducible refine hget_ne (by omega) ?_)); first | assumption | (refine hget_eq (by first | omega | (simp only [List.length_set, List.length_append, vdead_len]; omega))))))
        | ((with_reducible apply st_nilI); (first | exact rfl | assumption))
        | ((with_reducible apply st_fieldP); (first | exact rfl | assumption); (first | assumption | ((repeat (with_reducible refine hget_ne (by omega) ?_)); first | assumption | (refine hget_eq (by first | omega | (simp only [List.length_set, List.length_append, vdead_len]; omega))))))
        | ((with_reducible apply st_fieldI); (first | exact rfl | assumption))
        | ((with_reducible apply st_fieldR); (first | exact rfl | assumption); (first | assumption | ((repeat (with_reducible refine hget_ne (by omega) ?_)); first | assumption | (refine hget_eq (by first | omega | (simp only [List.length_set, List.length_append, vdead_len]; omega))))))
        | ((with_reducible apply st_bin); (first | exact rfl | assumption); (first | exact rfl | assumption); first | assumption | exact i_add (by omega) (by omega) | exact i_sub (by omega) (by omega) | exact i_lssT (by omega) | exact i_lssF (by omega) | exact i_geqT (by omega) | exact i_geqF (by omega) | exact i_eqlT (by omega) | exact i_eqlF (by omega) | exact i_neqT (by omega) | exact i_neqF (by omega) | exact i_gtrT (by omega) | exact i_gtrF (by omega) | exact i_leqT (by omega) | exact i_leqF (by omega) | exact rfl)
        | ((with_reducible apply st_binS); (first | exact rfl | assumption); (first | exact rfl | assumption); exact rfl)
        | ((with_reducible apply st_eqB); (first | exact rfl | assumption); (first | exact rfl | assumption))
        | ((with_reducible apply st_neB); (first | exact rfl | assumption); (first | exact rfl | assumption))
        | ((with_reducible apply st_pickT); (first | exact rfl | assumption))
        | ((with_reducible apply st_pickF); (first | exact rfl | assumption))
        | ((with_reducible apply st_extract); (first | exact rfl | assumption); exact rfl)
        | ((with_reducible apply st_not); (first | exact rfl | assumption))
        | ((with_reducible apply st_lenR); (first | exact rfl | assumption); (first | assumption | ((repeat (with_reducible refine hget_ne (by omega) ?_)); first | assumption | (refine hget_eq (by first | omega | (simp only [List.length_set, List.length_append, vdead_len]; omega))))))
        | ((with_reducible apply st_lenS); (first | exact rfl | assumption))
        | with_reducible apply st_end
        | with_reducible apply sc_seq
        | with_reducible apply sc_region
        | with_reducible apply sq_thenN
        | with_reducible apply sc_block
        | with_reducible apply sc_skip
        | with_reducible apply sc_ret
        | with_reducible apply sc_exit
        | with_reducible apply sq_thenR
        | with_reducible apply sq_thenX
        | with_reducible apply sq_blockN
        | with_reducible apply sq_blockR
        | with_reducible apply sq_blockX
        | ((with_reducible apply sc_condT); (first | exact rfl | assumption))
        | ((with_reducible apply sc_condF); (first | exact rfl | assumption))
        | ((with_reducible apply sq_blockY); decide)
        | ((with_reducible apply st_neg); (first | exact rfl | assumption))
        | ((with_reducible apply st_lenMap); (first | exact rfl | assumption); (first | assumption | ((repeat (with_reducible refine hget_ne (by omega) ?_)); first | assumption | (refine hget_eq (by first | omega | (simp only [List.length_set, List.length_append, vdead_len]; omega))))))
        | ((with_reducible apply st_lenStr); (first | exact rfl | assumption))
        | ((with_reducible apply st_ptrNil); (first | exact rfl | assumption); (first | exact rfl | assumption); (first | assumption | ((repeat (with_reducible refine hget_ne (by omega) ?_)); first | assumption | (refine hget_eq (by first | omega | (simp only [List.length_set, List.length_append, vdead_len]; omega))))))
        | ((with_reducible apply st_newRow); (first | assumption | ((repeat (with_reducible refine hraw_ne (by omega) ?_)); first | assumption | exact hraw_dead (by decide) | (refine hraw_eq (by first | omega | (simp only [List.length_set, List.length_append, vdead_len]; omega))))))
        | ((with_reducible apply st_alloc); (first | assumption | ((repeat (with_reducible refine hraw_ne (by omega) ?_)); first | assumption | exact hraw_dead (by decide) | (refine hraw_eq (by first | omega | (simp only [List.length_set, List.length_append, vdead_len]; omega))))))
        | ((with_reducible apply st_makeMap); (first | assumption | ((repeat (with_reducible refine hraw_ne (by omega) ?_)); first | assumption | exact hraw_dead (by decide) | (refine hraw_eq (by first | omega | (simp only [List.length_set, List.length_append, vdead_len]; omega))))))
        | ((with_reducible apply st_build); exact rfl)
        | ((with_reducible apply st_box); exact rfl; (first | assumption | ((repeat (with_reducible refine hraw_ne (by omega) ?_)); first | assumption | exact hraw_dead (by decide) | (refine hraw_eq (by first | omega | (simp only [List.length_set, List.length_append, vdead_len]; omega))))))
        | ((with_reducible apply st_buildSlice); exact rfl; (first | assumption | ((repeat (with_reducible refine hraw_ne (by omega) ?_)); first | assumption | exact hraw_dead (by decide) | (refine hraw_eq (by first | omega | (simp only [List.length_set, List.length_append, vdead_len]; omega))))))
        | ((with_reducible apply st_store); (first | exact rfl | assumption); exact rfl; exact rfl; (first | assumption | ((repeat (with_reducible refine hget_ne (by omega) ?_)); first | assumption | (refine hget_eq (by first | omega | (simp only [List.length_set, List.length_append, vdead_len]; omega))))); exact (by decide))))
  apply st_callP (vs := [.ptr bid 1 0]) rfl rfl
  refine tTick t4 (by simp) fun σ5 ss k5 t5 hss => ?_
  have hss2 : ss = [[98]] := perm_one hss
  subst hss2
  rw [sort_one]
  have hM5 : mtick [([98], 1), ([97], 2)] = [([97], 1)] := by decide
  rw [hM5] at t5
  (repeat (first
        | ((with_reducible apply st_movG); (first | exact (rfl : _ = PV.int _ _) | exact (rfl : _ = PV.bool _) | exact (rfl : _ = PV.ptr _ _ _) | exact (rfl : _ = PV.str _) | exact (rfl : _ = PV.row _ _) | exact (rfl : _ = PV.map _ _) | exact (rfl : _ = PV.sl _) | exact (rfl : _ = PV.tup _) | exact (rfl : _ = PV.agg _) | exact (rfl : _ = PV.iter _ _) | exact (rfl : _ = PV.rptr _ _ _ _) | exact (rfl : _ = PV.iptr _ _) | assumption | exact rfl))
        | ((with_reducible apply st_guardT); (first | exact rfl | assumption))
        | ((with_reducible apply st_guardF); (first | exact rfl | assumption))
        | ((with_reducible apply st_guardN); (first | exact rfl | assumption))
        | ((with_reducible apply st_loadP); (first | exact rfl | assumption); (first | assumption | ((repeat (with_reducible refine hget_ne (by omega) ?_)); first | assumption | (refine hget_eq (by first | omega | (simp only [List.length_set, List.length_append, vdead_len]; omega))))); exact rfl)
        | ((with_reducible apply st_loadI); (first | exact rfl | assumption); exact rfl)
        | ((with_reducible apply st_loadR); (first | exact rfl | assumption); (first | assumption | ((repeat (with_reducible refine hget_ne (by omega) ?_)); first | assumption | (refine hget_eq (by first | omega | (simp only [List.length_set, List.length_append, vdead_len]; omega))))); (first | exact rfl | assumption); exact rfl)
        | ((with_reducible apply st_nilP); (first | exact rfl | assumption); (first | assumption | ((repeat (with_reducible refine hget_ne (by omega) ?_)); first | assumption | (refine hget_eq (by first | omega | (simp only [List.length_set, List.length_append, vdead_len]; omega))))))
        | ((with_reducible apply st_nilR); (first | exact rfl | assumption); (first | assumption | ((repeat (with_reducible refine hget_ne (by omega) ?_)); first | assumption | (refine hget_eq (by first | omega | (simp only [List.length_set, List.length_append, vdead_len]; omega))))))
        | ((with_reducible apply st_nilI); (first | exact rfl | assumption))
        | ((with_reducible apply st_fieldP); (first | exact rfl | assumption); (first | assumption | ((repeat (with_reducible refine hget_ne (by omega) ?_)); first | assumption | (refine hget_eq (by first | omega | (simp only [List.length_set, List.length_append, vdead_len]; omega))))))
        | ((with_reducible apply st_fieldI); (first | exact rfl | assumption))
        | ((with_reducible apply st_fieldR); (first | exact rfl | assumption); (first | assumption | ((repeat (with_reducible refine hget_ne (by omega) ?_)); first | assumption | (refine hget_eq (by first | omega | (simp only [List.length_set, List.length_append, vdead_len]; omega))))))
        | ((with_reducible apply st_bin); (first | exact rfl | assumption); (first | exact rfl | assumption); first | assumption | exact i_add (by omega) (by omega) | exact i_sub (by omega) (by omega) | exact i_lssT (by omega) | exact i_lssF (by omega) | exact i_geqT (by omega) | exact i_geqF (by omega) | exact i_eqlT (by omega) | exact i_eqlF (by omega) | exact i_neqT (by omega) | exact i_neqF (by omega) | exact i_gtrT (by omega) | exact i_gtrF (by omega) | exact i_leqT (by omega) | exact i_leqF (by omega) | exact rfl)
        | ((with_reducible apply st_binS); (first | exact rfl | assumption); (first | exact rfl | assumption); exact rfl)
        | ((with_reducible apply st_eqB); (first | exact rfl | assumption); (first | exact rfl | assumption))
        | ((with_reducible apply st_neB); (first | exact rfl | assumption); (first | exact rfl | assumption))
        | ((with_reducible apply st_pickT); (first | exact rfl | assumption))
        | ((with_reducible apply st_pickF); (first | exact rfl | assumption))
        | ((with_reducible apply st_extract); (first | exact rfl | assumption); exact rfl)
        | ((with_reducible apply st_not); (first | exact rfl | assumption))
        | ((with_reducible apply st_lenR); (first | exact rfl | assumption); (first | assumption | ((repeat (with_reducible refine hget_ne (by omega) ?_)); first | assumption | (refine hget_eq (by first | omega | (simp only [List.length_set, List.length_append, vdead_len]; omega))))))
        | ((with_reducible apply st_lenS); (first | exact rfl | assumption))
        | with_reducible apply st_end
        | with_reducible apply sc_seq
        | with_reducible apply sc_region
        | with_reducible apply sq_thenN
        | with_reducible apply sc_block
        | with_reducible apply sc_skip
        | with_reducible apply sc_ret
        | with_reducible apply sc_exit
        | with_reducible apply sq_thenR
        | with_reducible apply sq_thenX
        | with_reducible apply sq_blockN
        | with_reducible apply sq_blockR
        | with_reducible apply sq_blockX
        | ((with_reducible apply sc_condT); (first | exact rfl | assumption))
        | ((with_reducible apply sc_condF); (first | exact rfl | assumption))
        | ((with_reducible apply sq_blockY); decide)
        | ((with_reducible apply st_neg); (first | exact rfl | assumption))
        | ((with_reducible apply st_lenMap); (first | exact rfl | assumption); (first | assumption | ((repeat (with_reducible refine hget_ne (by omega) ?_)); first | assumption | (refine hget_eq (by first | omega | (simp only [List.length_set, List.length_append, vdead_len]; omega))))))
        | ((with_reducible apply st_lenStr); (first | exact rfl | assumption))
        | ((with_reducible apply st_ptrNil); (first | exact rfl | assumption); (first | exact rfl | assumption); (first | assumption | ((repeat (with_reducible refine hget_ne (by omega) ?_)); first | assumption | (refine hget_eq (by first | omega | (simp only [List.length_set, List.length_append, vdead_len]; omega))))))
        | ((with_reducible apply st_newRow); (first | assumption | ((repeat (with_reducible refine hraw_ne (by omega) ?_)); first | assumption | exact hraw_dead (by decide) | (refine hraw_eq (by first | omega | (simp only [List.length_set, List.length_append, vdead_len]; omega))))))
        | ((with_reducible apply st_alloc); (first | assumption | ((repeat (with_reducible refine hraw_ne (by omega) ?_)); first | assumption | exact hraw_dead (by decide) | (refine hraw_eq (by first | omega | (simp only [List.length_set, List.length_append, vdead_len]; omega))))))
        | ((with_reducible apply st_makeMap); (first | assumption | ((repeat (with_reducible refine hraw_ne (by omega) ?_)); first | assumption | exact hraw_dead (by decide) | (refine hraw_eq (by first | omega | (simp only [List.length_set, List.length_append, vdead_len]; omega))))))
        | ((with_reducible apply st_build); exact rfl)
        | ((with_reducible apply st_box); exact rfl; (first | assumption | ((repeat (with_reducible refine hraw_ne (by omega) ?_)); first | assumption | exact hraw_dead (by decide) | (refine hraw_eq (by first | omega | (simp only [List.length_set, List.length_append, vdead_len]; omega))))))
        | ((with_reducible apply st_buildSlice); exact rfl; (first | assumption | ((repeat (with_reducible refine hraw_ne (by omega) ?_)); first | assumption | exact hraw_dead (by decide) | (refine hraw_eq (by first | omega | (simp only [List.length_set, List.length_append, vdead_len]; omega))))))
        | ((with_reducible apply st_store); (first | exact rfl | assumption); exact rfl; exact rfl; (first | assumption | ((repeat (with_reducible refine hget_ne (by omega) ?_)); first | assumption | (refine hget_eq (by first | omega | (simp only [List.length_set, List.length_append, vdead_len]; omega))))); exact (by decide))))
  apply st_callP (vs := [.ptr bid 1 0, .str [97]]) rfl rfl
  refine tLeft t5 fun σ6 k6 => ?_
  have hg : mget [97] [([97], 1)] = some 1 := by decide
  rw [hg]
  have t6 := t5.keep k6
  (repeat (first
        | ((with_reducible apply st_movG); (first | exact (rfl : _ = PV.int _ _) | exact (rfl : _ = PV.bool _) | exact (rfl : _ = PV.ptr _ _ _) | exact (rfl : _ = PV.str _) | exact (rfl : _ = PV.row _ _) | exact (rfl : _ = PV.map _ _) | exact (rfl : _ = PV.sl _) | exact (rfl : _ = PV.tup _) | exact (rfl : _ = PV.agg _) | exact (rfl : _ = PV.iter _ _) | exact (rfl : _ = PV.rptr _ _ _ _) | exact (rfl : _ = PV.iptr _ _) | assumption | exact rfl))
        | ((with_reducible apply st_guardT); (first | exact rfl | assumption))
        | ((with_reducible apply st_guardF); (first | exact rfl | assumption))
        | ((with_reducible apply st_guardN); (first | exact rfl | assumption))
        | ((with_reducible apply st_loadP); (first | exact rfl | assumption); (first | assumption | ((repeat (with_reducible refine hget_ne (by omega) ?_)); first | assumption | (refine hget_eq (by first | omega | (simp only [List.length_set, List.length_append, vdead_len]; omega))))); exact rfl)
        | ((with_reducible apply st_loadI); (first | exact rfl | assumption); exact rfl)
        | ((with_reducible apply st_loadR); (first | exact rfl | assumption); (first | assumption | ((repeat (with_reducible refine hget_ne (by omega) ?_)); first | assumption | (refine hget_eq (by first | omega | (simp only [List.length_set, List.length_append, vdead_len]; omega))))); (first | exact rfl | assumption); exact rfl)
        | ((with_reducible apply st_nilP); (first | exact rfl | assumption); (first | assumption | ((repeat (with_reducible refine hget_ne (by omega) ?_)); first | assumption | (refine hget_eq (by first | omega | (simp only [List.length_set, List.length_append, vdead_len]; omega))))))
        | ((with_reducible apply st_nilR); (first | exact rfl | assumption); (first | assumption | ((repeat (with_reducible refine hget_ne (by omega) ?_)); first | assumption | (refine hget_eq (by first | omega | (simp only [List.length_set, List.length_append, vdead_len]; omega))))))
        | ((with_reducible apply st_nilI); (first | exact rfl | assumption))
        | ((with_reducible apply st_fieldP); (first | exact rfl | assumption); (first | assumption | ((repeat (with_reducible refine hget_ne (by omega) ?_)); first | assumption | (refine hget_eq (by first | omega | (simp only [List.length_set, List.length_append, vdead_len]; omega))))))
        | ((with_reducible apply st_fieldI); (first | exact rfl | assumption))
        | ((with_reducible apply st_fieldR); (first | exact rfl | assumption); (first | assumption | ((repeat (with_reducible refine hget_ne (by omega) ?_)); first | assumption | (refine hget_eq (by first | omega | (simp only [List.length_set, List.length_append, vdead_len]; omega))))))
        | ((with_reducible apply st_bin); (first | exact rfl | assumption); (first | exact rfl | assumption); first | assumption | exact i_add (by omega) (by omega) | exact i_sub (by omega) (by omega) | exact i_lssT (by omega) | exact i_lssF (by omega) | exact i_geqT (by omega) | exact i_geqF (by omega) | exact i_eqlT (by omega) | exact i_eqlF (by omega) | exact i_neqT (by omega) | exact i_neqF (by omega) | exact i_gtrT (by omega) | exact i_gtrF (by omega) | exact i_leqT (by omega) | exact i_leqF (by omega) | exact rfl)
        | ((with_reducible apply st_binS); (first | exact rfl | assumption); (first | exact rfl | assumption); exact rfl)
        | ((with_reducible apply st_eqB); (first | exact rfl | assumption); (first | exact rfl | assumption))
        | ((with_reducible apply st_neB); (first | exact rfl | assumption); (first | exact rfl | assumption))
        | ((with_reducible apply st_pickT); (first | exact rfl | assumption))
        | ((with_reducible apply st_pickF); (first | exact rfl | assumption))
        | ((with_reducible apply st_extract); (first | exact rfl | assumption); exact rfl)
        | ((with_reducible apply st_not); (first | exact rfl | assumption))
        | ((with_reducible apply st_lenR); (first | exact rfl | assumption); (first | assumption | ((repeat (with_reducible refine hget_ne (by omega) ?_)); first | assumption | (refine hget_eq (by first | omega | (simp only [List.length_set, List.length_append, vdead_len]; omega))))))
        | ((with_reducible apply st_lenS); (first | exact rfl | assumption))
        | with_reducible apply st_end
        | with_reducible apply sc_seq
        | with_reducible apply sc_region
        | with_reducible apply sq_thenN
        | with_reducible apply sc_block
        | with_reducible apply sc_skip
        | with_reducible apply sc_ret
        | with_reducible apply sc_exit
        | with_reducible apply sq_thenR
        | with_reducible apply sq_thenX
        | with_reducible apply sq_blockN
        | with_reducible apply sq_blockR
        | with_reducible apply sq_blockX
        | ((with_reducible apply sc_condT); (first | exact rfl | assumption))
        | ((with_reducible apply sc_condF); (first | exact rfl | assumption))
        | ((with_reducible apply sq_blockY); decide)
        | ((with_reducible apply st_neg); (first | exact rfl | assumption))
        | ((with_reducible apply st_lenMap); (first | exact rfl | assumption); (first | assumption | ((repeat (with_reducible refine hget_ne (by omega) ?_)); first | assumption | (refine hget_eq (by first | omega | (simp only [List.length_set, List.length_append, vdead_len]; omega))))))
        | ((with_reducible apply st_lenStr); (first | exact rfl | assumption))
        | ((with_reducible apply st_ptrNil); (first | exact rfl | assumption); (first | exact rfl | assumption); (first | assumption | ((repeat (with_reducible refine hget_ne (by omega) ?_)); first | assumption | (refine hget_eq (by first | omega | (simp only [List.length_set, List.length_append, vdead_len]; omega))))))
        | ((with_reducible apply st_newRow); (first | assumption | ((repeat (with_reducible refine hraw_ne (by omega) ?_)); first | assumption | exact hraw_dead (by decide) | (refine hraw_eq (by first | omega | (simp only [List.length_set, List.length_append, vdead_len]; omega))))))
        | ((with_reducible apply st_alloc); (first | assumption | ((repeat (with_reducible refine hraw_ne (by omega) ?_)); first | assumption | exact hraw_dead (by decide) | (refine hraw_eq (by first | omega | (simp only [List.length_set, List.length_append, vdead_len]; omega))))))
        | ((with_reducible apply st_makeMap); (first | assumption | ((repeat (with_reducible refine hraw_ne (by omega) ?_)); first | assumption | exact hraw_dead (by decide) | (refine hraw_eq (by first | omega | (simp only [List.length_set, List.length_append, vdead_len]; omega))))))
        | ((with_reducible apply st_build); exact rfl)
        | ((with_reducible apply st_box); exact rfl; (first | assumption | ((repeat (with_reducible refine hraw_ne (by omega) ?_)); first | assumption | exact hraw_dead (by decide) | (refine hraw_eq (by first | omega | (simp only [List.length_set, List.length_append, vdead_len]; omega))))))
        | ((with_reducible apply st_buildSlice); exact rfl; (first | assumption | ((repeat (with_reducible refine hraw_ne (by omega) ?_)); first | assumption | exact hraw_dead (by decide) | (refine hraw_eq (by first | omega | (simp only [List.length_set, List.length_append, vdead_len]; omega))))))
        | ((with_reducible apply st_store); (first | exact rfl | assumption); exact rfl; exact rfl; (first | assumption | ((repeat (with_reducible refine hget_ne (by omega) ?_)); first | assumption | (refine hget_eq (by first | omega | (simp only [List.length_set, List.length_append, vdead_len]; omega))))); exact (by decide))))
  apply st_callP (vs := [.ptr bid 1 0]) rfl rfl
  refine tTick t6 (by simp) fun σ7 ss k7 t7 hss => ?_
  have hss2 : ss = [[97]] := perm_one hss
  subst hss2
  rw [sort_one]
  (repeat (first
        | ((with_reducible apply st_movG); (first | exact (rfl : _ = PV.int _ _) | exact (rfl : _ = PV.bool _) | exact (rfl : _ = PV.ptr _ _ _) | exact (rfl : _ = PV.str _) | exact (rfl : _ = PV.row _ _) | exact (rfl : _ = PV.map _ _) | exact (rfl : _ = PV.sl _) | exact (rfl : _ = PV.tup _) | exact (rfl : _ = PV.agg _) | exact (rfl : _ = PV.iter _ _) | exact (rfl : _ = PV.rptr _ _ _ _) | exact (rfl : _ = PV.iptr _ _) | assumption | exact rfl))
        | ((with_reducible apply st_guardT); (first | exact rfl | assumption))
        | ((with_reducible apply st_guardF); (first | exact rfl | assumption))
        | ((with_reducible apply st_guardN); (first | exact rfl | assumption))
        | ((with_reducible apply st_loadP); (first | exact rfl | assumption); (first | assumption | ((repeat (with_reducible refine hget_ne (by omega) ?_)); first | assumption | (refine hget_eq (by first | omega | (simp only [List.length_set, List.length_append, vdead_len]; omega))))); exact rfl)
        | ((with_reducible apply st_loadI); (first | exact rfl | assumption); exact rfl)
        | ((with_reducible apply st_loadR); (first | exact rfl | assumption); (first | assumption | ((repeat (with_reducible refine hget_ne (by omega) ?_)); first | assumption | (refine hget_eq (by first | omega | (simp only [List.length_set, List.length_append, vdead_len]; omega))))); (first | exact rfl | assumption); exact rfl)
        | ((with_reducible apply st_nilP); (first | exact rfl | assumption); (first | assumption | ((repeat (with_reducible refine hget_ne (by omega) ?_)); first | assumption | (refine hget_eq (by first | omega | (simp only [List.length_set, List.length_append, vdead_len]; omega))))))
        | ((with_reducible apply st_nilR); (first | exact rfl | assumption); (first | assumption | ((repeat (with_reducible refine hget_ne (by omega) ?_)); first | assumption | (refine hget_eq (by first | omega | (simp only [List.length_set, List.length_append, vdead_len]; omega))))))
        | ((with_reducible apply st_nilI); (first | exact rfl | assumption))
        | ((with_reducible apply st_fieldP); (first | exact rfl | assumption); (first | assumption | ((repeat (with_reducible refine hget_ne (by omega) ?_)); first | assumption | (refine hget_eq (by first | omega | (simp only [List.length_set, List.length_append, vdead_len]; omega))))))
        | ((with_reducible apply st_fieldI); (first | exact rfl | assumption))
        | ((with_reducible apply st_fieldR); (first | exact rfl | assumption); (first | assumption | ((repeat (with_reducible refine hget_ne (by omega) ?_)); first | assumption | (refine hget_eq (by first | omega | (simp only [List.length_set, List.length_append, vdead_len]; omega))))))
        | ((with_reducible apply st_bin); (first | exact rfl | assumption); (first | exact rfl | assumption); first | assumption | exact i_add (by omega) (by omega) | exact i_sub (by omega) (by omega) | exact i_lssT (by omega) | exact i_lssF (by omega) | exact i_geqT (by omega) | exact i_geqF (by omega) | exact i_eqlT (by omega) | exact i_eqlF (by omega) | exact i_neqT (by omega) | exact i_neqF (by omega) | exact i_gtrT (by omega) | exact i_gtrF (by omega) | exact i_leqT (by omega) | exact i_leqF (by omega) | exact rfl)
        | ((with_reducible apply st_binS); (first | exact rfl | assumption); (first | exact rfl | assumption); exact rfl)
        | ((with_reducible apply st_eqB); (first | exact rfl | assumption); (first | exact rfl | assumption))
        | ((with_reducible apply st_neB); (first | exact rfl | assumption); (first | exact rfl | assumption))
        | ((with_reducible apply st_pickT); (first | exact rfl | assumption))
        | ((with_reducible apply st_pickF); (first | exact rfl | assumption))
        | ((with_reducible apply st_extract); (first | exact rfl | assumption); exact rfl)
        | ((with_reducible apply st_not); (first | exact rfl | assumption))
        | ((with_reducible apply st_lenR); (first | exact rfl | assumption); (first | assumption | ((repeat (with_reducible refine hget_ne (by omega) ?_)); first | assumption | (refine hget_eq (by first | omega | (simp only [List.length_set, List.length_append, vdead_len]; omega))))))
        | ((with_reducible apply st_lenS); (first | exact rfl | assumption))
        | with_reducible apply st_end
        | with_reducible apply sc_seq
        | with_reducible apply sc_region
        | with_reducible apply sq_thenN
        | with_reducible apply sc_block
        | with_reducible apply sc_skip
        | with_reducible apply sc_ret
        | with_reducible apply sc_exit
        | with_reducible apply sq_thenR
        | with_reducible apply sq_thenX
        | with_reducible apply sq_blockN
        | with_reducible apply sq_blockR
        | with_reducible apply sq_blockX
        | ((with_reducible apply sc_condT); (first | exact rfl | assumption))
        | ((with_reducible apply sc_condF); (first | exact rfl | assumption))
        | ((with_reducible apply sq_blockY); decide)
        | ((with_reducible apply st_neg); (first | exact rfl | assumption))
        | ((with_reducible apply st_lenMap); (first | exact rfl | assumption); (first | assumption | ((repeat (with_reducible refine hget_ne (by omega) ?_)); first | assumption | (refine hget_eq (by first | omega | (simp only [List.length_set, List.length_append, vdead_len]; omega))))))
        | ((with_reducible apply st_lenStr); (first | exact rfl | assumption))
        | ((with_reducible apply st_ptrNil); (first | exact rfl | assumption); (first | exact rfl | assumption); (first | assumption | ((repeat (with_reducible refine hget_ne (by omega) ?_)); first | assumption | (refine hget_eq (by first | omega | (simp only [List.length_set, List.length_append, vdead_len]; omega))))))
        | ((with_reducible apply st_newRow); (first | assumption | ((repeat (with_reducible refine hraw_ne (by omega) ?_)); first | assumption | exact hraw_dead (by decide) | (refine hraw_eq (by first | omega | (simp only [List.length_set, List.length_append, vdead_len]; omega))))))
        | ((with_reducible apply st_alloc); (first | assumption | ((repeat (with_reducible refine hraw_ne (by omega) ?_)); first | assumption | exact hraw_dead (by decide) | (refine hraw_eq (by first | omega | (simp only [List.length_set, List.length_append, vdead_len]; omega))))))
        | ((with_reducible apply st_makeMap); (first | assumption | ((repeat (with_reducible refine hraw_ne (by omega) ?_)); first | assumption | exact hraw_dead (by decide) | (refine hraw_eq (by first | omega | (simp only [List.length_set, List.length_append, vdead_len]; omega))))))
        | ((with_reducible apply st_build); exact rfl)
        | ((with_reducible apply st_box); exact rfl; (first | assumption | ((repeat (with_reducible refine hraw_ne (by omega) ?_)); first | assumption | exact hraw_dead (by decide) | (refine hraw_eq (by first | omega | (simp only [List.length_set, List.length_append, vdead_len]; omega))))))
        | ((with_reducible apply st_buildSlice); exact rfl; (first | assumption | ((repeat (with_reducible refine hraw_ne (by omega) ?_)); first | assumption | exact hraw_dead (by decide) | (refine hraw_eq (by first | omega | (simp only [List.length_set, List.length_append, vdead_len]; omega))))))
        | ((with_reducible apply st_store); (first | exact rfl | assumption); exact rfl; exact rfl; (first | assumption | ((repeat (with_reducible refine hget_ne (by omega) ?_)); first | assumption | (refine hget_eq (by first | omega | (simp only [List.length_set, List.length_append, vdead_len]; omega))))); exact (by decide))))
  apply st_indexS (i := 0)
  exact rfl
  exact rfl
  exact rfl
  exact rfl
  (repeat (first
        | ((with_reducible apply st_movG); (first | exact (rfl : _ = PV.int _ _) | exact (rfl : _ = PV.bool _) | exact (rfl : _ = PV.ptr _ _ _) | exact (rfl : _ = PV.str _) | exact (rfl : _ = PV.row _ _) | exact (rfl : _ = PV.map _ _) | exact (rfl : _ = PV.sl _) | exact (rfl : _ = PV.tup _) | exact (rfl : _ = PV.agg _) | exact (rfl : _ = PV.iter _ _) | exact (rfl : _ = PV.rptr _ _ _ _) | exact (rfl : _ = PV.iptr _ _) | assumption | exact rfl))
        | ((with_reducible apply st_guardT); (first | exact rfl | assumption))
        | ((with_reducible apply st_guardF); (first | exact rfl | assumption))
        | ((with_reducible apply st_guardN); (first | exact rfl | assumption))
        | ((with_reducible apply st_loadP); (first | exact rfl | assumption); (first | assumption | ((repeat (with_reducible refine hget_ne (by omega) ?_)); first | assumption | (refine hget_eq (by first | omega | (simp only [List.length_set, List.length_append, vdead_len]; omega))))); exact rfl)
        | ((with_reducible apply st_loadI); (first | exact rfl | assumption); exact rfl)
        | ((with_reducible apply st_loadR); (first | exact rfl | assumption); (first | assumption | ((repeat (with_reducible refine hget_ne (by omega) ?_)); first | assumption | (refine hget_eq (by first | omega | (simp only [List.length_set, List.length_append, vdead_len]; omega))))); (first | exact rfl | assumption); exact rfl)
        | ((with_reducible apply st_nilP); (first | exact rfl | assumption); (first | assumption | ((repeat (with_reducible refine hget_ne (by omega) ?_)); first | assumption | (refine hget_eq (by first | omega | (simp only [List.length_set, List.length_append, vdead_len]; omega))))))
        | ((with_reducible apply st_nilR); (first | exact rfl | assumption); (first | assumption | ((repeat (with_reducible refine hget_ne (by omega) ?_)); first | assumption | (refine hget_eq (by first | omega | (simp only [List.length_set, List.length_append, vdead_len]; omega))))))
        | ((with_reducible apply st_nilI); (first | exact rfl | assumption))
        | ((with_reducible apply st_fieldP); (first | exact rfl | assumption); (first | assumption | ((repeat (with_reducible refine hget_ne (by omega) ?_)); first | assumption | (refine hget_eq (by first | omega | (simp only [List.length_set, List.length_append, vdead_len]; omega))))))
        | ((with_reducible apply st_fieldI); (first | exact rfl | assumption))
        | ((with_reducible apply st_fieldR); (first | exact rfl | assumption); (first | assumption | ((repeat (with_reducible refine hget_ne (by omega) ?_)); first | assumption | (refine hget_eq (by first | omega | (simp only [List.length_set, List.length_append, vdead_len]; omega))))))
        | ((with_reducible apply st_bin); (first | exact rfl | assumption); (first | exact rfl | assumption); first | assumption | exact i_add (by omega) (by omega) | exact i_sub (by omega) (by omega) | exact i_lssT (by omega) | exact i_lssF (by omega) | exact i_geqT (by omega) | exact i_geqF (by omega) | exact i_eqlT (by omega) | exact i_eqlF (by omega) | exact i_neqT (by omega) | exact i_neqF (by omega) | exact i_gtrT (by omega) | exact i_gtrF (by omega) | exact i_leqT (by omega) | exact i_leqF (by omega) | exact rfl)
        | ((with_reducible apply st_binS); (first | exact rfl | assumption); (first | exact rfl | assumption); exact rfl)
        | ((with_reducible apply st_eqB); (first | exact rfl | assumption); (first | exact rfl | assumption))
        | ((with_reducible apply st_neB); (first | exact rfl | assumption); (first | exact rfl | assumption))
        | ((with_reducible apply st_pickT); (first | exact rfl | assumption))
        | ((with_reducible apply st_pickF); (first | exact rfl | assumption))
        | ((with_reducible apply st_extract); (first | exact rfl | assumption); exact rfl)
        | ((with_reducible apply st_not); (first | exact rfl | assumption))
        | ((with_reducible apply st_lenR); (first | exact rfl | assumption); (first | assumption | ((repeat (with_reducible refine hget_ne (by omega) ?_)); first | assumption | (refine hget_eq (by first | omega | (simp only [List.length_set, List.length_append, vdead_len]; omega))))))
        | ((with_reducible apply st_lenS); (first | exact rfl | assumption))
        | with_reducible apply st_end
        | with_reducible apply sc_seq
        | with_reducible apply sc_region
        | with_reducible apply sq_thenN
        | with_reducible apply sc_block
        | with_reducible apply sc_skip
        | with_reducible apply sc_ret
        | with_reducible apply sc_exit
        | with_reducible apply sq_thenR
        | with_reducible apply sq_thenX
        | with_reducible apply sq_blockN
        | with_reducible apply sq_blockR
        | with_reducible apply sq_blockX
        | ((with_reducible apply sc_condT); (first | exact rfl | assumption))
        | ((with_reducible apply sc_condF); (first | exact rfl | assumption))
        | ((with_reducible apply sq_blockY); decide)
        | ((with_reducible apply st_neg); (first | exact rfl | assumption))
        | ((with_reducible apply st_lenMap); (first | exact rfl | assumption); (first | assumption | ((repeat (with_reducible refine hget_ne (by omega) ?_)); first | assumption | (refine hget_eq (by first | omega | (simp only [List.length_set, List.length_append, vdead_len]; omega))))))
        | ((with_reducible apply st_lenStr); (first | exact rfl | assumption))
        | ((with_reducible apply st_ptrNil); (first | exact rfl | assumption); (first | exact rfl | assumption); (first | assumption | ((repeat (with_reducible refine hget_ne (by omega) ?_)); first | assumption | (refine hget_eq (by first | omega | (simp only [List.length_set, List.length_append, vdead_len]; omega))))))
        | ((with_reducible apply st_newRow); (first | assumption | ((repeat (with_reducible refine hraw_ne (by omega) ?_)); first | assumption | exact hraw_dead (by decide) | (refine hraw_eq (by first | omega | (simp only [List.length_set, List.length_append, vdead_len]; omega))))))
        | ((with_reducible apply st_alloc); (first | assumption | ((repeat (with_reducible refine hraw_ne (by omega) ?_)); first | assumption | exact hraw_dead (by decide) | (refine hraw_eq (by first | omega | (simp only [List.length_set, List.length_append, vdead_len]; omega))))))
        | ((with_reducible apply st_makeMap); (first | assumption | ((repeat (with_reducible refine hraw_ne (by omega) ?_)); first | assumption | exact hraw_dead (by decide) | (refine hraw_eq (by first | omega | (simp only [List.length_set, List.length_append, vdead_len]; omega))))))
        | ((with_reducible apply st_build); exact rfl)
        | ((with_reducible apply st_box); exact rfl; (first | assumption | ((repeat (with_reducible refine hraw_ne (by omega) ?_)); first | assumption | exact hraw_dead (by decide) | (refine hraw_eq (by first | omega | (simp only [List.length_set, List.length_append, vdead_len]; omega))))))
        | ((with_reducible apply st_buildSlice); exact rfl; (first | assumption | ((repeat (with_reducible refine hraw_ne (by omega) ?_)); first | assumption | exact hraw_dead (by decide) | (refine hraw_eq (by first | omega | (simp only [List.length_set, List.length_append, vdead_len]; omega))))))
        | ((with_reducible apply st_store); (first | exact rfl | assumption); exact rfl; exact rfl; (first | assumption | ((repeat (with_reducible refine hget_ne (by omega) ?_)); first | assumption | (refine hget_eq (by first | omega | (simp only [List.length_set, List.length_append, vdead_len]; omega))))); exact (by decide))))
  apply st_indexS (i := 0)
  exact rfl
  exact rfl
  exact rfl
  exact rfl
  (repeat (first
        | ((with_reducible apply st_movG); (first | exact (rfl : _ = PV.int _ _) | exact (rfl : _ = PV.bool _) | exact (rfl : _ = PV.ptr _ _ _) | exact (rfl : _ = PV.str _) | exact (rfl : _ = PV.row _ _) | exact (rfl : _ = PV.map _ _) | exact (rfl : _ = PV.sl _) | exact (rfl : _ = PV.tup _) | exact (rfl : _ = PV.agg _) | exact (rfl : _ = PV.iter _ _) | exact (rfl : _ = PV.rptr _ _ _ _) | exact (rfl : _ = PV.iptr _ _) | assumption | exact rfl))
        | ((with_reducible apply st_guardT); (first | exact rfl | assumption))
        | ((with_reducible apply st_guardF); (first | exact rfl | assumption))
        | ((with_reducible apply st_guardN); (first | exact rfl | assumption))
        | ((with_reducible apply st_loadP); (first | exact rfl | assumption); (first | assumption | ((repeat (with_reducible refine hget_ne (by omega) ?_)); first | assumption | (refine hget_eq (by first | omega | (simp only [List.length_set, List.length_append, vdead_len]; omega))))); exact rfl)
        | ((with_reducible apply st_loadI); (first | exact rfl | assumption); exact rfl)
        | ((with_reducible apply st_loadR); (first | exact rfl | assumption); (first | assumption | ((repeat (with_reducible refine hget_ne (by omega) ?_)); first | assumption | (refine hget_eq (by first | omega | (simp only [List.length_set, List.length_append, vdead_len]; omega))))); (first | exact rfl | assumption); exact rfl)
        | ((with_reducible apply st_nilP); (first | exact rfl | assumption); (first | assumption | ((repeat (with_reducible refine hget_ne (by omega) ?_)); first | assumption | (refine hget_eq (by first | omega | (simp only [List.length_set, List.length_append, vdead_len]; omega))))))
        | ((with_reducible apply st_nilR); (first | exact rfl | assumption); (first | assumption | ((repeat (with_reducible refine hget_ne (by omega) ?_)); first | assumption | (refine hget_eq (by first | omega | (simp only [List.length_set, List.length_append, vdead_len]; omega))))))
        | ((with_reducible apply st_nilI); (first | exact rfl | assumption))
        | ((with_reducible apply st_fieldP); (first | exact rfl | assumption); (first | assumption | ((repeat (with_reducible refine hget_ne (by omega) ?_)); first | assumption | (refine hget_eq (by first | omega | (simp only [List.length_set, List.length_append, vdead_len]; omega))))))
        | ((with_reducible apply st_fieldI); (first | exact rfl | assumption))
        | ((with_reducible apply st_fieldR); (first | exact rfl | assumption); (first | assumption | ((repeat (with_reducible refine hget_ne (by omega) ?_)); first | assumption | (refine hget_eq (by first | omega | (simp only [List.length_set, List.length_append, vdead_len]; omega))))))
        | ((with_reducible apply st_bin); (first | exact rfl | assumption); (first | exact rfl | assumption); first | assumption | exact i_add (by omega) (by omega) | exact i_sub (by omega) (by omega) | exact i_lssT (by omega) | exact i_lssF (by omega) | exact i_geqT (by omega) | exact i_geqF (by omega) | exact i_eqlT (by omega) | exact i_eqlF (by omega) | exact i_neqT (by omega) | exact i_neqF (by omega) | exact i_gtrT (by omega) | exact i_gtrF (by omega) | exact i_leqT (by omega) | exact i_leqF (by omega) | exact rfl)
        | ((with_reducible apply st_binS); (first | exact rfl | assumption); (first | exact rfl | assumption); exact rfl)
        | ((with_reducible apply st_eqB); (first | exact rfl | assumption); (first | exact rfl | assumption))
        | ((with_reducible apply st_neB); (first | exact rfl | assumption); (first | exact rfl | assumption))
        | ((with_reducible apply st_pickT); (first | exact rfl | assumption))
        | ((with_reducible apply st_pickF); (first | exact rfl | assumption))
        | ((with_reducible apply st_extract); (first | exact rfl | assumption); exact rfl)
        | ((with_reducible apply st_not); (first | exact rfl | assumption))
        | ((with_reducible apply st_lenR); (first | exact rfl | assumption); (first | assumption | ((repeat (with_reducible refine hget_ne (by omega) ?_)); first | assumption | (refine hget_eq (by first | omega | (simp only [List.length_set, List.length_append, vdead_len]; omega))))))
        | ((with_reducible apply st_lenS); (first | exact rfl | assumption))
        | with_reducible apply st_end
        | with_reducible apply sc_seq
        | with_reducible apply sc_region
        | with_reducible apply sq_thenN
        | with_reducible apply sc_block
        | with_reducible apply sc_skip
        | with_reducible apply sc_ret
        | with_reducible apply sc_exit
        | with_reducible apply sq_thenR
        | with_reducible apply sq_thenX
        | with_reducible apply sq_blockN
        | with_reducible apply sq_blockR
        | with_reducible apply sq_blockX
        | ((with_reducible apply sc_condT); (first | exact rfl | assumption))
        | ((with_reducible apply sc_condF); (first | exact rfl | assumption))
        | ((with_reducible apply sq_blockY); decide)
        | ((with_reducible apply st_neg); (first | exact rfl | assumption))
        | ((with_reducible apply st_lenMap); (first | exact rfl | assumption); (first | assumption | ((repeat (with_reducible refine hget_ne (by omega) ?_)); first | assumption | (refine hget_eq (by first | omega | (simp only [List.length_set, List.length_append, vdead_len]; omega))))))
        | ((with_reducible apply st_lenStr); (first | exact rfl | assumption))
        | ((with_reducible apply st_ptrNil); (first | exact rfl | assumption); (first | exact rfl | assumption); (first | assumption | ((repeat (with_reducible refine hget_ne (by omega) ?_)); first | assumption | (refine hget_eq (by first | omega | (simp only [List.length_set, List.length_append, vdead_len]; omega))))))
        | ((with_reducible apply st_newRow); (first | assumption | ((repeat (with_reducible refine hraw_ne (by omega) ?_)); first | assumption | exact hraw_dead (by decide) | (refine hraw_eq (by first | omega | (simp only [List.length_set, List.length_append, vdead_len]; omega))))))
        | ((with_reducible apply st_alloc); (first | assumption | ((repeat (with_reducible refine hraw_ne (by omega) ?_)); first | assumption | exact hraw_dead (by decide) | (refine hraw_eq (by first | omega | (simp only [List.length_set, List.length_append, vdead_len]; omega))))))
        | ((with_reducible apply st_makeMap); (first | assumption | ((repeat (with_reducible refine hraw_ne (by omega) ?_)); first | assumption | exact hraw_dead (by decide) | (refine hraw_eq (by first | omega | (simp only [List.length_set, List.length_append, vdead_len]; omega))))))
        | ((with_reducible apply st_build); exact rfl)
        | ((with_reducible apply st_box); exact rfl; (first | assumption | ((repeat (with_reducible refine hraw_ne (by omega) ?_)); first | assumption | exact hraw_dead (by decide) | (refine hraw_eq (by first | omega | (simp only [List.length_set, List.length_append, vdead_len]; omega))))))
        | ((with_reducible apply st_buildSlice); exact rfl; (first | assumption | ((repeat (with_reducible refine hraw_ne (by omega) ?_)); first | assumption | exact hraw_dead (by decide) | (refine hraw_eq (by first | omega | (simp only [List.length_set, List.length_append, vdead_len]; omega))))))
        | ((with_reducible apply st_store); (first | exact rfl | assumption); exact rfl; exact rfl; (first | assumption | ((repeat (with_reducible refine hget_ne (by omega) ?_)); first | assumption | (refine hget_eq (by first | omega | (simp only [List.length_set, List.length_append, vdead_len]; omega))))); exact (by decide))))
  apply st_callP (vs := [.ptr bid 1 0, .str [97], .int .i64 0]) rfl rfl
  refine tStart t7 (by omega) fun σ8 k8 t8 => ?_
  have r8 : startR [97] 0 (mtick [([97], 1)]) = 1 := by decide
  rw [r8]
  (repeat (first
        | ((with_reducible apply st_movG); (first | exact (rfl : _ = PV.int _ _) | exact (rfl : _ = PV.bool _) | exact (rfl : _ = PV.ptr _ _ _) | exact (rfl : _ = PV.str _) | exact (rfl : _ = PV.row _ _) | exact (rfl : _ = PV.map _ _) | exact (rfl : _ = PV.sl _) | exact (rfl : _ = PV.tup _) | exact (rfl : _ = PV.agg _) | exact (rfl : _ = PV.iter _ _) | exact (rfl : _ = PV.rptr _ _ _ _) | exact (rfl : _ = PV.iptr _ _) | assumption | exact rfl))
        | ((with_reducible apply st_guardT); (first | exact rfl | assumption))
        | ((with_reducible apply st_guardF); (first | exact rfl | assumption))
        | ((with_reducible apply st_guardN); (first | exact rfl | assumption))
        | ((with_reducible apply st_loadP); (first | exact rfl | assumption); (first | assumption | ((repeat (with_reducible refine hget_ne (by omega) ?_)); first | assumption | (refine hget_eq (by first | omega | (simp only [List.length_set, List.length_append, vdead_len]; omega))))); exact rfl)
        | ((with_reducible apply st_loadI); (first | exact rfl | assumption); exact rfl)
        | ((with_reducible apply st_loadR); (first | exact rfl | assumption); (first | assumption | ((repeat (with_reducible refine hget_ne (by omega) ?_)); first | assumption | (refine hget_eq (by first | omega | (simp only [List.length_set, List.length_append, vdead_len]; omega))))); (first | exact rfl | assumption); exact rfl)
        | ((with_reducible apply st_nilP); (first | exact rfl | assumption); (first | assumption | ((repeat (with_reducible refine hget_ne (by omega) ?_)); first | assumption | (refine hget_eq (by first | omega | (simp only [List.length_set, List.length_append, vdead_len]; omega))))))
        | ((with_reducible apply st_nilR); (first | exact rfl | assumption); (first | assumption | ((repeat (with_reducible refine hget_ne (by omega) ?_)); first | assumption | (refine hget_eq (by first | omega | (simp only [List.length_set, List.length_append, vdead_len]; omega))))))
        | ((with_reducible apply st_nilI); (first | exact rfl | assumption))
        | ((with_reducible apply st_fieldP); (first | exact rfl | assumption); (first | assumption | ((repeat (with_reducible refine hget_ne (by omega) ?_)); first | assumption | (refine hget_eq (by first | omega | (simp only [List.length_set, List.length_append, vdead_len]; omega))))))
        | ((with_reducible apply st_fieldI); (first | exact rfl | assumption))
        | ((with_reducible apply st_fieldR); (first | exact rfl | assumption); (first | assumption | ((repeat (with_reducible refine hget_ne (by omega) ?_)); first | assumption | (refine hget_eq (by first | omega | (simp only [List.length_set, List.length_append, vdead_len]; omega))))))
        | ((with_reducible apply st_bin); (first | exact rfl | assumption); (first | exact rfl | assumption); first | assumption | exact i_add (by omega) (by omega) | exact i_sub (by omega) (by omega) | exact i_lssT (by omega) | exact i_lssF (by omega) | exact i_geqT (by omega) | exact i_geqF (by omega) | exact i_eqlT (by omega) | exact i_eqlF (by omega) | exact i_neqT (by omega) | exact i_neqF (by omega) | exact i_gtrT (by omega) | exact i_gtrF (by omega) | exact i_leqT (by omega) | exact i_leqF (by omega) | exact rfl)
        | ((with_reducible apply st_binS); (first | exact rfl | assumption); (first | exact rfl | assumption); exact rfl)
        | ((with_reducible apply st_eqB); (first | exact rfl | assumption); (first | exact rfl | assumption))
        | ((with_reducible apply st_neB); (first | exact rfl | assumption); (first | exact rfl | assumption))
        | ((with_reducible apply st_pickT); (first | exact rfl | assumption))
        | ((with_reducible apply st_pickF); (first | exact rfl | assumption))
        | ((with_reducible apply st_extract); (first | exact rfl | assumption); exact rfl)
        | ((with_reducible apply st_not); (first | exact rfl | assumption))
        | ((with_reducible apply st_lenR); (first | exact rfl | assumption); (first | assumption | ((repeat (with_reducible refine hget_ne (by omega) ?_)); first | assumption | (refine hget_eq (by first | omega | (simp only [List.length_set, List.length_append, vdead_len]; omega))))))
        | ((with_reducible apply st_lenS); (first | exact rfl | assumption))
        | with_reducible apply st_end
        | with_reducible apply sc_seq
        | with_reducible apply sc_region
        | with_reducible apply sq_thenN
        | with_reducible apply sc_block
        | with_reducible apply sc_skip
        | with_reducible apply sc_ret
        | with_reducible apply sc_exit
        | with_reducible apply sq_thenR
        | with_reducible apply sq_thenX
        | with_reducible apply sq_blockN
        | with_reducible apply sq_blockR
        | with_reducible apply sq_blockX
        | ((with_reducible apply sc_condT); (first | exact rfl | assumption))
        | ((with_reducible apply sc_condF); (first | exact rfl | assumption))
        | ((with_reducible apply sq_blockY); decide)
        | ((with_reducible apply st_neg); (first | exact rfl | assumption))
        | ((with_reducible apply st_lenMap); (first | exact rfl | assumption); (first | assumption | ((repeat (with_reducible refine hget_ne (by omega) ?_)); first | assumption | (refine hget_eq (by first | omega | (simp only [List.length_set, List.length_append, vdead_len]; omega))))))
        | ((with_reducible apply st_lenStr); (first | exact rfl | assumption))
        | ((with_reducible apply st_ptrNil); (first | exact rfl | assumption); (first | exact rfl | assumption); (first | assumption | ((repeat (with_reducible refine hget_ne (by omega) ?_)); first | assumption | (refine hget_eq (by first | omega | (simp only [List.length_set, List.length_append, vdead_len]; omega))))))
        | ((with_reducible apply st_newRow); (first | assumption | ((repeat (with_reducible refine hraw_ne (by omega) ?_)); first | assumption | exact hraw_dead (by decide) | (refine hraw_eq (by first | omega | (simp only [List.length_set, List.length_append, vdead_len]; omega))))))
        | ((with_reducible apply st_alloc); (first | assumption | ((repeat (with_reducible refine hraw_ne (by omega) ?_)); first | assumption | exact hraw_dead (by decide) | (refine hraw_eq (by first | omega | (simp only [List.length_set, List.length_append, vdead_len]; omega))))))
        | ((with_reducible apply st_makeMap); (first | assumption | ((repeat (with_reducible refine hraw_ne (by omega) ?_)); first | assumption | exact hraw_dead (by decide) | (refine hraw_eq (by first | omega | (simp only [List.length_set, List.length_append, vdead_len]; omega))))))
        | ((with_reducible apply st_build); exact rfl)
        | ((with_reducible apply st_box); exact rfl; (first | assumption | ((repeat (with_reducible refine hraw_ne (by omega) ?_)); first | assumption | exact hraw_dead (by decide) | (refine hraw_eq (by first | omega | (simp only [List.length_set, List.length_append, vdead_len]; omega))))))
        | ((with_reducible apply st_buildSlice); exact rfl; (first | assumption | ((repeat (with_reducible refine hraw_ne (by omega) ?_)); first | assumption | exact hraw_dead (by decide) | (refine hraw_eq (by first | omega | (simp only [List.length_set, List.length_append, vdead_len]; omega))))))
        | ((with_reducible apply st_store); (first | exact rfl | assumption); exact rfl; exact rfl; (first | assumption | ((repeat (with_reducible refine hget_ne (by omega) ?_)); first | assumption | (refine hget_eq (by first | omega | (simp only [List.length_set, List.length_append, vdead_len]; omega))))); exact (by decide))))
  refine se_retP (v := .bool true) rfl rfl rfl (k _ ?_)
  have hml : σ.length ≤ mid := by omega
  have q1 : Keep [] σ σ1 := k1.pre
  exact keep_via (keep_via ((keep_via ((keep_via (keep_via q1 hml k2) hml k3).trans k4) hml k5).trans k6) hml k7) hml k8
end Go.Proofs.Ytdkjcadffhnjgaa
