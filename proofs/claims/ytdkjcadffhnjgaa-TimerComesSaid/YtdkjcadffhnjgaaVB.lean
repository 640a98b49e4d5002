/- The walk, laid into an automatic parameter. -/
import Derived.Test.YtdkjcadffhnjgaaV18
namespace Go.V
open Go
structure Wrap (Q : Prop) : Prop where
  q : Q
theorem Wk {P Q : Prop} (q : Q) (w : Wrap Q → P := by
  intro q
  (repeat (first
        | ((with_reducible apply st_movG); (first | exact (rfl : _ = PV.int _ _) | exact (rfl : _ = PV.bool _) | exact (rfl : _ = PV.ptr _ _ _) | exact (rfl : _ = PV.str _) | exact (rfl : _ = PV.row _ _) | exact (rfl : _ = PV.map _ _) | exact (rfl : _ = PV.sl _) | exact (rfl : _ = PV.tup _) | exact (rfl : _ = PV.agg _) | exact (rfl : _ = PV.iter _ _) | exact (rfl : _ = PV.rptr _ _ _ _) | exact (rfl : _ = PV.iptr _ _) | assumption | exact rfl))
        | ((with_reducible apply st_guardT); (first | exact rfl | assumption))
        | ((with_reducible apply st_guardF); (first | exact rfl | assumption))
        | ((with_reducible apply st_guardN); (first | exact rfl | assumption))
        | ((with_reducible apply st_loadP); (first | exact rfl | assumption); (first | assumption | ((repeat (with_reducible refine hget_ne (by omega) ?_)); first | assumption | (refine hget_eq (by first | omega | (simp only [List.length_set, List.length_append, vdead_len]; omega))))); exact rfl)
        | ((with_reducible apply st_loadI); (first | exact rfl | assumption); exact rfl)
        | ((with_reducible apply st_loadR); (first | exact rfl | assumption); (first | assumption | ((repeat (with_reducible refine hget_ne (by omega) ?_)); first | assumption | (refine hget_eq (by first | omega | (simp only [List.length_set, List.length_append, vdead_len]; omega))))); (first | exact rfl | assumption); exact rfl)
        | ((with_reducible apply st_nilP); (first | exact rfl | assumption); (first | assumption | ((repeat (with_reducible refine hget_ne (by omega) ?_)); first | assumption | (refine hget_eq (by first | omega | (simp only [List.length_set, List.length_append, vdead_len]; omega))))))
        | ((with_reducible apply st_nilR); (first | exact rfl | assumption); (first | assumption | ((repeat (with_reducible refine hget_ne (by omega) ?_)); first | assumption | (refine hget_eq (by first | omega | (simp only [List.length_set, List.length_append, vdead_len]; omega))))))
        | ((with_reducible apply st_nilI); (first | exact rfl | assumption))
        | ((with_reducible apply st_fieldP); (first | exact rfl | assumption); (first | assumption | ((repeat (with_reducible refine hget_ne (by omega) ?_)); first | assumption | (refine hget_eq (by first | omega | (simp only [List.length_set, List.length_append, vdead_len]; omega))))))
        | ((with_reducible apply st_fieldI); (first | exact rfl | assumption))
        | ((with_reducible apply st_fieldR); (first | exact rfl | assumption); (first | assumption | ((repeat (with_reducible refine hget_ne (by omega) ?_)); first | assumption | (refine hget_eq (by first | omega | (simp only [List.length_set, List.length_append, vdead_len]; omega))))))
        | ((with_reducible apply st_bin); (first | exact rfl | assumption); (first | exact rfl | assumption); first | assumption | exact i_add (by omega) (by omega) | exact i_sub (by omega) (by omega) | exact i_lssT (by omega) | exact i_lssF (by omega) | exact i_geqT (by omega) | exact i_geqF (by omega) | exact i_eqlT (by omega) | exact i_eqlF (by omega) | exact i_neqT (by omega) | exact i_neqF (by omega) | exact i_gtrT (by omega) | exact i_gtrF (by omega) | exact i_leqT (by omega) | exact i_leqF (by omega) | exact rfl)
        | ((with_reducible apply st_binS); (first | exact rfl | assumption); (first | exact rfl | assumption); (first | assumption | exact rfl))
        | ((with_reducible apply st_eqB); (first | exact rfl | assumption); (first | exact rfl | assumption))
        | ((with_reducible apply st_neB); (first | exact rfl | assumption); (first | exact rfl | assumption))
        | ((with_reducible apply st_pickT); (first | exact rfl | assumption))
        | ((with_reducible apply st_pickF); (first | exact rfl | assumption))
        | ((with_reducible apply st_extract); (first | exact rfl | assumption); exact rfl)
        | ((with_reducible apply st_not); (first | exact rfl | assumption))
        | ((with_reducible apply st_lenR); (first | exact rfl | assumption); (first | assumption | ((repeat (with_reducible refine hget_ne (by omega) ?_)); first | assumption | (refine hget_eq (by first | omega | (simp only [List.length_set, List.length_append, vdead_len]; omega))))))
        | ((with_reducible apply st_lenS); (first | exact rfl | assumption))
        | with_reducible apply st_end
        | with_reducible apply sc_seq
        | with_reducible apply sc_region
        | with_reducible apply sq_thenN
        | with_reducible apply sc_block
        | with_reducible apply sc_skip
        | with_reducible apply sc_ret
        | with_reducible apply sc_exit
        | with_reducible apply sq_thenR
        | with_reducible apply sq_thenX
        | with_reducible apply sq_blockN
        | with_reducible apply sq_blockR
        | with_reducible apply sq_blockX
        | ((with_reducible apply sc_condT); (first | exact rfl | assumption))
        | ((with_reducible apply sc_condF); (first | exact rfl | assumption))
        | ((with_reducible apply sq_blockY); decide)
        | ((with_reducible apply st_neg); (first | exact rfl | assumption))
        | ((with_reducible apply st_lenMap); (first | exact rfl | assumption); (first | assumption | ((repeat (with_reducible refine hget_ne (by omega) ?_)); first | assumption | (refine hget_eq (by first | omega | (simp only [List.length_set, List.length_append, vdead_len]; omega))))))
        | ((with_reducible apply st_lenStr); (first | exact rfl | assumption))
        | ((with_reducible apply st_ptrNil); (first | exact rfl | assumption); (first | exact rfl | assumption); (first | assumption | ((repeat (with_reducible refine hget_ne (by omega) ?_)); first | assumption | (refine hget_eq (by first | omega | (simp only [List.length_set, List.length_append, vdead_len]; omega))))))
        | ((with_reducible apply st_newRow); (first | assumption | ((repeat (with_reducible refine hraw_ne (by omega) ?_)); first | assumption | exact hraw_dead (by decide) | (refine hraw_eq (by first | omega | (simp only [List.length_set, List.length_append, vdead_len]; omega))))))
        | ((with_reducible apply st_alloc); (first | assumption | ((repeat (with_reducible refine hraw_ne (by omega) ?_)); first | assumption | exact hraw_dead (by decide) | (refine hraw_eq (by first | omega | (simp only [List.length_set, List.length_append, vdead_len]; omega))))))
        | ((with_reducible apply st_makeMap); (first | assumption | ((repeat (with_reducible refine hraw_ne (by omega) ?_)); first | assumption | exact hraw_dead (by decide) | (refine hraw_eq (by first | omega | (simp only [List.length_set, List.length_append, vdead_len]; omega))))))
        | ((with_reducible apply st_build); exact rfl)
        | ((with_reducible apply st_box); exact rfl; (first | assumption | ((repeat (with_reducible refine hraw_ne (by omega) ?_)); first | assumption | exact hraw_dead (by decide) | (refine hraw_eq (by first | omega | (simp only [List.length_set, List.length_append, vdead_len]; omega))))))
        | ((with_reducible apply st_buildSlice); exact rfl; (first | assumption | ((repeat (with_reducible refine hraw_ne (by omega) ?_)); first | assumption | exact hraw_dead (by decide) | (refine hraw_eq (by first | omega | (simp only [List.length_set, List.length_append, vdead_len]; omega))))))
        | ((with_reducible apply st_store); (first | exact rfl | assumption); exact rfl; exact rfl; (first | assumption | ((repeat (with_reducible refine hget_ne (by omega) ?_)); first | assumption | (refine hget_eq (by first | omega | (simp only [List.length_set, List.length_append, vdead_len]; omega))))); exact (by decide))))
  exact q.q) : P := w ⟨q⟩
end Go.V
