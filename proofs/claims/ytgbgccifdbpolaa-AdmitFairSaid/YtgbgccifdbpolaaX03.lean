/- Part of the proof of AdmitFairSaid: lemmas and contracts that it uses. -/
import Derived.Test.YtgbgccifdbpolaaX01
import Derived.Test.YtgbgccifdbpolaaX02
import Derived.Sort.Grow
set_option linter.all false
set_option linter.unusedVariables false
set_option linter.unusedSimpArgs false
set_option linter.unnecessarySimpa false
namespace Go.Proofs
open Go Go.SL
attribute [local irreducible] H W TL XL Y cl mp slc
set_option maxRecDepth 20000
set_option maxHeartbeats 1000000

/-! # ledger -/
abbrev ledC (p b : Nat) (c m u s : Int) : Asn := cl p [i64v c, i64v m, i64v u, i64v s, .map (some b)] 171

theorem led_has_t {p b : Nat} {c m u s t : Int} {M : List (Int × Value)} {v : Value} (h : M.lookup t = some v) :
    CtA Try.prog 126 [ptrv p, u64v t] [ledC p b c m u s, mp b .u64 M] (.bool true) fun F => ledC p b c m u s :: mp b .u64 M :: F := by
  intro F; simp only [List.cons_append, List.nil_append]; refine Ct_of Try.func126 rfl (n := 17) rfl rfl ?_
  repeat (first
    | refine H_seq ?_ | refine H_block ?_ | refine H_region ?_ | refine TL_nil ?_ | refine N_then ?_ | refine N_block ?_ | refine H_skip ?_ | refine H_ret ?_ | refine R_then ?_ | refine R_block ?_ | refine H_exit ?_
    | refine X_then ?_ | refine X_block_eq ?_ | refine X_block_ne rfl ?_ | refine H_cond_t rfl ?_ | refine H_cond_f rfl ?_
    | refine TL_y (by first | exact Y_move rfl | exact Y_assign rfl | exact Y_nilCheck rfl | exact Y_nilCheckF rfl | exact Y_fieldAddr rfl | exact Y_load rfl (Vl_cl (by (repeat (first | exact .h | apply Pick.t)); done) rfl) | exact Y_load rfl (by assumption) | exact Y_loadAt rfl (by (repeat (first | exact .h | apply Pick.t)); done) (by rfl) | exact Y_ext rfl rfl | exact Y_lookupOk_some rfl rfl (by (repeat (first | exact .h | apply Pick.t)); done) (by assumption) | exact Y_lookupOk_none rfl rfl (by (repeat (first | exact .h | apply Pick.t)); done) (by assumption) | fail) rfl ?_
    | exact E_fin1 (.inl rfl) rfl rfl rfl (by (repeat (first | exact .nil | exact .refl _ | exact .h | apply Pick.t | apply Picks.cons | apply Picks.skip)); done)
    | exact E_fin1 (.inr rfl) rfl rfl rfl (by (repeat (first | exact .nil | exact .refl _ | exact .h | apply Pick.t | apply Picks.cons | apply Picks.skip)); done)
    | exact E_fin2 (.inl rfl) rfl rfl rfl rfl (by (repeat (first | exact .nil | exact .refl _ | exact .h | apply Pick.t | apply Picks.cons | apply Picks.skip)); done)
    | exact E_fin2 (.inr rfl) rfl rfl rfl rfl (by (repeat (first | exact .nil | exact .refl _ | exact .h | apply Pick.t | apply Picks.cons | apply Picks.skip)); done)
    | exact E_fin3 (.inl rfl) rfl rfl rfl rfl rfl (by (repeat (first | exact .nil | exact .refl _ | exact .h | apply Pick.t | apply Picks.cons | apply Picks.skip)); done)
    | exact E_fin3 (.inr rfl) rfl rfl rfl rfl rfl (by (repeat (first | exact .nil | exact .refl _ | exact .h | apply Pick.t | apply Picks.cons | apply Picks.skip)); done)
    | exact E_fin0 (.inl rfl) rfl (by (repeat (first | exact .nil | exact .refl _ | exact .h | apply Pick.t | apply Picks.cons | apply Picks.skip)); done)
    | exact E_fin0 (.inr rfl) rfl (by (repeat (first | exact .nil | exact .refl _ | exact .h | apply Pick.t | apply Picks.cons | apply Picks.skip)); done) | fail)
theorem led_has_f {p b : Nat} {c m u s t : Int} {M : List (Int × Value)} (h : M.lookup t = none) :
    CtA Try.prog 126 [ptrv p, u64v t] [ledC p b c m u s, mp b .u64 M] (.bool false) fun F => ledC p b c m u s :: mp b .u64 M :: F := by
  intro F; simp only [List.cons_append, List.nil_append]; refine Ct_of Try.func126 rfl (n := 17) rfl rfl ?_
  repeat (first
    | refine H_seq ?_ | refine H_block ?_ | refine H_region ?_ | refine TL_nil ?_ | refine N_then ?_ | refine N_block ?_ | refine H_skip ?_ | refine H_ret ?_ | refine R_then ?_ | refine R_block ?_ | refine H_exit ?_
    | refine X_then ?_ | refine X_block_eq ?_ | refine X_block_ne rfl ?_ | refine H_cond_t rfl ?_ | refine H_cond_f rfl ?_
    | refine TL_y (by first | exact Y_move rfl | exact Y_assign rfl | exact Y_nilCheck rfl | exact Y_nilCheckF rfl | exact Y_fieldAddr rfl | exact Y_load rfl (Vl_cl (by (repeat (first | exact .h | apply Pick.t)); done) rfl) | exact Y_load rfl (by assumption) | exact Y_loadAt rfl (by (repeat (first | exact .h | apply Pick.t)); done) (by rfl) | exact Y_ext rfl rfl | exact Y_lookupOk_some rfl rfl (by (repeat (first | exact .h | apply Pick.t)); done) (by assumption) | exact Y_lookupOk_none rfl rfl (by (repeat (first | exact .h | apply Pick.t)); done) (by assumption) | fail) rfl ?_
    | exact E_fin1 (.inl rfl) rfl rfl rfl (by (repeat (first | exact .nil | exact .refl _ | exact .h | apply Pick.t | apply Picks.cons | apply Picks.skip)); done)
    | exact E_fin1 (.inr rfl) rfl rfl rfl (by (repeat (first | exact .nil | exact .refl _ | exact .h | apply Pick.t | apply Picks.cons | apply Picks.skip)); done)
    | exact E_fin2 (.inl rfl) rfl rfl rfl rfl (by (repeat (first | exact .nil | exact .refl _ | exact .h | apply Pick.t | apply Picks.cons | apply Picks.skip)); done)
    | exact E_fin2 (.inr rfl) rfl rfl rfl rfl (by (repeat (first | exact .nil | exact .refl _ | exact .h | apply Pick.t | apply Picks.cons | apply Picks.skip)); done)
    | exact E_fin3 (.inl rfl) rfl rfl rfl rfl rfl (by (repeat (first | exact .nil | exact .refl _ | exact .h | apply Pick.t | apply Picks.cons | apply Picks.skip)); done)
    | exact E_fin3 (.inr rfl) rfl rfl rfl rfl rfl (by (repeat (first | exact .nil | exact .refl _ | exact .h | apply Pick.t | apply Picks.cons | apply Picks.skip)); done)
    | exact E_fin0 (.inl rfl) rfl (by (repeat (first | exact .nil | exact .refl _ | exact .h | apply Pick.t | apply Picks.cons | apply Picks.skip)); done)
    | exact E_fin0 (.inr rfl) rfl (by (repeat (first | exact .nil | exact .refl _ | exact .h | apply Pick.t | apply Picks.cons | apply Picks.skip)); done) | fail)
theorem led_used {p b : Nat} {c m u s : Int} : CtA Try.prog 84 [ptrv p] [ledC p b c m u s] (i64v u) fun F => ledC p b c m u s :: F := by
  intro F; simp only [List.cons_append, List.nil_append]; refine Ct_of Try.func84 rfl (n := 9) rfl rfl ?_
  repeat (first
    | refine H_seq ?_ | refine H_block ?_ | refine H_region ?_ | refine TL_nil ?_ | refine N_then ?_ | refine N_block ?_ | refine H_skip ?_ | refine H_ret ?_ | refine R_then ?_ | refine R_block ?_ | refine H_exit ?_
    | refine X_then ?_ | refine X_block_eq ?_ | refine X_block_ne rfl ?_ | refine H_cond_t rfl ?_ | refine H_cond_f rfl ?_
    | refine TL_y (by first | exact Y_move rfl | exact Y_assign rfl | exact Y_nilCheck rfl | exact Y_nilCheckF rfl | exact Y_fieldAddr rfl | exact Y_load rfl (Vl_cl (by (repeat (first | exact .h | apply Pick.t)); done) rfl) | exact Y_load rfl (by assumption) | exact Y_loadAt rfl (by (repeat (first | exact .h | apply Pick.t)); done) (by rfl) | exact Y_eqld rfl rfl (by first | exact decide_eq_true (by omega) | exact decide_eq_false (by omega)) | exact Y_eql rfl rfl | exact Y_eql_nil rfl rfl | exact Y_slice_eq_nil rfl rfl | exact Y_map_eq_nil rfl rfl | fail) rfl ?_
    | exact E_fin1 (.inl rfl) rfl rfl rfl (by (repeat (first | exact .nil | exact .refl _ | exact .h | apply Pick.t | apply Picks.cons | apply Picks.skip)); done)
    | exact E_fin1 (.inr rfl) rfl rfl rfl (by (repeat (first | exact .nil | exact .refl _ | exact .h | apply Pick.t | apply Picks.cons | apply Picks.skip)); done)
    | exact E_fin2 (.inl rfl) rfl rfl rfl rfl (by (repeat (first | exact .nil | exact .refl _ | exact .h | apply Pick.t | apply Picks.cons | apply Picks.skip)); done)
    | exact E_fin2 (.inr rfl) rfl rfl rfl rfl (by (repeat (first | exact .nil | exact .refl _ | exact .h | apply Pick.t | apply Picks.cons | apply Picks.skip)); done)
    | exact E_fin3 (.inl rfl) rfl rfl rfl rfl rfl (by (repeat (first | exact .nil | exact .refl _ | exact .h | apply Pick.t | apply Picks.cons | apply Picks.skip)); done)
    | exact E_fin3 (.inr rfl) rfl rfl rfl rfl rfl (by (repeat (first | exact .nil | exact .refl _ | exact .h | apply Pick.t | apply Picks.cons | apply Picks.skip)); done)
    | exact E_fin0 (.inl rfl) rfl (by (repeat (first | exact .nil | exact .refl _ | exact .h | apply Pick.t | apply Picks.cons | apply Picks.skip)); done)
    | exact E_fin0 (.inr rfl) rfl (by (repeat (first | exact .nil | exact .refl _ | exact .h | apply Pick.t | apply Picks.cons | apply Picks.skip)); done) | fail)
theorem led_reserved {p b : Nat} {c m u s : Int} : CtA Try.prog 79 [ptrv p] [ledC p b c m u s] (i64v s) fun F => ledC p b c m u s :: F := by
  intro F; simp only [List.cons_append, List.nil_append]; refine Ct_of Try.func79 rfl (n := 9) rfl rfl ?_
  repeat (first
    | refine H_seq ?_ | refine H_block ?_ | refine H_region ?_ | refine TL_nil ?_ | refine N_then ?_ | refine N_block ?_ | refine H_skip ?_ | refine H_ret ?_ | refine R_then ?_ | refine R_block ?_ | refine H_exit ?_
    | refine X_then ?_ | refine X_block_eq ?_ | refine X_block_ne rfl ?_ | refine H_cond_t rfl ?_ | refine H_cond_f rfl ?_
    | refine TL_y (by first | exact Y_move rfl | exact Y_assign rfl | exact Y_nilCheck rfl | exact Y_nilCheckF rfl | exact Y_fieldAddr rfl | exact Y_load rfl (Vl_cl (by (repeat (first | exact .h | apply Pick.t)); done) rfl) | exact Y_load rfl (by assumption) | exact Y_loadAt rfl (by (repeat (first | exact .h | apply Pick.t)); done) (by rfl) | exact Y_eqld rfl rfl (by first | exact decide_eq_true (by omega) | exact decide_eq_false (by omega)) | exact Y_eql rfl rfl | exact Y_eql_nil rfl rfl | exact Y_slice_eq_nil rfl rfl | exact Y_map_eq_nil rfl rfl | fail) rfl ?_
    | exact E_fin1 (.inl rfl) rfl rfl rfl (by (repeat (first | exact .nil | exact .refl _ | exact .h | apply Pick.t | apply Picks.cons | apply Picks.skip)); done)
    | exact E_fin1 (.inr rfl) rfl rfl rfl (by (repeat (first | exact .nil | exact .refl _ | exact .h | apply Pick.t | apply Picks.cons | apply Picks.skip)); done)
    | exact E_fin2 (.inl rfl) rfl rfl rfl rfl (by (repeat (first | exact .nil | exact .refl _ | exact .h | apply Pick.t | apply Picks.cons | apply Picks.skip)); done)
    | exact E_fin2 (.inr rfl) rfl rfl rfl rfl (by (repeat (first | exact .nil | exact .refl _ | exact .h | apply Pick.t | apply Picks.cons | apply Picks.skip)); done)
    | exact E_fin3 (.inl rfl) rfl rfl rfl rfl rfl (by (repeat (first | exact .nil | exact .refl _ | exact .h | apply Pick.t | apply Picks.cons | apply Picks.skip)); done)
    | exact E_fin3 (.inr rfl) rfl rfl rfl rfl rfl (by (repeat (first | exact .nil | exact .refl _ | exact .h | apply Pick.t | apply Picks.cons | apply Picks.skip)); done)
    | exact E_fin0 (.inl rfl) rfl (by (repeat (first | exact .nil | exact .refl _ | exact .h | apply Pick.t | apply Picks.cons | apply Picks.skip)); done)
    | exact E_fin0 (.inr rfl) rfl (by (repeat (first | exact .nil | exact .refl _ | exact .h | apply Pick.t | apply Picks.cons | apply Picks.skip)); done) | fail)
theorem led_left_t {p b : Nat} {c m u s t : Int} {M : List (Int × Value)} {v : Value} (h : M.lookup t = some v) :
    CtA Try.prog 81 [ptrv p, u64v t] [ledC p b c m u s, mp b .u64 M] (.tuple #[v, .bool true]) fun F => ledC p b c m u s :: mp b .u64 M :: F := by
  intro F; simp only [List.cons_append, List.nil_append]; refine Ct_of Try.func81 rfl (n := 19) rfl rfl ?_
  repeat (first
    | refine H_seq ?_ | refine H_block ?_ | refine H_region ?_ | refine TL_nil ?_ | refine N_then ?_ | refine N_block ?_ | refine H_skip ?_ | refine H_ret ?_ | refine R_then ?_ | refine R_block ?_ | refine H_exit ?_
    | refine X_then ?_ | refine X_block_eq ?_ | refine X_block_ne rfl ?_ | refine H_cond_t rfl ?_ | refine H_cond_f rfl ?_
    | refine TL_y (by first | exact Y_move rfl | exact Y_assign rfl | exact Y_nilCheck rfl | exact Y_nilCheckF rfl | exact Y_fieldAddr rfl | exact Y_load rfl (Vl_cl (by (repeat (first | exact .h | apply Pick.t)); done) rfl) | exact Y_load rfl (by assumption) | exact Y_loadAt rfl (by (repeat (first | exact .h | apply Pick.t)); done) (by rfl) | exact Y_ext rfl rfl | exact Y_eqld rfl rfl (by first | exact decide_eq_true (by omega) | exact decide_eq_false (by omega)) | exact Y_eql rfl rfl | exact Y_eql_nil rfl rfl | exact Y_slice_eq_nil rfl rfl | exact Y_map_eq_nil rfl rfl | exact Y_lookupOk_some rfl rfl (by (repeat (first | exact .h | apply Pick.t)); done) (by assumption) | exact Y_lookupOk_none rfl rfl (by (repeat (first | exact .h | apply Pick.t)); done) (by assumption) | fail) rfl ?_
    | exact E_fin1 (.inl rfl) rfl rfl rfl (by (repeat (first | exact .nil | exact .refl _ | exact .h | apply Pick.t | apply Picks.cons | apply Picks.skip)); done)
    | exact E_fin1 (.inr rfl) rfl rfl rfl (by (repeat (first | exact .nil | exact .refl _ | exact .h | apply Pick.t | apply Picks.cons | apply Picks.skip)); done)
    | exact E_fin2 (.inl rfl) rfl rfl rfl rfl (by (repeat (first | exact .nil | exact .refl _ | exact .h | apply Pick.t | apply Picks.cons | apply Picks.skip)); done)
    | exact E_fin2 (.inr rfl) rfl rfl rfl rfl (by (repeat (first | exact .nil | exact .refl _ | exact .h | apply Pick.t | apply Picks.cons | apply Picks.skip)); done)
    | exact E_fin3 (.inl rfl) rfl rfl rfl rfl rfl (by (repeat (first | exact .nil | exact .refl _ | exact .h | apply Pick.t | apply Picks.cons | apply Picks.skip)); done)
    | exact E_fin3 (.inr rfl) rfl rfl rfl rfl rfl (by (repeat (first | exact .nil | exact .refl _ | exact .h | apply Pick.t | apply Picks.cons | apply Picks.skip)); done)
    | exact E_fin0 (.inl rfl) rfl (by (repeat (first | exact .nil | exact .refl _ | exact .h | apply Pick.t | apply Picks.cons | apply Picks.skip)); done)
    | exact E_fin0 (.inr rfl) rfl (by (repeat (first | exact .nil | exact .refl _ | exact .h | apply Pick.t | apply Picks.cons | apply Picks.skip)); done) | fail)
theorem led_left_f {p b : Nat} {c m u s t : Int} {M : List (Int × Value)} (h : M.lookup t = none) :
    CtA Try.prog 81 [ptrv p, u64v t] [ledC p b c m u s, mp b .u64 M] (.tuple #[i64v 0, .bool false]) fun F => ledC p b c m u s :: mp b .u64 M :: F := by
  intro F; simp only [List.cons_append, List.nil_append]; refine Ct_of Try.func81 rfl (n := 19) rfl rfl ?_
  repeat (first
    | refine H_seq ?_ | refine H_block ?_ | refine H_region ?_ | refine TL_nil ?_ | refine N_then ?_ | refine N_block ?_ | refine H_skip ?_ | refine H_ret ?_ | refine R_then ?_ | refine R_block ?_ | refine H_exit ?_
    | refine X_then ?_ | refine X_block_eq ?_ | refine X_block_ne rfl ?_ | refine H_cond_t rfl ?_ | refine H_cond_f rfl ?_
    | refine TL_y (by first | exact Y_move rfl | exact Y_assign rfl | exact Y_nilCheck rfl | exact Y_nilCheckF rfl | exact Y_fieldAddr rfl | exact Y_load rfl (Vl_cl (by (repeat (first | exact .h | apply Pick.t)); done) rfl) | exact Y_load rfl (by assumption) | exact Y_loadAt rfl (by (repeat (first | exact .h | apply Pick.t)); done) (by rfl) | exact Y_ext rfl rfl | exact Y_eqld rfl rfl (by first | exact decide_eq_true (by omega) | exact decide_eq_false (by omega)) | exact Y_eql rfl rfl | exact Y_eql_nil rfl rfl | exact Y_slice_eq_nil rfl rfl | exact Y_map_eq_nil rfl rfl | exact Y_lookupOk_some rfl rfl (by (repeat (first | exact .h | apply Pick.t)); done) (by assumption) | exact Y_lookupOk_none rfl rfl (by (repeat (first | exact .h | apply Pick.t)); done) (by assumption) | fail) rfl ?_
    | exact E_fin1 (.inl rfl) rfl rfl rfl (by (repeat (first | exact .nil | exact .refl _ | exact .h | apply Pick.t | apply Picks.cons | apply Picks.skip)); done)
    | exact E_fin1 (.inr rfl) rfl rfl rfl (by (repeat (first | exact .nil | exact .refl _ | exact .h | apply Pick.t | apply Picks.cons | apply Picks.skip)); done)
    | exact E_fin2 (.inl rfl) rfl rfl rfl rfl (by (repeat (first | exact .nil | exact .refl _ | exact .h | apply Pick.t | apply Picks.cons | apply Picks.skip)); done)
    | exact E_fin2 (.inr rfl) rfl rfl rfl rfl (by (repeat (first | exact .nil | exact .refl _ | exact .h | apply Pick.t | apply Picks.cons | apply Picks.skip)); done)
    | exact E_fin3 (.inl rfl) rfl rfl rfl rfl rfl (by (repeat (first | exact .nil | exact .refl _ | exact .h | apply Pick.t | apply Picks.cons | apply Picks.skip)); done)
    | exact E_fin3 (.inr rfl) rfl rfl rfl rfl rfl (by (repeat (first | exact .nil | exact .refl _ | exact .h | apply Pick.t | apply Picks.cons | apply Picks.skip)); done)
    | exact E_fin0 (.inl rfl) rfl (by (repeat (first | exact .nil | exact .refl _ | exact .h | apply Pick.t | apply Picks.cons | apply Picks.skip)); done)
    | exact E_fin0 (.inr rfl) rfl (by (repeat (first | exact .nil | exact .refl _ | exact .h | apply Pick.t | apply Picks.cons | apply Picks.skip)); done) | fail)
theorem led_free_ok {p b : Nat} {c m u s k : Int} (h0 : 0 ≤ k) (h1 : k ≤ u) (hu : u ≤ 64) :
    CtA Try.prog 85 [ptrv p, i64v k] [ledC p b c m u s] (i64v 0) fun F => ledC p b c m (u - k) s :: F := by
  intro F; simp only [List.cons_append, List.nil_append]; refine Ct_of Try.func85 rfl (n := 27) rfl rfl ?_
  repeat (first
    | refine H_seq ?_ | refine H_block ?_ | refine H_region ?_ | refine TL_nil ?_ | refine N_then ?_ | refine N_block ?_ | refine H_skip ?_ | refine H_ret ?_ | refine R_then ?_ | refine R_block ?_ | refine H_exit ?_
    | refine X_then ?_ | refine X_block_eq ?_ | refine X_block_ne rfl ?_ | refine H_cond_t rfl ?_ | refine H_cond_f rfl ?_
    | refine TL_y (by first | exact Y_move rfl | exact Y_assign rfl | exact Y_nilCheck rfl | exact Y_nilCheckF rfl | exact Y_fieldAddr rfl | exact Y_load rfl (Vl_cl (by (repeat (first | exact .h | apply Pick.t)); done) rfl) | exact Y_load rfl (by assumption) | exact Y_loadAt rfl (by (repeat (first | exact .h | apply Pick.t)); done) (by rfl) | exact Y_lssd rfl rfl (by first | exact decide_eq_true (by omega) | exact decide_eq_false (by omega)) | exact Y_lss rfl rfl | exact Y_gtrd rfl rfl (by first | exact decide_eq_true (by omega) | exact decide_eq_false (by omega)) | exact Y_gtr rfl rfl | exact Y_eqld rfl rfl (by first | exact decide_eq_true (by omega) | exact decide_eq_false (by omega)) | exact Y_eql rfl rfl | exact Y_eql_nil rfl rfl | exact Y_slice_eq_nil rfl rfl | exact Y_map_eq_nil rfl rfl | exact Y_sub' rfl rfl (w64 (by omega) (by omega)) | exact Y_sub' rfl rfl (wu64 (by omega) (by omega)) | exact Y_pick_t rfl rfl | exact Y_pick_f rfl rfl | fail) rfl ?_
    | refine TLg_run rfl rfl ?_ | refine TLg_skip rfl rfl rfl rfl ?_ | refine T_store rfl rfl rfl (by (repeat (first | exact .h | apply Pick.t)); done) rfl ?_
    | refine T_storeAt rfl rfl (by (repeat (first | exact .h | apply Pick.t)); done) (by rfl) (by rfl) (by rfl) ?_
    | exact E_fin1 (.inl rfl) rfl rfl rfl (by (repeat (first | exact .nil | exact .refl _ | exact .h | apply Pick.t | apply Picks.cons | apply Picks.skip)); done)
    | exact E_fin1 (.inr rfl) rfl rfl rfl (by (repeat (first | exact .nil | exact .refl _ | exact .h | apply Pick.t | apply Picks.cons | apply Picks.skip)); done)
    | exact E_fin2 (.inl rfl) rfl rfl rfl rfl (by (repeat (first | exact .nil | exact .refl _ | exact .h | apply Pick.t | apply Picks.cons | apply Picks.skip)); done)
    | exact E_fin2 (.inr rfl) rfl rfl rfl rfl (by (repeat (first | exact .nil | exact .refl _ | exact .h | apply Pick.t | apply Picks.cons | apply Picks.skip)); done)
    | exact E_fin3 (.inl rfl) rfl rfl rfl rfl rfl (by (repeat (first | exact .nil | exact .refl _ | exact .h | apply Pick.t | apply Picks.cons | apply Picks.skip)); done)
    | exact E_fin3 (.inr rfl) rfl rfl rfl rfl rfl (by (repeat (first | exact .nil | exact .refl _ | exact .h | apply Pick.t | apply Picks.cons | apply Picks.skip)); done)
    | exact E_fin0 (.inl rfl) rfl (by (repeat (first | exact .nil | exact .refl _ | exact .h | apply Pick.t | apply Picks.cons | apply Picks.skip)); done)
    | exact E_fin0 (.inr rfl) rfl (by (repeat (first | exact .nil | exact .refl _ | exact .h | apply Pick.t | apply Picks.cons | apply Picks.skip)); done) | fail)
theorem led_free_no {p b : Nat} {c m u s k : Int} (h0 : k < 0 ∨ u < k) :
    CtA Try.prog 85 [ptrv p, i64v k] [ledC p b c m u s] (i64v 2) fun F => ledC p b c m u s :: F := by
  intro F; simp only [List.cons_append, List.nil_append]; refine Ct_of Try.func85 rfl (n := 27) rfl rfl ?_
  by_cases hk : k < 0
  · repeat (first
      | refine H_seq ?_ | refine H_block ?_ | refine H_region ?_ | refine TL_nil ?_ | refine N_then ?_ | refine N_block ?_ | refine H_skip ?_ | refine H_ret ?_ | refine R_then ?_ | refine R_block ?_ | refine H_exit ?_
      | refine X_then ?_ | refine X_block_eq ?_ | refine X_block_ne rfl ?_ | refine H_cond_t rfl ?_ | refine H_cond_f rfl ?_
      | refine TL_y (by first | exact Y_move rfl | exact Y_assign rfl | exact Y_nilCheck rfl | exact Y_nilCheckF rfl | exact Y_fieldAddr rfl | exact Y_load rfl (Vl_cl (by (repeat (first | exact .h | apply Pick.t)); done) rfl) | exact Y_load rfl (by assumption) | exact Y_loadAt rfl (by (repeat (first | exact .h | apply Pick.t)); done) (by rfl) | exact Y_lssd rfl rfl (by first | exact decide_eq_true (by omega) | exact decide_eq_false (by omega)) | exact Y_lss rfl rfl | exact Y_gtrd rfl rfl (by first | exact decide_eq_true (by omega) | exact decide_eq_false (by omega)) | exact Y_gtr rfl rfl | exact Y_eqld rfl rfl (by first | exact decide_eq_true (by omega) | exact decide_eq_false (by omega)) | exact Y_eql rfl rfl | exact Y_eql_nil rfl rfl | exact Y_slice_eq_nil rfl rfl | exact Y_map_eq_nil rfl rfl | exact Y_sub' rfl rfl (w64 (by omega) (by omega)) | exact Y_sub' rfl rfl (wu64 (by omega) (by omega)) | exact Y_pick_t rfl rfl | exact Y_pick_f rfl rfl | fail) rfl ?_
      | refine TLg_run rfl rfl ?_ | refine TLg_skip rfl rfl rfl rfl ?_ | refine T_store rfl rfl rfl (by (repeat (first | exact .h | apply Pick.t)); done) rfl ?_
      | refine T_storeAt rfl rfl (by (repeat (first | exact .h | apply Pick.t)); done) (by rfl) (by rfl) (by rfl) ?_
      | exact E_fin1 (.inl rfl) rfl rfl rfl (by (repeat (first | exact .nil | exact .refl _ | exact .h | apply Pick.t | apply Picks.cons | apply Picks.skip)); done)
      | exact E_fin1 (.inr rfl) rfl rfl rfl (by (repeat (first | exact .nil | exact .refl _ | exact .h | apply Pick.t | apply Picks.cons | apply Picks.skip)); done)
      | exact E_fin2 (.inl rfl) rfl rfl rfl rfl (by (repeat (first | exact .nil | exact .refl _ | exact .h | apply Pick.t | apply Picks.cons | apply Picks.skip)); done)
      | exact E_fin2 (.inr rfl) rfl rfl rfl rfl (by (repeat (first | exact .nil | exact .refl _ | exact .h | apply Pick.t | apply Picks.cons | apply Picks.skip)); done)
      | exact E_fin3 (.inl rfl) rfl rfl rfl rfl rfl (by (repeat (first | exact .nil | exact .refl _ | exact .h | apply Pick.t | apply Picks.cons | apply Picks.skip)); done)
      | exact E_fin3 (.inr rfl) rfl rfl rfl rfl rfl (by (repeat (first | exact .nil | exact .refl _ | exact .h | apply Pick.t | apply Picks.cons | apply Picks.skip)); done)
      | exact E_fin0 (.inl rfl) rfl (by (repeat (first | exact .nil | exact .refl _ | exact .h | apply Pick.t | apply Picks.cons | apply Picks.skip)); done)
      | exact E_fin0 (.inr rfl) rfl (by (repeat (first | exact .nil | exact .refl _ | exact .h | apply Pick.t | apply Picks.cons | apply Picks.skip)); done) | fail)
  · repeat (first
      | refine H_seq ?_ | refine H_block ?_ | refine H_region ?_ | refine TL_nil ?_ | refine N_then ?_ | refine N_block ?_ | refine H_skip ?_ | refine H_ret ?_ | refine R_then ?_ | refine R_block ?_ | refine H_exit ?_
      | refine X_then ?_ | refine X_block_eq ?_ | refine X_block_ne rfl ?_ | refine H_cond_t rfl ?_ | refine H_cond_f rfl ?_
      | refine TL_y (by first | exact Y_move rfl | exact Y_assign rfl | exact Y_nilCheck rfl | exact Y_nilCheckF rfl | exact Y_fieldAddr rfl | exact Y_load rfl (Vl_cl (by (repeat (first | exact .h | apply Pick.t)); done) rfl) | exact Y_load rfl (by assumption) | exact Y_loadAt rfl (by (repeat (first | exact .h | apply Pick.t)); done) (by rfl) | exact Y_lssd rfl rfl (by first | exact decide_eq_true (by omega) | exact decide_eq_false (by omega)) | exact Y_lss rfl rfl | exact Y_gtrd rfl rfl (by first | exact decide_eq_true (by omega) | exact decide_eq_false (by omega)) | exact Y_gtr rfl rfl | exact Y_eqld rfl rfl (by first | exact decide_eq_true (by omega) | exact decide_eq_false (by omega)) | exact Y_eql rfl rfl | exact Y_eql_nil rfl rfl | exact Y_slice_eq_nil rfl rfl | exact Y_map_eq_nil rfl rfl | exact Y_sub' rfl rfl (w64 (by omega) (by omega)) | exact Y_sub' rfl rfl (wu64 (by omega) (by omega)) | exact Y_pick_t rfl rfl | exact Y_pick_f rfl rfl | fail) rfl ?_
      | refine TLg_run rfl rfl ?_ | refine TLg_skip rfl rfl rfl rfl ?_ | refine T_store rfl rfl rfl (by (repeat (first | exact .h | apply Pick.t)); done) rfl ?_
      | refine T_storeAt rfl rfl (by (repeat (first | exact .h | apply Pick.t)); done) (by rfl) (by rfl) (by rfl) ?_
      | exact E_fin1 (.inl rfl) rfl rfl rfl (by (repeat (first | exact .nil | exact .refl _ | exact .h | apply Pick.t | apply Picks.cons | apply Picks.skip)); done)
      | exact E_fin1 (.inr rfl) rfl rfl rfl (by (repeat (first | exact .nil | exact .refl _ | exact .h | apply Pick.t | apply Picks.cons | apply Picks.skip)); done)
      | exact E_fin2 (.inl rfl) rfl rfl rfl rfl (by (repeat (first | exact .nil | exact .refl _ | exact .h | apply Pick.t | apply Picks.cons | apply Picks.skip)); done)
      | exact E_fin2 (.inr rfl) rfl rfl rfl rfl (by (repeat (first | exact .nil | exact .refl _ | exact .h | apply Pick.t | apply Picks.cons | apply Picks.skip)); done)
      | exact E_fin3 (.inl rfl) rfl rfl rfl rfl rfl (by (repeat (first | exact .nil | exact .refl _ | exact .h | apply Pick.t | apply Picks.cons | apply Picks.skip)); done)
      | exact E_fin3 (.inr rfl) rfl rfl rfl rfl rfl (by (repeat (first | exact .nil | exact .refl _ | exact .h | apply Pick.t | apply Picks.cons | apply Picks.skip)); done)
      | exact E_fin0 (.inl rfl) rfl (by (repeat (first | exact .nil | exact .refl _ | exact .h | apply Pick.t | apply Picks.cons | apply Picks.skip)); done)
      | exact E_fin0 (.inr rfl) rfl (by (repeat (first | exact .nil | exact .refl _ | exact .h | apply Pick.t | apply Picks.cons | apply Picks.skip)); done) | fail)
theorem led_fits {p b : Nat} {c m u s k : Int} (hc : 2 ≤ c ∧ c ≤ 64) (hu : 0 ≤ u) (hs : 0 ≤ s) (hus : u + s ≤ c) :
    CtA Try.prog 77 [ptrv p, i64v k] [ledC p b c m u s] (.bool (decide (1 ≤ k ∧ u + s + k ≤ c))) fun F => ledC p b c m u s :: F := by
  intro F; simp only [List.cons_append, List.nil_append]; refine Ct_of Try.func77 rfl (n := 29) rfl rfl ?_
  by_cases h1 : 1 ≤ k
  · by_cases h2 : k ≤ c - u - s
    · rw [decide_eq_true (by omega)]
      repeat (first
        | refine H_seq ?_ | refine H_block ?_ | refine H_region ?_ | refine TL_nil ?_ | refine N_then ?_ | refine N_block ?_ | refine H_skip ?_ | refine H_ret ?_ | refine R_then ?_ | refine R_block ?_ | refine H_exit ?_
        | refine X_then ?_ | refine X_block_eq ?_ | refine X_block_ne rfl ?_ | refine H_cond_t rfl ?_ | refine H_cond_f rfl ?_
        | refine TL_y (by first | exact Y_move rfl | exact Y_assign rfl | exact Y_nilCheck rfl | exact Y_nilCheckF rfl | exact Y_fieldAddr rfl | exact Y_load rfl (Vl_cl (by (repeat (first | exact .h | apply Pick.t)); done) rfl) | exact Y_load rfl (by assumption) | exact Y_loadAt rfl (by (repeat (first | exact .h | apply Pick.t)); done) (by rfl) | exact Y_leqd rfl rfl (by first | exact decide_eq_true (by omega) | exact decide_eq_false (by omega)) | exact Y_leq rfl rfl | exact Y_geqd rfl rfl (by first | exact decide_eq_true (by omega) | exact decide_eq_false (by omega)) | exact Y_geq rfl rfl | exact Y_neqd rfl rfl (by first | exact decide_eq_true (by omega) | exact decide_eq_false (by omega)) | exact Y_neq rfl rfl | exact Y_neq_nil rfl rfl | exact Y_sub' rfl rfl (w64 (by omega) (by omega)) | exact Y_sub' rfl rfl (wu64 (by omega) (by omega)) | exact Y_pick_t rfl rfl | exact Y_pick_f rfl rfl | fail) rfl ?_
        | refine TLg_run rfl rfl ?_ | refine TLg_skip rfl rfl rfl rfl ?_
        | refine X_y rfl (by first | exact Y_move rfl | exact Y_assign rfl | exact Y_nilCheck rfl | exact Y_nilCheckF rfl | exact Y_fieldAddr rfl | exact Y_load rfl (Vl_cl (by (repeat (first | exact .h | apply Pick.t)); done) rfl) | exact Y_load rfl (by assumption) | exact Y_loadAt rfl (by (repeat (first | exact .h | apply Pick.t)); done) (by rfl) | exact Y_leqd rfl rfl (by first | exact decide_eq_true (by omega) | exact decide_eq_false (by omega)) | exact Y_leq rfl rfl | exact Y_geqd rfl rfl (by first | exact decide_eq_true (by omega) | exact decide_eq_false (by omega)) | exact Y_geq rfl rfl | exact Y_neqd rfl rfl (by first | exact decide_eq_true (by omega) | exact decide_eq_false (by omega)) | exact Y_neq rfl rfl | exact Y_neq_nil rfl rfl | exact Y_sub' rfl rfl (w64 (by omega) (by omega)) | exact Y_sub' rfl rfl (wu64 (by omega) (by omega)) | exact Y_pick_t rfl rfl | exact Y_pick_f rfl rfl | fail) rfl ?_
        | refine X_yg rfl rfl rfl (by first | exact Y_move rfl | exact Y_assign rfl | exact Y_nilCheck rfl | exact Y_nilCheckF rfl | exact Y_fieldAddr rfl | exact Y_load rfl (Vl_cl (by (repeat (first | exact .h | apply Pick.t)); done) rfl) | exact Y_load rfl (by assumption) | exact Y_loadAt rfl (by (repeat (first | exact .h | apply Pick.t)); done) (by rfl) | exact Y_leqd rfl rfl (by first | exact decide_eq_true (by omega) | exact decide_eq_false (by omega)) | exact Y_leq rfl rfl | exact Y_geqd rfl rfl (by first | exact decide_eq_true (by omega) | exact decide_eq_false (by omega)) | exact Y_geq rfl rfl | exact Y_neqd rfl rfl (by first | exact decide_eq_true (by omega) | exact decide_eq_false (by omega)) | exact Y_neq rfl rfl | exact Y_neq_nil rfl rfl | exact Y_sub' rfl rfl (w64 (by omega) (by omega)) | exact Y_sub' rfl rfl (wu64 (by omega) (by omega)) | exact Y_pick_t rfl rfl | exact Y_pick_f rfl rfl | fail) rfl ?_
        | refine X_skip rfl rfl rfl rfl nofun rfl ?_ | refine X_loud rfl rfl ?_ | refine X_bar rfl ?_ | refine X_next (fun _ h => h) ?_
        | (refine X_next ?_ ?_; · exact fun _ h => sat_sub (by (repeat (first | exact .nil | exact .refl _ | exact .h | apply Pick.t | apply Picks.cons | apply Picks.skip)); done) h)
        | refine X_next (fun _ _ => sat_nil') ?_ | refine X_nil ?_
        | refine H_draw (id := 1) 9999 _ [(0, false), (1, false), (2, false), (3, false), (4, false), (5, false), (6, false), (7, false), (8, false), (9, false), (10, false), (11, false), (12, false), (13, false), (14, false), (15, false), (16, false), (17, false), (18, false), (19, false), (20, false), (21, false), (22, false), (23, false), (24, false)] (by kernel_rfl) (fun _ h => h) ?_
        | exact E_fin1 (.inl rfl) rfl rfl rfl (by (repeat (first | exact .nil | exact .refl _ | exact .h | apply Pick.t | apply Picks.cons | apply Picks.skip)); done)
        | exact E_fin1 (.inr rfl) rfl rfl rfl (by (repeat (first | exact .nil | exact .refl _ | exact .h | apply Pick.t | apply Picks.cons | apply Picks.skip)); done)
        | exact E_fin2 (.inl rfl) rfl rfl rfl rfl (by (repeat (first | exact .nil | exact .refl _ | exact .h | apply Pick.t | apply Picks.cons | apply Picks.skip)); done)
        | exact E_fin2 (.inr rfl) rfl rfl rfl rfl (by (repeat (first | exact .nil | exact .refl _ | exact .h | apply Pick.t | apply Picks.cons | apply Picks.skip)); done)
        | exact E_fin3 (.inl rfl) rfl rfl rfl rfl rfl (by (repeat (first | exact .nil | exact .refl _ | exact .h | apply Pick.t | apply Picks.cons | apply Picks.skip)); done)
        | exact E_fin3 (.inr rfl) rfl rfl rfl rfl rfl (by (repeat (first | exact .nil | exact .refl _ | exact .h | apply Pick.t | apply Picks.cons | apply Picks.skip)); done)
        | exact E_fin0 (.inl rfl) rfl (by (repeat (first | exact .nil | exact .refl _ | exact .h | apply Pick.t | apply Picks.cons | apply Picks.skip)); done)
        | exact E_fin0 (.inr rfl) rfl (by (repeat (first | exact .nil | exact .refl _ | exact .h | apply Pick.t | apply Picks.cons | apply Picks.skip)); done) | fail)
    · rw [decide_eq_false (by omega)]
      repeat (first
        | refine H_seq ?_ | refine H_block ?_ | refine H_region ?_ | refine TL_nil ?_ | refine N_then ?_ | refine N_block ?_ | refine H_skip ?_ | refine H_ret ?_ | refine R_then ?_ | refine R_block ?_ | refine H_exit ?_
        | refine X_then ?_ | refine X_block_eq ?_ | refine X_block_ne rfl ?_ | refine H_cond_t rfl ?_ | refine H_cond_f rfl ?_
        | refine TL_y (by first | exact Y_move rfl | exact Y_assign rfl | exact Y_nilCheck rfl | exact Y_nilCheckF rfl | exact Y_fieldAddr rfl | exact Y_load rfl (Vl_cl (by (repeat (first | exact .h | apply Pick.t)); done) rfl) | exact Y_load rfl (by assumption) | exact Y_loadAt rfl (by (repeat (first | exact .h | apply Pick.t)); done) (by rfl) | exact Y_leqd rfl rfl (by first | exact decide_eq_true (by omega) | exact decide_eq_false (by omega)) | exact Y_leq rfl rfl | exact Y_geqd rfl rfl (by first | exact decide_eq_true (by omega) | exact decide_eq_false (by omega)) | exact Y_geq rfl rfl | exact Y_neqd rfl rfl (by first | exact decide_eq_true (by omega) | exact decide_eq_false (by omega)) | exact Y_neq rfl rfl | exact Y_neq_nil rfl rfl | exact Y_sub' rfl rfl (w64 (by omega) (by omega)) | exact Y_sub' rfl rfl (wu64 (by omega) (by omega)) | exact Y_pick_t rfl rfl | exact Y_pick_f rfl rfl | fail) rfl ?_
        | refine TLg_run rfl rfl ?_ | refine TLg_skip rfl rfl rfl rfl ?_
        | refine X_y rfl (by first | exact Y_move rfl | exact Y_assign rfl | exact Y_nilCheck rfl | exact Y_nilCheckF rfl | exact Y_fieldAddr rfl | exact Y_load rfl (Vl_cl (by (repeat (first | exact .h | apply Pick.t)); done) rfl) | exact Y_load rfl (by assumption) | exact Y_loadAt rfl (by (repeat (first | exact .h | apply Pick.t)); done) (by rfl) | exact Y_leqd rfl rfl (by first | exact decide_eq_true (by omega) | exact decide_eq_false (by omega)) | exact Y_leq rfl rfl | exact Y_geqd rfl rfl (by first | exact decide_eq_true (by omega) | exact decide_eq_false (by omega)) | exact Y_geq rfl rfl | exact Y_neqd rfl rfl (by first | exact decide_eq_true (by omega) | exact decide_eq_false (by omega)) | exact Y_neq rfl rfl | exact Y_neq_nil rfl rfl | exact Y_sub' rfl rfl (w64 (by omega) (by omega)) | exact Y_sub' rfl rfl (wu64 (by omega) (by omega)) | exact Y_pick_t rfl rfl | exact Y_pick_f rfl rfl | fail) rfl ?_
        | refine X_yg rfl rfl rfl (by first | exact Y_move rfl | exact Y_assign rfl | exact Y_nilCheck rfl | exact Y_nilCheckF rfl | exact Y_fieldAddr rfl | exact Y_load rfl (Vl_cl (by (repeat (first | exact .h | apply Pick.t)); done) rfl) | exact Y_load rfl (by assumption) | exact Y_loadAt rfl (by (repeat (first | exact .h | apply Pick.t)); done) (by rfl) | exact Y_leqd rfl rfl (by first | exact decide_eq_true (by omega) | exact decide_eq_false (by omega)) | exact Y_leq rfl rfl | exact Y_geqd rfl rfl (by first | exact decide_eq_true (by omega) | exact decide_eq_false (by omega)) | exact Y_geq rfl rfl | exact Y_neqd rfl rfl (by first | exact decide_eq_true (by omega) | exact decide_eq_false (by omega)) | exact Y_neq rfl rfl | exact Y_neq_nil rfl rfl | exact Y_sub' rfl rfl (w64 (by omega) (by omega)) | exact Y_sub' rfl rfl (wu64 (by omega) (by omega)) | exact Y_pick_t rfl rfl | exact Y_pick_f rfl rfl | fail) rfl ?_
        | refine X_skip rfl rfl rfl rfl nofun rfl ?_ | refine X_loud rfl rfl ?_ | refine X_bar rfl ?_ | refine X_next (fun _ h => h) ?_
        | (refine X_next ?_ ?_; · exact fun _ h => sat_sub (by (repeat (first | exact .nil | exact .refl _ | exact .h | apply Pick.t | apply Picks.cons | apply Picks.skip)); done) h)
        | refine X_next (fun _ _ => sat_nil') ?_ | refine X_nil ?_
        | refine H_draw (id := 1) 9999 _ [(0, false), (1, false), (2, false), (3, false), (4, false), (5, false), (6, false), (7, false), (8, false), (9, false), (10, false), (11, false), (12, false), (13, false), (14, false), (15, false), (16, false), (17, false), (18, false), (19, false), (20, false), (21, false), (22, false), (23, false), (24, false)] (by kernel_rfl) (fun _ h => h) ?_
        | exact E_fin1 (.inl rfl) rfl rfl rfl (by (repeat (first | exact .nil | exact .refl _ | exact .h | apply Pick.t | apply Picks.cons | apply Picks.skip)); done)
        | exact E_fin1 (.inr rfl) rfl rfl rfl (by (repeat (first | exact .nil | exact .refl _ | exact .h | apply Pick.t | apply Picks.cons | apply Picks.skip)); done)
        | exact E_fin2 (.inl rfl) rfl rfl rfl rfl (by (repeat (first | exact .nil | exact .refl _ | exact .h | apply Pick.t | apply Picks.cons | apply Picks.skip)); done)
        | exact E_fin2 (.inr rfl) rfl rfl rfl rfl (by (repeat (first | exact .nil | exact .refl _ | exact .h | apply Pick.t | apply Picks.cons | apply Picks.skip)); done)
        | exact E_fin3 (.inl rfl) rfl rfl rfl rfl rfl (by (repeat (first | exact .nil | exact .refl _ | exact .h | apply Pick.t | apply Picks.cons | apply Picks.skip)); done)
        | exact E_fin3 (.inr rfl) rfl rfl rfl rfl rfl (by (repeat (first | exact .nil | exact .refl _ | exact .h | apply Pick.t | apply Picks.cons | apply Picks.skip)); done)
        | exact E_fin0 (.inl rfl) rfl (by (repeat (first | exact .nil | exact .refl _ | exact .h | apply Pick.t | apply Picks.cons | apply Picks.skip)); done)
        | exact E_fin0 (.inr rfl) rfl (by (repeat (first | exact .nil | exact .refl _ | exact .h | apply Pick.t | apply Picks.cons | apply Picks.skip)); done) | fail)
  · rw [decide_eq_false (by omega)]
    repeat (first
      | refine H_seq ?_ | refine H_block ?_ | refine H_region ?_ | refine TL_nil ?_ | refine N_then ?_ | refine N_block ?_ | refine H_skip ?_ | refine H_ret ?_ | refine R_then ?_ | refine R_block ?_ | refine H_exit ?_
      | refine X_then ?_ | refine X_block_eq ?_ | refine X_block_ne rfl ?_ | refine H_cond_t rfl ?_ | refine H_cond_f rfl ?_
      | refine TL_y (by first | exact Y_move rfl | exact Y_assign rfl | exact Y_nilCheck rfl | exact Y_nilCheckF rfl | exact Y_fieldAddr rfl | exact Y_load rfl (Vl_cl (by (repeat (first | exact .h | apply Pick.t)); done) rfl) | exact Y_load rfl (by assumption) | exact Y_loadAt rfl (by (repeat (first | exact .h | apply Pick.t)); done) (by rfl) | exact Y_leqd rfl rfl (by first | exact decide_eq_true (by omega) | exact decide_eq_false (by omega)) | exact Y_leq rfl rfl | exact Y_geqd rfl rfl (by first | exact decide_eq_true (by omega) | exact decide_eq_false (by omega)) | exact Y_geq rfl rfl | exact Y_neqd rfl rfl (by first | exact decide_eq_true (by omega) | exact decide_eq_false (by omega)) | exact Y_neq rfl rfl | exact Y_neq_nil rfl rfl | exact Y_sub' rfl rfl (w64 (by omega) (by omega)) | exact Y_sub' rfl rfl (wu64 (by omega) (by omega)) | exact Y_pick_t rfl rfl | exact Y_pick_f rfl rfl | fail) rfl ?_
      | refine TLg_run rfl rfl ?_ | refine TLg_skip rfl rfl rfl rfl ?_
      | refine X_y rfl (by first | exact Y_move rfl | exact Y_assign rfl | exact Y_nilCheck rfl | exact Y_nilCheckF rfl | exact Y_fieldAddr rfl | exact Y_load rfl (Vl_cl (by (repeat (first | exact .h | apply Pick.t)); done) rfl) | exact Y_load rfl (by assumption) | exact Y_loadAt rfl (by (repeat (first | exact .h | apply Pick.t)); done) (by rfl) | exact Y_leqd rfl rfl (by first | exact decide_eq_true (by omega) | exact decide_eq_false (by omega)) | exact Y_leq rfl rfl | exact Y_geqd rfl rfl (by first | exact decide_eq_true (by omega) | exact decide_eq_false (by omega)) | exact Y_geq rfl rfl | exact Y_neqd rfl rfl (by first | exact decide_eq_true (by omega) | exact decide_eq_false (by omega)) | exact Y_neq rfl rfl | exact Y_neq_nil rfl rfl | exact Y_sub' rfl rfl (w64 (by omega) (by omega)) | exact Y_sub' rfl rfl (wu64 (by omega) (by omega)) | exact Y_pick_t rfl rfl | exact Y_pick_f rfl rfl | fail) rfl ?_
      | refine X_yg rfl rfl rfl (by first | exact Y_move rfl | exact Y_assign rfl | exact Y_nilCheck rfl | exact Y_nilCheckF rfl | exact Y_fieldAddr rfl | exact Y_load rfl (Vl_cl (by (repeat (first | exact .h | apply Pick.t)); done) rfl) | exact Y_load rfl (by assumption) | exact Y_loadAt rfl (by (repeat (first | exact .h | apply Pick.t)); done) (by rfl) | exact Y_leqd rfl rfl (by first | exact decide_eq_true (by omega) | exact decide_eq_false (by omega)) | exact Y_leq rfl rfl | exact Y_geqd rfl rfl (by first | exact decide_eq_true (by omega) | exact decide_eq_false (by omega)) | exact Y_geq rfl rfl | exact Y_neqd rfl rfl (by first | exact decide_eq_true (by omega) | exact decide_eq_false (by omega)) | exact Y_neq rfl rfl | exact Y_neq_nil rfl rfl | exact Y_sub' rfl rfl (w64 (by omega) (by omega)) | exact Y_sub' rfl rfl (wu64 (by omega) (by omega)) | exact Y_pick_t rfl rfl | exact Y_pick_f rfl rfl | fail) rfl ?_
      | refine X_skip rfl rfl rfl rfl nofun rfl ?_ | refine X_loud rfl rfl ?_ | refine X_bar rfl ?_ | refine X_next (fun _ h => h) ?_
      | (refine X_next ?_ ?_; · exact fun _ h => sat_sub (by (repeat (first | exact .nil | exact .refl _ | exact .h | apply Pick.t | apply Picks.cons | apply Picks.skip)); done) h)
      | refine X_next (fun _ _ => sat_nil') ?_ | refine X_nil ?_
      | refine H_draw (id := 1) 9999 _ [(0, false), (1, false), (2, false), (3, false), (4, false), (5, false), (6, false), (7, false), (8, false), (9, false), (10, false), (11, false), (12, false), (13, false), (14, false), (15, false), (16, false), (17, false), (18, false), (19, false), (20, false), (21, false), (22, false), (23, false), (24, false)] (by kernel_rfl) (fun _ h => h) ?_
      | exact E_fin1 (.inl rfl) rfl rfl rfl (by (repeat (first | exact .nil | exact .refl _ | exact .h | apply Pick.t | apply Picks.cons | apply Picks.skip)); done)
      | exact E_fin1 (.inr rfl) rfl rfl rfl (by (repeat (first | exact .nil | exact .refl _ | exact .h | apply Pick.t | apply Picks.cons | apply Picks.skip)); done)
      | exact E_fin2 (.inl rfl) rfl rfl rfl rfl (by (repeat (first | exact .nil | exact .refl _ | exact .h | apply Pick.t | apply Picks.cons | apply Picks.skip)); done)
      | exact E_fin2 (.inr rfl) rfl rfl rfl rfl (by (repeat (first | exact .nil | exact .refl _ | exact .h | apply Pick.t | apply Picks.cons | apply Picks.skip)); done)
      | exact E_fin3 (.inl rfl) rfl rfl rfl rfl rfl (by (repeat (first | exact .nil | exact .refl _ | exact .h | apply Pick.t | apply Picks.cons | apply Picks.skip)); done)
      | exact E_fin3 (.inr rfl) rfl rfl rfl rfl rfl (by (repeat (first | exact .nil | exact .refl _ | exact .h | apply Pick.t | apply Picks.cons | apply Picks.skip)); done)
      | exact E_fin0 (.inl rfl) rfl (by (repeat (first | exact .nil | exact .refl _ | exact .h | apply Pick.t | apply Picks.cons | apply Picks.skip)); done)
      | exact E_fin0 (.inr rfl) rfl (by (repeat (first | exact .nil | exact .refl _ | exact .h | apply Pick.t | apply Picks.cons | apply Picks.skip)); done) | fail)
theorem led_append_no {p b : Nat} {c m u s t : Int} {M : List (Int × Value)} (h : M.lookup t = none) :
    CtA Try.prog 82 [ptrv p, u64v t] [ledC p b c m u s, mp b .u64 M] (i64v 110) fun F => ledC p b c m u s :: mp b .u64 M :: F := by
  intro F; simp only [List.cons_append, List.nil_append]; refine Ct_of Try.func82 rfl (n := 42) rfl rfl ?_
  repeat (first
    | refine H_seq ?_ | refine H_block ?_ | refine H_region ?_ | refine TL_nil ?_ | refine N_then ?_ | refine N_block ?_ | refine H_skip ?_ | refine H_ret ?_ | refine R_then ?_ | refine R_block ?_ | refine H_exit ?_
    | refine X_then ?_ | refine X_block_eq ?_ | refine X_block_ne rfl ?_ | refine H_cond_t rfl ?_ | refine H_cond_f rfl ?_
    | refine TL_y (by first | exact Y_move rfl | exact Y_assign rfl | exact Y_nilCheck rfl | exact Y_nilCheckF rfl | exact Y_fieldAddr rfl | exact Y_load rfl (Vl_cl (by (repeat (first | exact .h | apply Pick.t)); done) rfl) | exact Y_load rfl (by assumption) | exact Y_loadAt rfl (by (repeat (first | exact .h | apply Pick.t)); done) (by rfl) | exact Y_not rfl | exact Y_eqld rfl rfl (by first | exact decide_eq_true (by omega) | exact decide_eq_false (by omega)) | exact Y_eql rfl rfl | exact Y_eql_nil rfl rfl | exact Y_slice_eq_nil rfl rfl | exact Y_map_eq_nil rfl rfl | exact Y_add' rfl rfl (w64 (by omega) (by omega)) | exact Y_add' rfl rfl (wu64 (by omega) (by omega)) | exact Y_sub' rfl rfl (w64 (by omega) (by omega)) | exact Y_sub' rfl rfl (wu64 (by omega) (by omega)) | exact Y_lookup_some rfl rfl (by (repeat (first | exact .h | apply Pick.t)); done) (by assumption) | exact Y_lookup_none rfl rfl (by (repeat (first | exact .h | apply Pick.t)); done) (by assumption) | fail) rfl ?_
    | refine T_store rfl rfl rfl (by (repeat (first | exact .h | apply Pick.t)); done) rfl ?_ | refine T_mapUpdate rfl rfl rfl (by (repeat (first | exact .h | apply Pick.t)); done) ?_
    | refine T_storeAt rfl rfl (by (repeat (first | exact .h | apply Pick.t)); done) (by rfl) (by rfl) (by rfl) ?_
    | refine T_callA rfl rfl (by (repeat (first | exact .nil | exact .refl _ | exact .h | apply Pick.t | apply Picks.cons)); done) (led_has_f (by assumption)) ?_
    | exact E_fin1 (.inl rfl) rfl rfl rfl (by (repeat (first | exact .nil | exact .refl _ | exact .h | apply Pick.t | apply Picks.cons | apply Picks.skip)); done)
    | exact E_fin1 (.inr rfl) rfl rfl rfl (by (repeat (first | exact .nil | exact .refl _ | exact .h | apply Pick.t | apply Picks.cons | apply Picks.skip)); done)
    | exact E_fin2 (.inl rfl) rfl rfl rfl rfl (by (repeat (first | exact .nil | exact .refl _ | exact .h | apply Pick.t | apply Picks.cons | apply Picks.skip)); done)
    | exact E_fin2 (.inr rfl) rfl rfl rfl rfl (by (repeat (first | exact .nil | exact .refl _ | exact .h | apply Pick.t | apply Picks.cons | apply Picks.skip)); done)
    | exact E_fin3 (.inl rfl) rfl rfl rfl rfl rfl (by (repeat (first | exact .nil | exact .refl _ | exact .h | apply Pick.t | apply Picks.cons | apply Picks.skip)); done)
    | exact E_fin3 (.inr rfl) rfl rfl rfl rfl rfl (by (repeat (first | exact .nil | exact .refl _ | exact .h | apply Pick.t | apply Picks.cons | apply Picks.skip)); done)
    | exact E_fin0 (.inl rfl) rfl (by (repeat (first | exact .nil | exact .refl _ | exact .h | apply Pick.t | apply Picks.cons | apply Picks.skip)); done)
    | exact E_fin0 (.inr rfl) rfl (by (repeat (first | exact .nil | exact .refl _ | exact .h | apply Pick.t | apply Picks.cons | apply Picks.skip)); done) | fail)
theorem led_append_0 {p b : Nat} {c m u s t : Int} {M : List (Int × Value)} (h : M.lookup t = some (i64v 0)) :
    CtA Try.prog 82 [ptrv p, u64v t] [ledC p b c m u s, mp b .u64 M] (i64v 120) fun F => ledC p b c m u s :: mp b .u64 M :: F := by
  intro F; simp only [List.cons_append, List.nil_append]; refine Ct_of Try.func82 rfl (n := 42) rfl rfl ?_
  repeat (first
    | refine H_seq ?_ | refine H_block ?_ | refine H_region ?_ | refine TL_nil ?_ | refine N_then ?_ | refine N_block ?_ | refine H_skip ?_ | refine H_ret ?_ | refine R_then ?_ | refine R_block ?_ | refine H_exit ?_
    | refine X_then ?_ | refine X_block_eq ?_ | refine X_block_ne rfl ?_ | refine H_cond_t rfl ?_ | refine H_cond_f rfl ?_
    | refine TL_y (by first | exact Y_move rfl | exact Y_assign rfl | exact Y_nilCheck rfl | exact Y_nilCheckF rfl | exact Y_fieldAddr rfl | exact Y_load rfl (Vl_cl (by (repeat (first | exact .h | apply Pick.t)); done) rfl) | exact Y_load rfl (by assumption) | exact Y_loadAt rfl (by (repeat (first | exact .h | apply Pick.t)); done) (by rfl) | exact Y_not rfl | exact Y_eqld rfl rfl (by first | exact decide_eq_true (by omega) | exact decide_eq_false (by omega)) | exact Y_eql rfl rfl | exact Y_eql_nil rfl rfl | exact Y_slice_eq_nil rfl rfl | exact Y_map_eq_nil rfl rfl | exact Y_add' rfl rfl (w64 (by omega) (by omega)) | exact Y_add' rfl rfl (wu64 (by omega) (by omega)) | exact Y_sub' rfl rfl (w64 (by omega) (by omega)) | exact Y_sub' rfl rfl (wu64 (by omega) (by omega)) | exact Y_lookup_some rfl rfl (by (repeat (first | exact .h | apply Pick.t)); done) (by assumption) | exact Y_lookup_none rfl rfl (by (repeat (first | exact .h | apply Pick.t)); done) (by assumption) | fail) rfl ?_
    | refine T_store rfl rfl rfl (by (repeat (first | exact .h | apply Pick.t)); done) rfl ?_ | refine T_mapUpdate rfl rfl rfl (by (repeat (first | exact .h | apply Pick.t)); done) ?_
    | refine T_storeAt rfl rfl (by (repeat (first | exact .h | apply Pick.t)); done) (by rfl) (by rfl) (by rfl) ?_
    | refine T_callA rfl rfl (by (repeat (first | exact .nil | exact .refl _ | exact .h | apply Pick.t | apply Picks.cons)); done) (led_has_t (by assumption)) ?_
    | exact E_fin1 (.inl rfl) rfl rfl rfl (by (repeat (first | exact .nil | exact .refl _ | exact .h | apply Pick.t | apply Picks.cons | apply Picks.skip)); done)
    | exact E_fin1 (.inr rfl) rfl rfl rfl (by (repeat (first | exact .nil | exact .refl _ | exact .h | apply Pick.t | apply Picks.cons | apply Picks.skip)); done)
    | exact E_fin2 (.inl rfl) rfl rfl rfl rfl (by (repeat (first | exact .nil | exact .refl _ | exact .h | apply Pick.t | apply Picks.cons | apply Picks.skip)); done)
    | exact E_fin2 (.inr rfl) rfl rfl rfl rfl (by (repeat (first | exact .nil | exact .refl _ | exact .h | apply Pick.t | apply Picks.cons | apply Picks.skip)); done)
    | exact E_fin3 (.inl rfl) rfl rfl rfl rfl rfl (by (repeat (first | exact .nil | exact .refl _ | exact .h | apply Pick.t | apply Picks.cons | apply Picks.skip)); done)
    | exact E_fin3 (.inr rfl) rfl rfl rfl rfl rfl (by (repeat (first | exact .nil | exact .refl _ | exact .h | apply Pick.t | apply Picks.cons | apply Picks.skip)); done)
    | exact E_fin0 (.inl rfl) rfl (by (repeat (first | exact .nil | exact .refl _ | exact .h | apply Pick.t | apply Picks.cons | apply Picks.skip)); done)
    | exact E_fin0 (.inr rfl) rfl (by (repeat (first | exact .nil | exact .refl _ | exact .h | apply Pick.t | apply Picks.cons | apply Picks.skip)); done) | fail)
theorem led_append_ok {p b : Nat} {c m u s t x : Int} {M : List (Int × Value)} (h : M.lookup t = some (i64v x)) (hx : 0 < x ∧ x ≤ 64) (hu : 0 ≤ u ∧ u ≤ 64) (hs : 1 ≤ s ∧ s ≤ 64) :
    CtA Try.prog 82 [ptrv p, u64v t] [ledC p b c m u s, mp b .u64 M] (i64v 0) fun F => ledC p b c m (u + 1) (s - 1) :: mp b .u64 (mset M t (i64v (x - 1))) :: F := by
  intro F; simp only [List.cons_append, List.nil_append]; refine Ct_of Try.func82 rfl (n := 42) rfl rfl ?_
  repeat (first
    | refine H_seq ?_ | refine H_block ?_ | refine H_region ?_ | refine TL_nil ?_ | refine N_then ?_ | refine N_block ?_ | refine H_skip ?_ | refine H_ret ?_ | refine R_then ?_ | refine R_block ?_ | refine H_exit ?_
    | refine X_then ?_ | refine X_block_eq ?_ | refine X_block_ne rfl ?_ | refine H_cond_t rfl ?_ | refine H_cond_f rfl ?_
    | refine TL_y (by first | exact Y_move rfl | exact Y_assign rfl | exact Y_nilCheck rfl | exact Y_nilCheckF rfl | exact Y_fieldAddr rfl | exact Y_load rfl (Vl_cl (by (repeat (first | exact .h | apply Pick.t)); done) rfl) | exact Y_load rfl (by assumption) | exact Y_loadAt rfl (by (repeat (first | exact .h | apply Pick.t)); done) (by rfl) | exact Y_not rfl | exact Y_eqld rfl rfl (by first | exact decide_eq_true (by omega) | exact decide_eq_false (by omega)) | exact Y_eql rfl rfl | exact Y_eql_nil rfl rfl | exact Y_slice_eq_nil rfl rfl | exact Y_map_eq_nil rfl rfl | exact Y_add' rfl rfl (w64 (by omega) (by omega)) | exact Y_add' rfl rfl (wu64 (by omega) (by omega)) | exact Y_sub' rfl rfl (w64 (by omega) (by omega)) | exact Y_sub' rfl rfl (wu64 (by omega) (by omega)) | exact Y_lookup_some rfl rfl (by (repeat (first | exact .h | apply Pick.t)); done) (by assumption) | exact Y_lookup_none rfl rfl (by (repeat (first | exact .h | apply Pick.t)); done) (by assumption) | fail) rfl ?_
    | refine T_store rfl rfl rfl (by (repeat (first | exact .h | apply Pick.t)); done) rfl ?_ | refine T_mapUpdate rfl rfl rfl (by (repeat (first | exact .h | apply Pick.t)); done) ?_
    | refine T_storeAt rfl rfl (by (repeat (first | exact .h | apply Pick.t)); done) (by rfl) (by rfl) (by rfl) ?_
    | refine T_callA rfl rfl (by (repeat (first | exact .nil | exact .refl _ | exact .h | apply Pick.t | apply Picks.cons)); done) (led_has_t (by assumption)) ?_
    | exact E_fin1 (.inl rfl) rfl rfl rfl (by (repeat (first | exact .nil | exact .refl _ | exact .h | apply Pick.t | apply Picks.cons | apply Picks.skip)); done)
    | exact E_fin1 (.inr rfl) rfl rfl rfl (by (repeat (first | exact .nil | exact .refl _ | exact .h | apply Pick.t | apply Picks.cons | apply Picks.skip)); done)
    | exact E_fin2 (.inl rfl) rfl rfl rfl rfl (by (repeat (first | exact .nil | exact .refl _ | exact .h | apply Pick.t | apply Picks.cons | apply Picks.skip)); done)
    | exact E_fin2 (.inr rfl) rfl rfl rfl rfl (by (repeat (first | exact .nil | exact .refl _ | exact .h | apply Pick.t | apply Picks.cons | apply Picks.skip)); done)
    | exact E_fin3 (.inl rfl) rfl rfl rfl rfl rfl (by (repeat (first | exact .nil | exact .refl _ | exact .h | apply Pick.t | apply Picks.cons | apply Picks.skip)); done)
    | exact E_fin3 (.inr rfl) rfl rfl rfl rfl rfl (by (repeat (first | exact .nil | exact .refl _ | exact .h | apply Pick.t | apply Picks.cons | apply Picks.skip)); done)
    | exact E_fin0 (.inl rfl) rfl (by (repeat (first | exact .nil | exact .refl _ | exact .h | apply Pick.t | apply Picks.cons | apply Picks.skip)); done)
    | exact E_fin0 (.inr rfl) rfl (by (repeat (first | exact .nil | exact .refl _ | exact .h | apply Pick.t | apply Picks.cons | apply Picks.skip)); done) | fail)
theorem led_close_no {p b : Nat} {c m u s t : Int} {M : List (Int × Value)} (h : M.lookup t = none) :
    CtA Try.prog 131 [ptrv p, u64v t] [ledC p b c m u s, mp b .u64 M] (i64v 110) fun F => ledC p b c m u s :: mp b .u64 M :: F := by
  intro F; simp only [List.cons_append, List.nil_append]; refine Ct_of Try.func131 rfl (n := 31) rfl rfl ?_
  repeat (first
    | refine H_seq ?_ | refine H_block ?_ | refine H_region ?_ | refine TL_nil ?_ | refine N_then ?_ | refine N_block ?_ | refine H_skip ?_ | refine H_ret ?_ | refine R_then ?_ | refine R_block ?_ | refine H_exit ?_
    | refine X_then ?_ | refine X_block_eq ?_ | refine X_block_ne rfl ?_ | refine H_cond_t rfl ?_ | refine H_cond_f rfl ?_
    | refine TL_y (by first | exact Y_move rfl | exact Y_assign rfl | exact Y_nilCheck rfl | exact Y_nilCheckF rfl | exact Y_fieldAddr rfl | exact Y_load rfl (Vl_cl (by (repeat (first | exact .h | apply Pick.t)); done) rfl) | exact Y_load rfl (by assumption) | exact Y_loadAt rfl (by (repeat (first | exact .h | apply Pick.t)); done) (by rfl) | exact Y_not rfl | exact Y_eqld rfl rfl (by first | exact decide_eq_true (by omega) | exact decide_eq_false (by omega)) | exact Y_eql rfl rfl | exact Y_eql_nil rfl rfl | exact Y_slice_eq_nil rfl rfl | exact Y_map_eq_nil rfl rfl | exact Y_sub' rfl rfl (w64 (by omega) (by omega)) | exact Y_sub' rfl rfl (wu64 (by omega) (by omega)) | exact Y_lookup_some rfl rfl (by (repeat (first | exact .h | apply Pick.t)); done) (by assumption) | exact Y_lookup_none rfl rfl (by (repeat (first | exact .h | apply Pick.t)); done) (by assumption) | fail) rfl ?_
    | refine T_store rfl rfl rfl (by (repeat (first | exact .h | apply Pick.t)); done) rfl ?_ | refine T_delete rfl rfl (by (repeat (first | exact .h | apply Pick.t)); done) ?_
    | refine T_storeAt rfl rfl (by (repeat (first | exact .h | apply Pick.t)); done) (by rfl) (by rfl) (by rfl) ?_
    | refine T_callA rfl rfl (by (repeat (first | exact .nil | exact .refl _ | exact .h | apply Pick.t | apply Picks.cons)); done) (led_has_f (by assumption)) ?_
    | refine X_y rfl (by first | exact Y_move rfl | exact Y_assign rfl | exact Y_nilCheck rfl | exact Y_nilCheckF rfl | exact Y_fieldAddr rfl | exact Y_load rfl (Vl_cl (by (repeat (first | exact .h | apply Pick.t)); done) rfl) | exact Y_load rfl (by assumption) | exact Y_loadAt rfl (by (repeat (first | exact .h | apply Pick.t)); done) (by rfl) | exact Y_not rfl | exact Y_eqld rfl rfl (by first | exact decide_eq_true (by omega) | exact decide_eq_false (by omega)) | exact Y_eql rfl rfl | exact Y_eql_nil rfl rfl | exact Y_slice_eq_nil rfl rfl | exact Y_map_eq_nil rfl rfl | exact Y_sub' rfl rfl (w64 (by omega) (by omega)) | exact Y_sub' rfl rfl (wu64 (by omega) (by omega)) | exact Y_lookup_some rfl rfl (by (repeat (first | exact .h | apply Pick.t)); done) (by assumption) | exact Y_lookup_none rfl rfl (by (repeat (first | exact .h | apply Pick.t)); done) (by assumption) | fail) rfl ?_
    | refine X_loud rfl rfl ?_ | refine X_bar rfl ?_ | refine X_next (fun _ h => h) ?_
    | (refine X_next ?_ ?_; · exact fun _ h => sat_sub (by (repeat (first | exact .nil | exact .refl _ | exact .h | apply Pick.t | apply Picks.cons | apply Picks.skip)); done) h) | refine X_next (fun _ _ => sat_nil') ?_
    | refine X_nil ?_
    | refine H_draw (id := 5) 13 _ [(0, false), (1, false), (2, false), (3, false), (4, false), (5, false), (6, false), (7, false), (8, false), (9, false), (10, false), (11, false), (12, false), (13, true)] (by kernel_rfl) (fun _ h => h) ?_
    | exact E_fin1 (.inl rfl) rfl rfl rfl (by (repeat (first | exact .nil | exact .refl _ | exact .h | apply Pick.t | apply Picks.cons | apply Picks.skip)); done)
    | exact E_fin1 (.inr rfl) rfl rfl rfl (by (repeat (first | exact .nil | exact .refl _ | exact .h | apply Pick.t | apply Picks.cons | apply Picks.skip)); done)
    | exact E_fin2 (.inl rfl) rfl rfl rfl rfl (by (repeat (first | exact .nil | exact .refl _ | exact .h | apply Pick.t | apply Picks.cons | apply Picks.skip)); done)
    | exact E_fin2 (.inr rfl) rfl rfl rfl rfl (by (repeat (first | exact .nil | exact .refl _ | exact .h | apply Pick.t | apply Picks.cons | apply Picks.skip)); done)
    | exact E_fin3 (.inl rfl) rfl rfl rfl rfl rfl (by (repeat (first | exact .nil | exact .refl _ | exact .h | apply Pick.t | apply Picks.cons | apply Picks.skip)); done)
    | exact E_fin3 (.inr rfl) rfl rfl rfl rfl rfl (by (repeat (first | exact .nil | exact .refl _ | exact .h | apply Pick.t | apply Picks.cons | apply Picks.skip)); done)
    | exact E_fin0 (.inl rfl) rfl (by (repeat (first | exact .nil | exact .refl _ | exact .h | apply Pick.t | apply Picks.cons | apply Picks.skip)); done)
    | exact E_fin0 (.inr rfl) rfl (by (repeat (first | exact .nil | exact .refl _ | exact .h | apply Pick.t | apply Picks.cons | apply Picks.skip)); done) | fail)
theorem led_close_ok {p b : Nat} {c m u s t x : Int} {M : List (Int × Value)} (h : M.lookup t = some (i64v x)) (hx : 0 ≤ x ∧ x ≤ 64) (hs : x ≤ s ∧ s ≤ 64) :
    CtA Try.prog 131 [ptrv p, u64v t] [ledC p b c m u s, mp b .u64 M] (i64v 0) fun F => ledC p b c m u (s - x) :: mp b .u64 (mdel M t) :: F := by
  intro F; simp only [List.cons_append, List.nil_append]; refine Ct_of Try.func131 rfl (n := 31) rfl rfl ?_
  repeat (first
    | refine H_seq ?_ | refine H_block ?_ | refine H_region ?_ | refine TL_nil ?_ | refine N_then ?_ | refine N_block ?_ | refine H_skip ?_ | refine H_ret ?_ | refine R_then ?_ | refine R_block ?_ | refine H_exit ?_
    | refine X_then ?_ | refine X_block_eq ?_ | refine X_block_ne rfl ?_ | refine H_cond_t rfl ?_ | refine H_cond_f rfl ?_
    | refine TL_y (by first | exact Y_move rfl | exact Y_assign rfl | exact Y_nilCheck rfl | exact Y_nilCheckF rfl | exact Y_fieldAddr rfl | exact Y_load rfl (Vl_cl (by (repeat (first | exact .h | apply Pick.t)); done) rfl) | exact Y_load rfl (by assumption) | exact Y_loadAt rfl (by (repeat (first | exact .h | apply Pick.t)); done) (by rfl) | exact Y_not rfl | exact Y_eqld rfl rfl (by first | exact decide_eq_true (by omega) | exact decide_eq_false (by omega)) | exact Y_eql rfl rfl | exact Y_eql_nil rfl rfl | exact Y_slice_eq_nil rfl rfl | exact Y_map_eq_nil rfl rfl | exact Y_sub' rfl rfl (w64 (by omega) (by omega)) | exact Y_sub' rfl rfl (wu64 (by omega) (by omega)) | exact Y_lookup_some rfl rfl (by (repeat (first | exact .h | apply Pick.t)); done) (by assumption) | exact Y_lookup_none rfl rfl (by (repeat (first | exact .h | apply Pick.t)); done) (by assumption) | fail) rfl ?_
    | refine T_store rfl rfl rfl (by (repeat (first | exact .h | apply Pick.t)); done) rfl ?_ | refine T_delete rfl rfl (by (repeat (first | exact .h | apply Pick.t)); done) ?_
    | refine T_storeAt rfl rfl (by (repeat (first | exact .h | apply Pick.t)); done) (by rfl) (by rfl) (by rfl) ?_
    | refine T_callA rfl rfl (by (repeat (first | exact .nil | exact .refl _ | exact .h | apply Pick.t | apply Picks.cons)); done) (led_has_t (by assumption)) ?_
    | refine X_y rfl (by first | exact Y_move rfl | exact Y_assign rfl | exact Y_nilCheck rfl | exact Y_nilCheckF rfl | exact Y_fieldAddr rfl | exact Y_load rfl (Vl_cl (by (repeat (first | exact .h | apply Pick.t)); done) rfl) | exact Y_load rfl (by assumption) | exact Y_loadAt rfl (by (repeat (first | exact .h | apply Pick.t)); done) (by rfl) | exact Y_not rfl | exact Y_eqld rfl rfl (by first | exact decide_eq_true (by omega) | exact decide_eq_false (by omega)) | exact Y_eql rfl rfl | exact Y_eql_nil rfl rfl | exact Y_slice_eq_nil rfl rfl | exact Y_map_eq_nil rfl rfl | exact Y_sub' rfl rfl (w64 (by omega) (by omega)) | exact Y_sub' rfl rfl (wu64 (by omega) (by omega)) | exact Y_lookup_some rfl rfl (by (repeat (first | exact .h | apply Pick.t)); done) (by assumption) | exact Y_lookup_none rfl rfl (by (repeat (first | exact .h | apply Pick.t)); done) (by assumption) | fail) rfl ?_
    | refine X_loud rfl rfl ?_ | refine X_bar rfl ?_ | refine X_next (fun _ h => h) ?_
    | (refine X_next ?_ ?_; · exact fun _ h => sat_sub (by (repeat (first | exact .nil | exact .refl _ | exact .h | apply Pick.t | apply Picks.cons | apply Picks.skip)); done) h) | refine X_next (fun _ _ => sat_nil') ?_
    | refine X_nil ?_
    | refine H_draw (id := 5) 13 _ [(0, false), (1, false), (2, false), (3, false), (4, false), (5, false), (6, false), (7, false), (8, false), (9, false), (10, false), (11, false), (12, false), (13, true)] (by kernel_rfl) (fun _ h => h) ?_
    | exact E_fin1 (.inl rfl) rfl rfl rfl (by (repeat (first | exact .nil | exact .refl _ | exact .h | apply Pick.t | apply Picks.cons | apply Picks.skip)); done)
    | exact E_fin1 (.inr rfl) rfl rfl rfl (by (repeat (first | exact .nil | exact .refl _ | exact .h | apply Pick.t | apply Picks.cons | apply Picks.skip)); done)
    | exact E_fin2 (.inl rfl) rfl rfl rfl rfl (by (repeat (first | exact .nil | exact .refl _ | exact .h | apply Pick.t | apply Picks.cons | apply Picks.skip)); done)
    | exact E_fin2 (.inr rfl) rfl rfl rfl rfl (by (repeat (first | exact .nil | exact .refl _ | exact .h | apply Pick.t | apply Picks.cons | apply Picks.skip)); done)
    | exact E_fin3 (.inl rfl) rfl rfl rfl rfl rfl (by (repeat (first | exact .nil | exact .refl _ | exact .h | apply Pick.t | apply Picks.cons | apply Picks.skip)); done)
    | exact E_fin3 (.inr rfl) rfl rfl rfl rfl rfl (by (repeat (first | exact .nil | exact .refl _ | exact .h | apply Pick.t | apply Picks.cons | apply Picks.skip)); done)
    | exact E_fin0 (.inl rfl) rfl (by (repeat (first | exact .nil | exact .refl _ | exact .h | apply Pick.t | apply Picks.cons | apply Picks.skip)); done)
    | exact E_fin0 (.inr rfl) rfl (by (repeat (first | exact .nil | exact .refl _ | exact .h | apply Pick.t | apply Picks.cons | apply Picks.skip)); done) | fail)
theorem led_reserve_in {p b : Nat} {c m u s k t : Int} {M : List (Int × Value)} (hk : t = 0 ∨ k < 1) :
    CtA Try.prog 75 [ptrv p, u64v t, i64v k] [ledC p b c m u s, mp b .u64 M] (i64v 2) fun F => ledC p b c m u s :: mp b .u64 M :: F := by
  intro F; simp only [List.cons_append, List.nil_append]; refine Ct_of Try.func75 rfl (n := 40) rfl rfl ?_
  by_cases h0 : t = 0
  · repeat (first
      | refine H_seq ?_ | refine H_block ?_ | refine H_region ?_ | refine TL_nil ?_ | refine N_then ?_ | refine N_block ?_ | refine H_skip ?_ | refine H_ret ?_ | refine R_then ?_ | refine R_block ?_ | refine H_exit ?_
      | refine X_then ?_ | refine X_block_eq ?_ | refine X_block_ne rfl ?_ | refine H_cond_t rfl ?_ | refine H_cond_f rfl ?_
      | refine TL_y (by first | exact Y_move rfl | exact Y_assign rfl | exact Y_nilCheck rfl | exact Y_nilCheckF rfl | exact Y_fieldAddr rfl | exact Y_load rfl (Vl_cl (by (repeat (first | exact .h | apply Pick.t)); done) rfl) | exact Y_load rfl (by assumption) | exact Y_loadAt rfl (by (repeat (first | exact .h | apply Pick.t)); done) (by rfl) | exact Y_not rfl | exact Y_lssd rfl rfl (by first | exact decide_eq_true (by omega) | exact decide_eq_false (by omega)) | exact Y_lss rfl rfl | exact Y_eqld rfl rfl (by first | exact decide_eq_true (by omega) | exact decide_eq_false (by omega)) | exact Y_eql rfl rfl | exact Y_eql_nil rfl rfl | exact Y_slice_eq_nil rfl rfl | exact Y_map_eq_nil rfl rfl | exact Y_add' rfl rfl (w64 (by omega) (by omega)) | exact Y_add' rfl rfl (wu64 (by omega) (by omega)) | exact Y_pick_t rfl rfl | exact Y_pick_f rfl rfl | fail) rfl ?_
      | refine TLg_run rfl rfl ?_ | refine TLg_skip rfl rfl rfl rfl ?_ | refine T_store rfl rfl rfl (by (repeat (first | exact .h | apply Pick.t)); done) rfl ?_
      | refine T_mapUpdate rfl rfl rfl (by (repeat (first | exact .h | apply Pick.t)); done) ?_ | refine T_storeAt rfl rfl (by (repeat (first | exact .h | apply Pick.t)); done) (by rfl) (by rfl) (by rfl) ?_
      | exact E_fin1 (.inl rfl) rfl rfl rfl (by (repeat (first | exact .nil | exact .refl _ | exact .h | apply Pick.t | apply Picks.cons | apply Picks.skip)); done)
      | exact E_fin1 (.inr rfl) rfl rfl rfl (by (repeat (first | exact .nil | exact .refl _ | exact .h | apply Pick.t | apply Picks.cons | apply Picks.skip)); done)
      | exact E_fin2 (.inl rfl) rfl rfl rfl rfl (by (repeat (first | exact .nil | exact .refl _ | exact .h | apply Pick.t | apply Picks.cons | apply Picks.skip)); done)
      | exact E_fin2 (.inr rfl) rfl rfl rfl rfl (by (repeat (first | exact .nil | exact .refl _ | exact .h | apply Pick.t | apply Picks.cons | apply Picks.skip)); done)
      | exact E_fin3 (.inl rfl) rfl rfl rfl rfl rfl (by (repeat (first | exact .nil | exact .refl _ | exact .h | apply Pick.t | apply Picks.cons | apply Picks.skip)); done)
      | exact E_fin3 (.inr rfl) rfl rfl rfl rfl rfl (by (repeat (first | exact .nil | exact .refl _ | exact .h | apply Pick.t | apply Picks.cons | apply Picks.skip)); done)
      | exact E_fin0 (.inl rfl) rfl (by (repeat (first | exact .nil | exact .refl _ | exact .h | apply Pick.t | apply Picks.cons | apply Picks.skip)); done)
      | exact E_fin0 (.inr rfl) rfl (by (repeat (first | exact .nil | exact .refl _ | exact .h | apply Pick.t | apply Picks.cons | apply Picks.skip)); done) | fail)
  · repeat (first
      | refine H_seq ?_ | refine H_block ?_ | refine H_region ?_ | refine TL_nil ?_ | refine N_then ?_ | refine N_block ?_ | refine H_skip ?_ | refine H_ret ?_ | refine R_then ?_ | refine R_block ?_ | refine H_exit ?_
      | refine X_then ?_ | refine X_block_eq ?_ | refine X_block_ne rfl ?_ | refine H_cond_t rfl ?_ | refine H_cond_f rfl ?_
      | refine TL_y (by first | exact Y_move rfl | exact Y_assign rfl | exact Y_nilCheck rfl | exact Y_nilCheckF rfl | exact Y_fieldAddr rfl | exact Y_load rfl (Vl_cl (by (repeat (first | exact .h | apply Pick.t)); done) rfl) | exact Y_load rfl (by assumption) | exact Y_loadAt rfl (by (repeat (first | exact .h | apply Pick.t)); done) (by rfl) | exact Y_not rfl | exact Y_lssd rfl rfl (by first | exact decide_eq_true (by omega) | exact decide_eq_false (by omega)) | exact Y_lss rfl rfl | exact Y_eqld rfl rfl (by first | exact decide_eq_true (by omega) | exact decide_eq_false (by omega)) | exact Y_eql rfl rfl | exact Y_eql_nil rfl rfl | exact Y_slice_eq_nil rfl rfl | exact Y_map_eq_nil rfl rfl | exact Y_add' rfl rfl (w64 (by omega) (by omega)) | exact Y_add' rfl rfl (wu64 (by omega) (by omega)) | exact Y_pick_t rfl rfl | exact Y_pick_f rfl rfl | fail) rfl ?_
      | refine TLg_run rfl rfl ?_ | refine TLg_skip rfl rfl rfl rfl ?_ | refine T_store rfl rfl rfl (by (repeat (first | exact .h | apply Pick.t)); done) rfl ?_
      | refine T_mapUpdate rfl rfl rfl (by (repeat (first | exact .h | apply Pick.t)); done) ?_ | refine T_storeAt rfl rfl (by (repeat (first | exact .h | apply Pick.t)); done) (by rfl) (by rfl) (by rfl) ?_
      | exact E_fin1 (.inl rfl) rfl rfl rfl (by (repeat (first | exact .nil | exact .refl _ | exact .h | apply Pick.t | apply Picks.cons | apply Picks.skip)); done)
      | exact E_fin1 (.inr rfl) rfl rfl rfl (by (repeat (first | exact .nil | exact .refl _ | exact .h | apply Pick.t | apply Picks.cons | apply Picks.skip)); done)
      | exact E_fin2 (.inl rfl) rfl rfl rfl rfl (by (repeat (first | exact .nil | exact .refl _ | exact .h | apply Pick.t | apply Picks.cons | apply Picks.skip)); done)
      | exact E_fin2 (.inr rfl) rfl rfl rfl rfl (by (repeat (first | exact .nil | exact .refl _ | exact .h | apply Pick.t | apply Picks.cons | apply Picks.skip)); done)
      | exact E_fin3 (.inl rfl) rfl rfl rfl rfl rfl (by (repeat (first | exact .nil | exact .refl _ | exact .h | apply Pick.t | apply Picks.cons | apply Picks.skip)); done)
      | exact E_fin3 (.inr rfl) rfl rfl rfl rfl rfl (by (repeat (first | exact .nil | exact .refl _ | exact .h | apply Pick.t | apply Picks.cons | apply Picks.skip)); done)
      | exact E_fin0 (.inl rfl) rfl (by (repeat (first | exact .nil | exact .refl _ | exact .h | apply Pick.t | apply Picks.cons | apply Picks.skip)); done)
      | exact E_fin0 (.inr rfl) rfl (by (repeat (first | exact .nil | exact .refl _ | exact .h | apply Pick.t | apply Picks.cons | apply Picks.skip)); done) | fail)
theorem led_reserve_has {p b : Nat} {c m u s k t : Int} {M : List (Int × Value)} {v : Value} (ht : 0 < t) (hk : 1 ≤ k) (h : M.lookup t = some v) :
    CtA Try.prog 75 [ptrv p, u64v t, i64v k] [ledC p b c m u s, mp b .u64 M] (i64v 110) fun F => ledC p b c m u s :: mp b .u64 M :: F := by
  intro F; simp only [List.cons_append, List.nil_append]; refine Ct_of Try.func75 rfl (n := 40) rfl rfl ?_
  repeat (first
    | refine H_seq ?_ | refine H_block ?_ | refine H_region ?_ | refine TL_nil ?_ | refine N_then ?_ | refine N_block ?_ | refine H_skip ?_ | refine H_ret ?_ | refine R_then ?_ | refine R_block ?_ | refine H_exit ?_
    | refine X_then ?_ | refine X_block_eq ?_ | refine X_block_ne rfl ?_ | refine H_cond_t rfl ?_ | refine H_cond_f rfl ?_
    | refine TL_y (by first | exact Y_move rfl | exact Y_assign rfl | exact Y_nilCheck rfl | exact Y_nilCheckF rfl | exact Y_fieldAddr rfl | exact Y_load rfl (Vl_cl (by (repeat (first | exact .h | apply Pick.t)); done) rfl) | exact Y_load rfl (by assumption) | exact Y_loadAt rfl (by (repeat (first | exact .h | apply Pick.t)); done) (by rfl) | exact Y_not rfl | exact Y_lssd rfl rfl (by first | exact decide_eq_true (by omega) | exact decide_eq_false (by omega)) | exact Y_lss rfl rfl | exact Y_eqld rfl rfl (by first | exact decide_eq_true (by omega) | exact decide_eq_false (by omega)) | exact Y_eql rfl rfl | exact Y_eql_nil rfl rfl | exact Y_slice_eq_nil rfl rfl | exact Y_map_eq_nil rfl rfl | exact Y_add' rfl rfl (w64 (by omega) (by omega)) | exact Y_add' rfl rfl (wu64 (by omega) (by omega)) | exact Y_pick_t rfl rfl | exact Y_pick_f rfl rfl | fail) rfl ?_
    | refine TLg_run rfl rfl ?_ | refine TLg_skip rfl rfl rfl rfl ?_ | refine T_store rfl rfl rfl (by (repeat (first | exact .h | apply Pick.t)); done) rfl ?_
    | refine T_mapUpdate rfl rfl rfl (by (repeat (first | exact .h | apply Pick.t)); done) ?_ | refine T_storeAt rfl rfl (by (repeat (first | exact .h | apply Pick.t)); done) (by rfl) (by rfl) (by rfl) ?_
    | refine T_callA rfl rfl (by (repeat (first | exact .nil | exact .refl _ | exact .h | apply Pick.t | apply Picks.cons)); done) (led_has_t (by assumption)) ?_
    | exact E_fin1 (.inl rfl) rfl rfl rfl (by (repeat (first | exact .nil | exact .refl _ | exact .h | apply Pick.t | apply Picks.cons | apply Picks.skip)); done)
    | exact E_fin1 (.inr rfl) rfl rfl rfl (by (repeat (first | exact .nil | exact .refl _ | exact .h | apply Pick.t | apply Picks.cons | apply Picks.skip)); done)
    | exact E_fin2 (.inl rfl) rfl rfl rfl rfl (by (repeat (first | exact .nil | exact .refl _ | exact .h | apply Pick.t | apply Picks.cons | apply Picks.skip)); done)
    | exact E_fin2 (.inr rfl) rfl rfl rfl rfl (by (repeat (first | exact .nil | exact .refl _ | exact .h | apply Pick.t | apply Picks.cons | apply Picks.skip)); done)
    | exact E_fin3 (.inl rfl) rfl rfl rfl rfl rfl (by (repeat (first | exact .nil | exact .refl _ | exact .h | apply Pick.t | apply Picks.cons | apply Picks.skip)); done)
    | exact E_fin3 (.inr rfl) rfl rfl rfl rfl rfl (by (repeat (first | exact .nil | exact .refl _ | exact .h | apply Pick.t | apply Picks.cons | apply Picks.skip)); done)
    | exact E_fin0 (.inl rfl) rfl (by (repeat (first | exact .nil | exact .refl _ | exact .h | apply Pick.t | apply Picks.cons | apply Picks.skip)); done)
    | exact E_fin0 (.inr rfl) rfl (by (repeat (first | exact .nil | exact .refl _ | exact .h | apply Pick.t | apply Picks.cons | apply Picks.skip)); done) | fail)
theorem led_reserve_room {p b : Nat} {c m u s k t : Int} {M : List (Int × Value)} (hc : 2 ≤ c ∧ c ≤ 64) (hu : 0 ≤ u) (hs : 0 ≤ s) (hus : u + s ≤ c) (ht : 0 < t) (hk : 1 ≤ k) (h : M.lookup t = none) (hf : c < u + s + k) :
    CtA Try.prog 75 [ptrv p, u64v t, i64v k] [ledC p b c m u s, mp b .u64 M] (i64v 120) fun F => ledC p b c m u s :: mp b .u64 M :: F := by
  have hd : decide (1 ≤ k ∧ u + s + k ≤ c) = false := decide_eq_false (by omega)
  intro F; simp only [List.cons_append, List.nil_append]; refine Ct_of Try.func75 rfl (n := 40) rfl rfl ?_
  repeat (first
    | refine H_seq ?_ | refine H_block ?_ | refine H_region ?_ | refine TL_nil ?_ | refine N_then ?_ | refine N_block ?_ | refine H_skip ?_ | refine H_ret ?_ | refine R_then ?_ | refine R_block ?_ | refine H_exit ?_
    | refine X_then ?_ | refine X_block_eq ?_ | refine X_block_ne rfl ?_ | refine H_cond_t rfl ?_ | refine H_cond_f rfl ?_
    | refine TL_y (by first | exact Y_move rfl | exact Y_assign rfl | exact Y_nilCheck rfl | exact Y_nilCheckF rfl | exact Y_fieldAddr rfl | exact Y_load rfl (Vl_cl (by (repeat (first | exact .h | apply Pick.t)); done) rfl) | exact Y_load rfl (by assumption) | exact Y_loadAt rfl (by (repeat (first | exact .h | apply Pick.t)); done) (by rfl) | exact Y_not rfl | exact Y_lssd rfl rfl (by first | exact decide_eq_true (by omega) | exact decide_eq_false (by omega)) | exact Y_lss rfl rfl | exact Y_eqld rfl rfl (by first | exact decide_eq_true (by omega) | exact decide_eq_false (by omega)) | exact Y_eql rfl rfl | exact Y_eql_nil rfl rfl | exact Y_slice_eq_nil rfl rfl | exact Y_map_eq_nil rfl rfl | exact Y_add' rfl rfl (w64 (by omega) (by omega)) | exact Y_add' rfl rfl (wu64 (by omega) (by omega)) | exact Y_pick_t rfl rfl | exact Y_pick_f rfl rfl | fail) rfl ?_
    | refine TLg_run rfl rfl ?_ | refine TLg_skip rfl rfl rfl rfl ?_ | refine T_store rfl rfl rfl (by (repeat (first | exact .h | apply Pick.t)); done) rfl ?_
    | refine T_mapUpdate rfl rfl rfl (by (repeat (first | exact .h | apply Pick.t)); done) ?_ | refine T_storeAt rfl rfl (by (repeat (first | exact .h | apply Pick.t)); done) (by rfl) (by rfl) (by rfl) ?_
    | refine T_callA rfl rfl (by (repeat (first | exact .nil | exact .refl _ | exact .h | apply Pick.t | apply Picks.cons)); done) (led_has_f (by assumption)) ?_
    | refine T_callA rfl rfl (by (repeat (first | exact .nil | exact .refl _ | exact .h | apply Pick.t | apply Picks.cons)); done) (hd ▸ led_fits hc hu hs hus) ?_
    | exact E_fin1 (.inl rfl) rfl rfl rfl (by (repeat (first | exact .nil | exact .refl _ | exact .h | apply Pick.t | apply Picks.cons | apply Picks.skip)); done)
    | exact E_fin1 (.inr rfl) rfl rfl rfl (by (repeat (first | exact .nil | exact .refl _ | exact .h | apply Pick.t | apply Picks.cons | apply Picks.skip)); done)
    | exact E_fin2 (.inl rfl) rfl rfl rfl rfl (by (repeat (first | exact .nil | exact .refl _ | exact .h | apply Pick.t | apply Picks.cons | apply Picks.skip)); done)
    | exact E_fin2 (.inr rfl) rfl rfl rfl rfl (by (repeat (first | exact .nil | exact .refl _ | exact .h | apply Pick.t | apply Picks.cons | apply Picks.skip)); done)
    | exact E_fin3 (.inl rfl) rfl rfl rfl rfl rfl (by (repeat (first | exact .nil | exact .refl _ | exact .h | apply Pick.t | apply Picks.cons | apply Picks.skip)); done)
    | exact E_fin3 (.inr rfl) rfl rfl rfl rfl rfl (by (repeat (first | exact .nil | exact .refl _ | exact .h | apply Pick.t | apply Picks.cons | apply Picks.skip)); done)
    | exact E_fin0 (.inl rfl) rfl (by (repeat (first | exact .nil | exact .refl _ | exact .h | apply Pick.t | apply Picks.cons | apply Picks.skip)); done)
    | exact E_fin0 (.inr rfl) rfl (by (repeat (first | exact .nil | exact .refl _ | exact .h | apply Pick.t | apply Picks.cons | apply Picks.skip)); done) | fail)
theorem led_reserve_ok {p b : Nat} {c m u s k t : Int} {M : List (Int × Value)} (hc : 2 ≤ c ∧ c ≤ 64) (hu : 0 ≤ u) (hs : 0 ≤ s) (hus : u + s ≤ c) (ht : 0 < t) (hk : 1 ≤ k) (h : M.lookup t = none) (hf : u + s + k ≤ c) :
    CtA Try.prog 75 [ptrv p, u64v t, i64v k] [ledC p b c m u s, mp b .u64 M] (i64v 0) fun F => ledC p b c m u (s + k) :: mp b .u64 (mset M t (i64v k)) :: F := by
  have hd : decide (1 ≤ k ∧ u + s + k ≤ c) = true := decide_eq_true (by omega)
  intro F; simp only [List.cons_append, List.nil_append]; refine Ct_of Try.func75 rfl (n := 40) rfl rfl ?_
  repeat (first
    | refine H_seq ?_ | refine H_block ?_ | refine H_region ?_ | refine TL_nil ?_ | refine N_then ?_ | refine N_block ?_ | refine H_skip ?_ | refine H_ret ?_ | refine R_then ?_ | refine R_block ?_ | refine H_exit ?_
    | refine X_then ?_ | refine X_block_eq ?_ | refine X_block_ne rfl ?_ | refine H_cond_t rfl ?_ | refine H_cond_f rfl ?_
    | refine TL_y (by first | exact Y_move rfl | exact Y_assign rfl | exact Y_nilCheck rfl | exact Y_nilCheckF rfl | exact Y_fieldAddr rfl | exact Y_load rfl (Vl_cl (by (repeat (first | exact .h | apply Pick.t)); done) rfl) | exact Y_load rfl (by assumption) | exact Y_loadAt rfl (by (repeat (first | exact .h | apply Pick.t)); done) (by rfl) | exact Y_not rfl | exact Y_lssd rfl rfl (by first | exact decide_eq_true (by omega) | exact decide_eq_false (by omega)) | exact Y_lss rfl rfl | exact Y_eqld rfl rfl (by first | exact decide_eq_true (by omega) | exact decide_eq_false (by omega)) | exact Y_eql rfl rfl | exact Y_eql_nil rfl rfl | exact Y_slice_eq_nil rfl rfl | exact Y_map_eq_nil rfl rfl | exact Y_add' rfl rfl (w64 (by omega) (by omega)) | exact Y_add' rfl rfl (wu64 (by omega) (by omega)) | exact Y_pick_t rfl rfl | exact Y_pick_f rfl rfl | fail) rfl ?_
    | refine TLg_run rfl rfl ?_ | refine TLg_skip rfl rfl rfl rfl ?_ | refine T_store rfl rfl rfl (by (repeat (first | exact .h | apply Pick.t)); done) rfl ?_
    | refine T_mapUpdate rfl rfl rfl (by (repeat (first | exact .h | apply Pick.t)); done) ?_ | refine T_storeAt rfl rfl (by (repeat (first | exact .h | apply Pick.t)); done) (by rfl) (by rfl) (by rfl) ?_
    | refine T_callA rfl rfl (by (repeat (first | exact .nil | exact .refl _ | exact .h | apply Pick.t | apply Picks.cons)); done) (led_has_f (by assumption)) ?_
    | refine T_callA rfl rfl (by (repeat (first | exact .nil | exact .refl _ | exact .h | apply Pick.t | apply Picks.cons)); done) (hd ▸ led_fits hc hu hs hus) ?_
    | exact E_fin1 (.inl rfl) rfl rfl rfl (by (repeat (first | exact .nil | exact .refl _ | exact .h | apply Pick.t | apply Picks.cons | apply Picks.skip)); done)
    | exact E_fin1 (.inr rfl) rfl rfl rfl (by (repeat (first | exact .nil | exact .refl _ | exact .h | apply Pick.t | apply Picks.cons | apply Picks.skip)); done)
    | exact E_fin2 (.inl rfl) rfl rfl rfl rfl (by (repeat (first | exact .nil | exact .refl _ | exact .h | apply Pick.t | apply Picks.cons | apply Picks.skip)); done)
    | exact E_fin2 (.inr rfl) rfl rfl rfl rfl (by (repeat (first | exact .nil | exact .refl _ | exact .h | apply Pick.t | apply Picks.cons | apply Picks.skip)); done)
    | exact E_fin3 (.inl rfl) rfl rfl rfl rfl rfl (by (repeat (first | exact .nil | exact .refl _ | exact .h | apply Pick.t | apply Picks.cons | apply Picks.skip)); done)
    | exact E_fin3 (.inr rfl) rfl rfl rfl rfl rfl (by (repeat (first | exact .nil | exact .refl _ | exact .h | apply Pick.t | apply Picks.cons | apply Picks.skip)); done)
    | exact E_fin0 (.inl rfl) rfl (by (repeat (first | exact .nil | exact .refl _ | exact .h | apply Pick.t | apply Picks.cons | apply Picks.skip)); done)
    | exact E_fin0 (.inr rfl) rfl (by (repeat (first | exact .nil | exact .refl _ | exact .h | apply Pick.t | apply Picks.cons | apply Picks.skip)); done) | fail)
end Go.Proofs
namespace Go.Proofs
open Go Go.SL
attribute [local irreducible] H W TL XL Y cl mp slc
set_option maxRecDepth 20000
set_option maxHeartbeats 1000000

theorem led_new {c m : Int} (hc : 2 ≤ c ∧ c ≤ 64) (hm : 1 ≤ m ∧ m ≤ c) :
    CtE Try.prog 61 [i64v c, i64v m] [] (fun _ : Nat × Nat => True) (fun x => .tuple #[ptrv x.1, i64v 0]) fun x F => ledC x.1 x.2 c m 0 0 :: mp x.2 .u64 [] :: F := by
  intro F; simp only [List.cons_append, List.nil_append]; refine Ct_of Try.func61 rfl (n := 26) rfl rfl ?_
  repeat (first
    | refine H_seq ?_ | refine H_block ?_ | refine H_region ?_ | refine TL_nil ?_ | refine N_then ?_ | refine N_block ?_ | refine H_skip ?_ | refine H_ret ?_ | refine R_then ?_ | refine R_block ?_ | refine H_exit ?_
    | refine X_then ?_ | refine X_block_eq ?_ | refine X_block_ne rfl ?_ | refine H_cond_t rfl ?_ | refine H_cond_f rfl ?_
    | refine TL_y (by first | exact Y_move rfl | exact Y_assign rfl | exact Y_lssd rfl rfl (by first | exact decide_eq_true (by omega) | exact decide_eq_false (by omega)) | exact Y_lss rfl rfl | exact Y_gtrd rfl rfl (by first | exact decide_eq_true (by omega) | exact decide_eq_false (by omega)) | exact Y_gtr rfl rfl | exact Y_pick_t rfl rfl | exact Y_pick_f rfl rfl | exact Y_buildp rfl rfl rfl | fail) rfl ?_
    | refine TLg_run rfl rfl ?_ | refine TLg_skip rfl rfl rfl rfl ?_ | refine T_box rfl rfl fun p1 => ?_ | refine T_makeMapp rfl fun b1 => ?_
    | exact E_fin1 (.inl rfl) rfl rfl rfl (by (repeat (first | exact .nil | exact .refl _ | exact .h | apply Pick.t | apply Picks.cons | apply Picks.skip)); done)
    | exact E_fin1 (.inr rfl) rfl rfl rfl (by (repeat (first | exact .nil | exact .refl _ | exact .h | apply Pick.t | apply Picks.cons | apply Picks.skip)); done)
    | exact E_fin2 (.inl rfl) rfl rfl rfl rfl (by (repeat (first | exact .nil | exact .refl _ | exact .h | apply Pick.t | apply Picks.cons | apply Picks.skip)); done)
    | exact E_fin2 (.inr rfl) rfl rfl rfl rfl (by (repeat (first | exact .nil | exact .refl _ | exact .h | apply Pick.t | apply Picks.cons | apply Picks.skip)); done)
    | exact E_fin3 (.inl rfl) rfl rfl rfl rfl rfl (by (repeat (first | exact .nil | exact .refl _ | exact .h | apply Pick.t | apply Picks.cons | apply Picks.skip)); done)
    | exact E_fin3 (.inr rfl) rfl rfl rfl rfl rfl (by (repeat (first | exact .nil | exact .refl _ | exact .h | apply Pick.t | apply Picks.cons | apply Picks.skip)); done)
    | exact E_fin0 (.inl rfl) rfl (by (repeat (first | exact .nil | exact .refl _ | exact .h | apply Pick.t | apply Picks.cons | apply Picks.skip)); done)
    | exact E_fin0 (.inr rfl) rfl (by (repeat (first | exact .nil | exact .refl _ | exact .h | apply Pick.t | apply Picks.cons | apply Picks.skip)); done) | fail)
  exact X_fin2 (p1, b1) (by trivial) (by first | exact .inl rfl | exact .inr rfl) (by rfl) (by rfl) (by rfl) (by rfl) (by (repeat (first | exact .nil | exact .refl _ | exact .h | apply Pick.t | apply Picks.cons | apply Picks.skip)); done)
theorem maps_clone_u64int {b : Nat} {M : List (Int × Value)} : CtE Try.prog 133 [.map (some b)] [mp b .u64 M] (fun _ : Nat => True) (fun x => .map (some x)) fun x F => mp b .u64 M :: mp x .u64 M :: F := by
  intro F; simp only [List.cons_append, List.nil_append]; refine Ct_of Try.func133 rfl (n := 9) rfl rfl ?_
  repeat (first
    | refine H_seq ?_ | refine H_block ?_ | refine H_region ?_ | refine TL_nil ?_ | refine N_then ?_ | refine N_block ?_ | refine H_skip ?_ | refine H_ret ?_ | refine R_then ?_ | refine R_block ?_ | refine H_exit ?_
    | refine X_then ?_ | refine X_block_eq ?_ | refine X_block_ne rfl ?_ | refine H_cond_t rfl ?_ | refine H_cond_f rfl ?_
    | refine TL_y (by first | exact Y_move rfl | exact Y_assign rfl | exact Y_eqld rfl rfl (by first | exact decide_eq_true (by omega) | exact decide_eq_false (by omega)) | exact Y_eql rfl rfl | exact Y_eql_nil rfl rfl | exact Y_slice_eq_nil rfl rfl | exact Y_map_eq_nil rfl rfl | exact Y_mkiface rfl | exact Y_typeAssert rfl | fail) rfl ?_
    | refine T_cloneMap rfl (by (repeat (first | exact .h | apply Pick.t)); done) rfl fun b1 => ?_
    | exact E_fin1 (.inl rfl) rfl rfl rfl (by (repeat (first | exact .nil | exact .refl _ | exact .h | apply Pick.t | apply Picks.cons | apply Picks.skip)); done)
    | exact E_fin1 (.inr rfl) rfl rfl rfl (by (repeat (first | exact .nil | exact .refl _ | exact .h | apply Pick.t | apply Picks.cons | apply Picks.skip)); done)
    | exact E_fin2 (.inl rfl) rfl rfl rfl rfl (by (repeat (first | exact .nil | exact .refl _ | exact .h | apply Pick.t | apply Picks.cons | apply Picks.skip)); done)
    | exact E_fin2 (.inr rfl) rfl rfl rfl rfl (by (repeat (first | exact .nil | exact .refl _ | exact .h | apply Pick.t | apply Picks.cons | apply Picks.skip)); done)
    | exact E_fin3 (.inl rfl) rfl rfl rfl rfl rfl (by (repeat (first | exact .nil | exact .refl _ | exact .h | apply Pick.t | apply Picks.cons | apply Picks.skip)); done)
    | exact E_fin3 (.inr rfl) rfl rfl rfl rfl rfl (by (repeat (first | exact .nil | exact .refl _ | exact .h | apply Pick.t | apply Picks.cons | apply Picks.skip)); done)
    | exact E_fin0 (.inl rfl) rfl (by (repeat (first | exact .nil | exact .refl _ | exact .h | apply Pick.t | apply Picks.cons | apply Picks.skip)); done)
    | exact E_fin0 (.inr rfl) rfl (by (repeat (first | exact .nil | exact .refl _ | exact .h | apply Pick.t | apply Picks.cons | apply Picks.skip)); done) | fail)
  exact X_fin1 b1 (by trivial) (by first | exact .inl rfl | exact .inr rfl) (by rfl) (by rfl) (by rfl) (by (repeat (first | exact .nil | exact .refl _ | exact .h | apply Pick.t | apply Picks.cons | apply Picks.skip)); done)
theorem led_copy {p b : Nat} {c m u s : Int} {M : List (Int × Value)} :
    CtE Try.prog 87 [ptrv p] [ledC p b c m u s, mp b .u64 M] (fun _ : Nat × Nat => True) (fun x => ptrv x.1) fun x F => ledC p b c m u s :: mp b .u64 M :: ledC x.1 x.2 c m u s :: mp x.2 .u64 M :: F := by
  intro F; simp only [List.cons_append, List.nil_append]; refine Ct_of Try.func87 rfl (n := 15) rfl rfl ?_
  repeat (first
    | refine H_seq ?_ | refine H_block ?_ | refine H_region ?_ | refine TL_nil ?_ | refine N_then ?_ | refine N_block ?_ | refine H_skip ?_ | refine H_ret ?_ | refine R_then ?_ | refine R_block ?_ | refine H_exit ?_
    | refine X_then ?_ | refine X_block_eq ?_ | refine X_block_ne rfl ?_ | refine H_cond_t rfl ?_ | refine H_cond_f rfl ?_
    | refine TL_y (by first | exact Y_move rfl | exact Y_assign rfl | exact Y_nilCheck rfl | exact Y_nilCheckF rfl | exact Y_fieldAddr rfl | exact Y_load rfl (Vl_cl (by (repeat (first | exact .h | apply Pick.t)); done) rfl) | exact Y_load rfl (by assumption) | exact Y_loadAt rfl (by (repeat (first | exact .h | apply Pick.t)); done) (by rfl) | exact Y_eqld rfl rfl (by first | exact decide_eq_true (by omega) | exact decide_eq_false (by omega)) | exact Y_eql rfl rfl | exact Y_eql_nil rfl rfl | exact Y_slice_eq_nil rfl rfl | exact Y_map_eq_nil rfl rfl | fail) rfl ?_
    | refine T_store rfl rfl rfl (by (repeat (first | exact .h | apply Pick.t)); done) rfl ?_ | refine T_alloc rfl fun p1 => ?_
    | refine T_storeAt rfl rfl (by (repeat (first | exact .h | apply Pick.t)); done) (by rfl) (by rfl) (by rfl) ?_
    | refine T_callE rfl rfl (by (repeat (first | exact .nil | exact .refl _ | exact .h | apply Pick.t | apply Picks.cons)); done) maps_clone_u64int fun b1 _ => ?_
    | exact E_fin1 (.inl rfl) rfl rfl rfl (by (repeat (first | exact .nil | exact .refl _ | exact .h | apply Pick.t | apply Picks.cons | apply Picks.skip)); done)
    | exact E_fin1 (.inr rfl) rfl rfl rfl (by (repeat (first | exact .nil | exact .refl _ | exact .h | apply Pick.t | apply Picks.cons | apply Picks.skip)); done)
    | exact E_fin2 (.inl rfl) rfl rfl rfl rfl (by (repeat (first | exact .nil | exact .refl _ | exact .h | apply Pick.t | apply Picks.cons | apply Picks.skip)); done)
    | exact E_fin2 (.inr rfl) rfl rfl rfl rfl (by (repeat (first | exact .nil | exact .refl _ | exact .h | apply Pick.t | apply Picks.cons | apply Picks.skip)); done)
    | exact E_fin3 (.inl rfl) rfl rfl rfl rfl rfl (by (repeat (first | exact .nil | exact .refl _ | exact .h | apply Pick.t | apply Picks.cons | apply Picks.skip)); done)
    | exact E_fin3 (.inr rfl) rfl rfl rfl rfl rfl (by (repeat (first | exact .nil | exact .refl _ | exact .h | apply Pick.t | apply Picks.cons | apply Picks.skip)); done)
    | exact E_fin0 (.inl rfl) rfl (by (repeat (first | exact .nil | exact .refl _ | exact .h | apply Pick.t | apply Picks.cons | apply Picks.skip)); done)
    | exact E_fin0 (.inr rfl) rfl (by (repeat (first | exact .nil | exact .refl _ | exact .h | apply Pick.t | apply Picks.cons | apply Picks.skip)); done) | fail)
  exact X_fin1 (p1, b1) (by trivial) (by first | exact .inl rfl | exact .inr rfl) (by rfl) (by rfl) (by rfl) (by (repeat (first | exact .nil | exact .refl _ | exact .h | apply Pick.t | apply Picks.cons | apply Picks.skip)); done)
end Go.Proofs
namespace Go.SL

variable {L : List Asn} {w : World} {P : Program}
theorem get3 {pre ms spare : List Value} {i : Nat} : (pre ++ ms ++ spare)[i]? = if i < pre.length then pre[i]? else if i < pre.length + ms.length then ms[i - pre.length]? else spare[i - pre.length - ms.length]? := by
  by_cases h1 : i < pre.length
  · rw [if_pos h1, List.append_assoc, List.getElem?_append_left h1]
  · rw [if_neg h1, List.append_assoc, List.getElem?_append_right (by omega)]
    by_cases h2 : i < pre.length + ms.length
    · rw [if_pos h2, List.getElem?_append_left (by omega)]
    · rw [if_neg h2, List.getElem?_append_right (by omega)]
open Go.Sort in
theorem sat_putRow {b : Nat} {pre spare : List Value} {zs zs' : List Int} {e q : Nat} {os : Array Obj} (hs : sat (cl b (pre ++ zs.map i64v ++ spare) e :: L) w) (hl : zs'.length = zs.length) :
    sat (cl b (pre ++ zs'.map i64v ++ spare) e :: L) (grow (putRow (Value.int .i64) (Sort.ahead w q) b pre.length zs'.toArray) os) := by
  have hg := sat_cl hs
  have hb := (Array.getElem?_eq_some_iff.1 hg).1
  have e1 : putCells (Value.int .i64) pre.length zs'.toArray (pre ++ zs.map i64v ++ spare).toArray = (pre ++ zs'.map i64v ++ spare).toArray := by
    apply Array.ext'
    apply List.ext_getElem?
    intro i
    simp only [putCells, Array.toList_mapIdx, List.getElem?_mapIdx, List.size_toArray]
    rw [get3, get3]
    simp only [List.length_map, hl]
    by_cases h1 : i < pre.length
    · simp only [if_pos h1, show ¬ (pre.length ≤ i) by omega, false_and, if_false]
      cases pre[i]? <;> rfl
    · simp only [if_neg h1]
      by_cases h2 : i < pre.length + zs.length
      · have h3 : i - pre.length < zs.length := by omega
        have h4 : i - pre.length < zs'.length := by omega
        simp only [if_pos h2, show pre.length ≤ i by omega, h2, true_and, if_true, List.getElem?_map, List.getElem?_eq_getElem h3, List.getElem?_eq_getElem h4, Option.map_some]
        simp [h4]
      · simp only [if_neg h2, h2, and_false, if_false]
        cases spare[i - pre.length - zs.length]? <;> rfl
  have e2 : (grow (putRow (Value.int .i64) (Sort.ahead w q) b pre.length zs'.toArray) os).heap[b]? = some (.cells (pre ++ zs'.map i64v ++ spare).toArray e (0, 0)) := by
    simp only [grow, putRow, mapBlock, Sort.ahead]
    rw [Array.getElem?_append_left (by simpa using hb), Array.getElem?_modify, if_pos rfl, hg]
    simp only [Option.map_some, onCells, e1]
  refine sat_upd hs e2 (fun k hk hlt => ?_) ⟨rfl, rfl⟩
  simp only [grow, putRow, mapBlock, Sort.ahead]
  rw [Array.getElem?_append_left (by simpa using hlt), Array.getElem?_modify, if_neg (Ne.symm hk)]
open Go.Sort in
theorem holds_cl {b : Nat} {pre spare : List Value} {zs : List Int} {e : Nat} (hs : sat (cl b (pre ++ zs.map i64v ++ spare) e :: L) w) : Holds (Value.int .i64) w b pre.length zs.toArray := by
  intro j hj
  have hj' : j < zs.length := by simpa using hj
  refine ⟨sat_cell hs ?_, ?_⟩
  · rw [get3, if_neg (by omega), if_pos (by simp; omega), show pre.length + j - pre.length = j by omega]
    simp [hj']
  · simp [World.frozen?, sat_cl hs]

/-- the library's sort, as a contract on a slice of one's own -/
theorem CtE_sort {f e : Nat} {srt : List Int → List Int} (hsl : ∀ zs, (srt zs).length = zs.length)
    (h : ∀ (blk off cap : Nat) (zs : List Int) (w : World), Sort.Holds (Value.int .i64) w blk off zs.toArray → blk < w.heap.size → zs.length < 4611686018427387904 →
      Calls P f #[.slice (some ⟨blk, off, none⟩) zs.length cap] w fun e w' => e = .returned (.tuple #[]) ∧ ∃ n os, w' = Sort.grow (Sort.putRow (Value.int .i64) (Sort.ahead w n) blk off (srt zs).toArray) os)
    (h0 : ∀ (p : Option Addr) (cap : Nat) (w : World), Calls P f #[.slice p 0 cap] w fun e w' => e = .returned (.tuple #[]) ∧ w' = w) {a : Option Addr} {c : Nat} {zs : List Int} (hk : zs.length ≤ 1000000) :
    CtA P f [.slice a zs.length c] [slc e 1 a zs.length c (zs.map i64v)] (.tuple #[]) fun F => slc e 1 a zs.length c ((srt zs).map i64v) :: F := by
  intro F w hs
  rcases sat_slc.1 hs with ⟨rfl, h1, rfl, h2, hs'⟩ | ⟨b, pre, spare, rfl, e2, e3, e4, e5, e6, hs'⟩
  · have hz : zs = [] := by simpa using h2
    subst hz
    have hsz : srt [] = [] := List.eq_nil_of_length_eq_zero (by rw [hsl]; rfl)
    refine (h0 none 0 w).mono fun e w' ⟨he, hw⟩ => ?_
    subst hw
    exact ⟨_, _, he, ⟨rfl, rfl⟩, by rw [hsz]; exact hs⟩
  · have hb := (Array.getElem?_eq_some_iff.1 (sat_cl hs')).1
    refine (h b pre.length c zs w (holds_cl hs') hb (by omega)).mono fun e w' ⟨he, n, os, hw⟩ => ?_
    subst hw
    refine ⟨_, _, he, ⟨rfl, rfl⟩, sat_slc.2 (.inr ⟨b, pre, spare, rfl, e2, e3, by simp [hsl], e5, one_map (fun _ => rfl) _, sat_putRow hs' (hsl zs)⟩)⟩
theorem CtA_compact {f e : Nat} {cp : List Int → List Int} (hcl : ∀ zs, (cp zs).length ≤ zs.length)
    (h : ∀ (blk off cap : Nat) (zs : List Int) (w : World), Sort.Holds (Value.int .i64) w blk off zs.toArray → zs.length ≤ 9223372036854775807 → zs.length ≤ cap →
      Calls P f #[.slice (some ⟨blk, off, none⟩) zs.length cap] w fun e w' => e = .returned (.slice (some ⟨blk, off, none⟩) (cp zs).length cap) ∧ ∃ q, w' = Sort.putRow (Value.int .i64) (Sort.ahead w q) blk off (cp zs ++ List.replicate (zs.length - (cp zs).length) 0).toArray)
    (h0 : ∀ (p : Option Addr) (cap : Nat) (w : World), Calls P f #[.slice p 0 cap] w fun e w' => e = .returned (.slice p 0 cap) ∧ w' = w) {a : Option Addr} {c : Nat} {zs : List Int} (hk : zs.length ≤ 1000000) :
    CtA P f [.slice a zs.length c] [slc e 1 a zs.length c (zs.map i64v)] (.slice a (cp zs).length c) fun F => slc e 1 a (cp zs).length c ((cp zs).map i64v) :: F := by
  intro F w hs
  rcases sat_slc.1 hs with ⟨rfl, h1, rfl, h2, hs'⟩ | ⟨b, pre, spare, rfl, e2, e3, e4, e5, e6, hs'⟩
  · have hz : zs = [] := by simpa using h2
    subst hz
    have hsz : cp [] = [] := List.eq_nil_of_length_eq_zero (by have := hcl []; simpa using this)
    refine (h0 none 0 w).mono fun e w' ⟨he, hw⟩ => ?_
    subst hw
    exact ⟨_, _, he, ⟨by rw [hsz]; rfl, rfl⟩, by rw [hsz]; exact hs⟩
  · refine (h b pre.length c zs w (holds_cl hs') (by omega) e2).mono fun e w' ⟨he, n, hw⟩ => ?_
    subst hw
    have hc := hcl zs
    have h5 := sat_putRow (zs' := cp zs ++ List.replicate (zs.length - (cp zs).length) 0) (q := n) (os := #[]) hs' (by simp; omega)
    rw [Sort.grow_empty] at h5
    refine ⟨_, _, he, ⟨rfl, rfl⟩, sat_slc.2 (.inr ⟨b, pre, (List.replicate (zs.length - (cp zs).length) 0).map i64v ++ spare, rfl, by omega, e3, by simp, by simp [e5]; omega, one_map (fun _ => rfl) _, ?_⟩)⟩
    simpa [List.append_assoc] using h5
end Go.SL
namespace Go.SL
variable {n : Nat} {ds : List Deferred} {S : Sp} {L : List Asn} {w : World} {G : Act → World → Prop}
/-- a slice that is only read: k elements of one cell, wherever they lie in their block -/
def ro (e : Nat) (a : Option Addr) (xs : List Value) : Asn := fun h => ∃ b pre post, a = some ⟨b, pre.length, none⟩ ∧ one xs ∧ cl b (pre ++ xs ++ post) e h
theorem sat_ro {e : Nat} {a : Option Addr} {xs : List Value} : sat (ro e a xs :: L) w ↔ ∃ b pre post, a = some ⟨b, pre.length, none⟩ ∧ one xs ∧ sat (cl b (pre ++ xs ++ post) e :: L) w :=
  ⟨fun ⟨h, ⟨h1, h2, dd, e, ⟨b, pre, post, e1, e2, e3⟩, l⟩, rr⟩ => ⟨b, pre, post, e1, e2, h, ⟨h1, h2, dd, e, e3, l⟩, rr⟩,
   fun ⟨b, pre, post, e1, e2, h, ⟨h1, h2, dd, e, e3, l⟩, rr⟩ => ⟨h, ⟨h1, h2, dd, e, ⟨b, pre, post, e1, e2, e3⟩, l⟩, rr⟩⟩
theorem ro_slc {e sz k c : Nat} {a : Option Addr} {xs : List Value} (hk : 0 < k) (hs : sat (slc e sz a k c xs :: L) w) : sat (ro e a xs :: L) w := by
  rcases sat_slc.1 hs with ⟨_, h1, _⟩ | ⟨b, pre, spare, e1, _, _, _, _, e6, hs'⟩
  · omega
  · exact sat_ro.2 ⟨b, pre, spare, e1, e6, hs'⟩
theorem Rd_ro {e : Nat} {a : Option Addr} {xs : List Value} {L' : List Asn} (pk : Pick (ro e a xs) L L') : Rd L a xs := fun w hs => by
  obtain ⟨b, pre, post, e1, _, hs'⟩ := sat_ro.1 (sat_pick pk hs)
  refine .inr ⟨b, pre.length, e1, fun j v hj => sat_cell hs' ?_⟩
  have := (List.getElem?_eq_some_iff.1 hj).1
  rw [get3, if_neg (by omega), if_pos (by omega), show pre.length + j - pre.length = j by omega]; exact hj
theorem H_ro_some {e : Nat} {a : Option Addr} {xs : List Value} {L' : List Asn} (pk : Pick (ro e a xs) L L') (h : ∀ b o, a = some ⟨b, o, none⟩ → one xs → H n ds S L G) : H n ds S L G := fun a' w hk hs => by
  obtain ⟨b, pre, post, e1, e2, _⟩ := sat_ro.1 (sat_pick pk hs)
  exact h b _ e1 e2 a' w hk hs
end Go.SL
