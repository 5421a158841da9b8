/- Part of the proof of AdmitFairSaid: lemmas and contracts that it uses. -/
import Derived.Test.YtgbgccifdbpolaaX06
import Derived.WalkKit
import Derived.ProofKit
import Derived.OpenShut
import Derived.ChangeStays
import Derived.ChangeSlices
import Derived.Test.YtgbgccifdbpolaaRows
set_option linter.all false
set_option linter.unusedVariables false
set_option linter.unusedSimpArgs false
set_option linter.unnecessarySimpa false
namespace Go.Proofs
open Go Go.SL Go.W13
attribute [local irreducible] H W TL XL Y cl mp slc ro tq line pool coll pline
set_option maxRecDepth 20000
set_option maxHeartbeats 2000000
def opV (o : W13.Op) (a : Option Addr) (c : Nat) : Value := .agg (List.toArray [i64v o.kind, i64v o.which, .slice a o.set.length c, u64v o.ticket, i64v o.n])
section
variable {FS : List (Option Addr × List Int)} {p : Nat} {r : RS}
theorem does_ct {o : W13.Op} {a : Option Addr} {c : Nat} {D : Asn} (ok : Ok r) (hN : r.next ≤ 90000) (hw : Sok a c) (hc : o.set.length ≤ c ∧ c ≤ maxLen) (hd : ∀ L, Rd (D :: L) a (o.set.map i64v)) :
    CtE Try.prog 45 [ptrv p, opV o a c] [pline FS p r, pool FS, D] (fun FS' : List (Option Addr × List Int) => ∀ x ∈ FS, x ∈ FS') (fun _ => .tuple #[i64v (r.doesE o), u64v (r.doesT o)]) fun FS' F => pline FS' p (r.does o) :: pool FS' :: D :: F := by
  have hc2 := hc.2
  simp only [maxLen] at hc2
  unfold opV
  by_cases h1 : o.kind = 1
  · have e1 : r.doesE o = r.bgnE (o.set.take 100) := by unfold RS.doesE; rw [if_pos h1]
    have e2 : r.doesT o = r.bgnT (o.set.take 100) := by unfold RS.doesT; rw [if_pos h1]
    have e3 : r.does o = r.bgn (o.set.take 100) := by unfold RS.does; rw [if_pos h1]
    rw [e1, e2, e3]
    have hk : (o.set.take 100).length ≤ 100 := by simp; omega
    have hk2 : (o.set.take 100).length ≤ o.set.length := by simp; omega
    have hm : min (o.set.length : Int) 100 = ((o.set.take 100).length : Int) := by simp; omega
    have hd2 : ∀ L, Rd (D :: L) a ((o.set.take 100).map i64v) := fun L w hs => by
      rcases hd L w hs with e | ⟨b, q, e, h⟩
      · left; rw [List.map_take, e]; rfl
      · right; refine ⟨b, q, e, fun j v hj => h j v ?_⟩
        rw [List.map_take, List.getElem?_take] at hj
        split at hj
        · exact hj
        · cases hj
    generalize o.set.take 100 = zs at *
    intro F; simp only [List.cons_append, List.nil_append]; refine Ct_of Try.func45 rfl (n := 67) rfl rfl ?_
    repeat (first
      | refine H_seq ?_ | refine H_block ?_ | refine H_region ?_ | refine TL_nil ?_ | refine N_then ?_ | refine N_block ?_ | refine H_skip ?_ | refine H_ret ?_ | refine R_then ?_ | refine R_block ?_ | refine H_exit ?_
      | refine X_then ?_ | refine X_block_eq ?_ | refine X_block_ne rfl ?_ | refine H_cond_t rfl ?_ | refine H_cond_f rfl ?_
      | refine TL_y (by first | exact Y_move rfl | exact Y_assign rfl | exact Y_fieldAddr rfl | exact Y_load rfl (Vl_cl (by (repeat (first | exact .h | apply Pick.t)); done) rfl) | exact Y_load rfl (by assumption) | exact Y_loadAt rfl (by (repeat (first | exact .h | apply Pick.t)); done) (by rfl) | exact Y_ext rfl rfl | exact Y_eqld rfl rfl (by first | exact decide_eq_true (by omega) | exact decide_eq_false (by omega)) | exact Y_eql rfl rfl | exact Y_eql_nil rfl rfl | exact Y_slice_eq_nil rfl rfl | exact Y_map_eq_nil rfl rfl | exact Y_slhi rfl rfl (by omega) (by omega) | exact Y_slhiW (by assumption) rfl rfl (by omega) (by omega) | exact Y_sllo rfl rfl (by omega) (by omega) (by omega) | exact Y_sllh rfl rfl rfl (by omega) (by omega) (by omega) | exact Y_slhm rfl rfl rfl (by omega) (by omega) (by omega) | exact Y_sllhm rfl rfl rfl rfl (by omega) (by omega) (by omega) (by omega) | exact Y_len_slice rfl | exact Y_min2m rfl rfl (by assumption) | exact Y_min2 rfl rfl | fail) rfl ?_
      | refine T_box rfl rfl fun p1 => ?_ | refine T_bs0 rfl fun b1 => ?_ | refine T_bs1 rfl rfl rfl fun b1 => ?_ | refine T_bsn rfl rfl rfl rfl rfl rfl fun b1 => ?_
      | refine T_append rfl rfl (by (repeat (first | exact .h | apply Pick.t)); done) (Rd_mono (hd2 []) (fun _ hs => sat_sub (by (repeat (first | exact .nil | exact .refl _ | exact .h | apply Pick.t | apply Picks.cons)); done) hs)) (by simp) (one_map (fun _ => rfl) zs) (by omega) (by simp only [maxLen]; omega) rfl fun a2 c2 => ?_
      | exact E_fin1 (.inl rfl) rfl rfl rfl (by (repeat (first | exact .nil | exact .refl _ | exact .h | apply Pick.t | apply Picks.cons | apply Picks.skip)); done)
      | exact E_fin1 (.inr rfl) rfl rfl rfl (by (repeat (first | exact .nil | exact .refl _ | exact .h | apply Pick.t | apply Picks.cons | apply Picks.skip)); done)
      | exact E_fin2 (.inl rfl) rfl rfl rfl rfl (by (repeat (first | exact .nil | exact .refl _ | exact .h | apply Pick.t | apply Picks.cons | apply Picks.skip)); done)
      | exact E_fin2 (.inr rfl) rfl rfl rfl rfl (by (repeat (first | exact .nil | exact .refl _ | exact .h | apply Pick.t | apply Picks.cons | apply Picks.skip)); done)
      | exact E_fin3 (.inl rfl) rfl rfl rfl rfl rfl (by (repeat (first | exact .nil | exact .refl _ | exact .h | apply Pick.t | apply Picks.cons | apply Picks.skip)); done)
      | exact E_fin3 (.inr rfl) rfl rfl rfl rfl rfl (by (repeat (first | exact .nil | exact .refl _ | exact .h | apply Pick.t | apply Picks.cons | apply Picks.skip)); done)
      | exact E_fin0 (.inl rfl) rfl (by (repeat (first | exact .nil | exact .refl _ | exact .h | apply Pick.t | apply Picks.cons | apply Picks.skip)); done)
      | exact E_fin0 (.inr rfl) rfl (by (repeat (first | exact .nil | exact .refl _ | exact .h | apply Pick.t | apply Picks.cons | apply Picks.skip)); done) | fail)
    have e4 : 0 + (zs.length : Int).toNat = zs.length := by omega
    rw [List.nil_append, e4]
    repeat (first
      | refine H_seq ?_ | refine H_block ?_ | refine H_region ?_ | refine TL_nil ?_ | refine N_then ?_ | refine N_block ?_ | refine H_skip ?_ | refine H_ret ?_ | refine R_then ?_ | refine R_block ?_ | refine H_exit ?_
      | refine X_then ?_ | refine X_block_eq ?_ | refine X_block_ne rfl ?_ | refine H_cond_t rfl ?_ | refine H_cond_f rfl ?_
      | refine TL_y (by first | exact Y_move rfl | exact Y_assign rfl | exact Y_fieldAddr rfl | exact Y_load rfl (Vl_cl (by (repeat (first | exact .h | apply Pick.t)); done) rfl) | exact Y_load rfl (by assumption) | exact Y_loadAt rfl (by (repeat (first | exact .h | apply Pick.t)); done) (by rfl) | exact Y_ext rfl rfl | exact Y_eqld rfl rfl (by first | exact decide_eq_true (by omega) | exact decide_eq_false (by omega)) | exact Y_eql rfl rfl | exact Y_eql_nil rfl rfl | exact Y_slice_eq_nil rfl rfl | exact Y_map_eq_nil rfl rfl | exact Y_slhi rfl rfl (by omega) (by omega) | exact Y_slhiW (by assumption) rfl rfl (by omega) (by omega) | exact Y_sllo rfl rfl (by omega) (by omega) (by omega) | exact Y_sllh rfl rfl rfl (by omega) (by omega) (by omega) | exact Y_slhm rfl rfl rfl (by omega) (by omega) (by omega) | exact Y_sllhm rfl rfl rfl rfl (by omega) (by omega) (by omega) (by omega) | exact Y_len_slice rfl | exact Y_min2m rfl rfl (by assumption) | exact Y_min2 rfl rfl | fail) rfl ?_
      | refine T_box rfl rfl fun p1 => ?_ | refine T_bs0 rfl fun b1 => ?_ | refine T_bs1 rfl rfl rfl fun b1 => ?_ | refine T_bsn rfl rfl rfl rfl rfl rfl fun b1 => ?_
      | refine T_callE rfl rfl (by (repeat (first | exact .nil | exact .refl _ | exact .h | apply Pick.t | apply Picks.cons)); done) (pl_begin (FS := FS) (D := slc 3 1 a2 zs.length c2 (zs.map i64v)) ok hN (by omega) (fun L => Rd_slc .h)) fun y hy => ?_
      | exact E_fin1 (.inl rfl) rfl rfl rfl (by (repeat (first | exact .nil | exact .refl _ | exact .h | apply Pick.t | apply Picks.cons | apply Picks.skip)); done)
      | exact E_fin1 (.inr rfl) rfl rfl rfl (by (repeat (first | exact .nil | exact .refl _ | exact .h | apply Pick.t | apply Picks.cons | apply Picks.skip)); done)
      | exact E_fin2 (.inl rfl) rfl rfl rfl rfl (by (repeat (first | exact .nil | exact .refl _ | exact .h | apply Pick.t | apply Picks.cons | apply Picks.skip)); done)
      | exact E_fin2 (.inr rfl) rfl rfl rfl rfl (by (repeat (first | exact .nil | exact .refl _ | exact .h | apply Pick.t | apply Picks.cons | apply Picks.skip)); done)
      | exact E_fin3 (.inl rfl) rfl rfl rfl rfl rfl (by (repeat (first | exact .nil | exact .refl _ | exact .h | apply Pick.t | apply Picks.cons | apply Picks.skip)); done)
      | exact E_fin3 (.inr rfl) rfl rfl rfl rfl rfl (by (repeat (first | exact .nil | exact .refl _ | exact .h | apply Pick.t | apply Picks.cons | apply Picks.skip)); done)
      | exact E_fin0 (.inl rfl) rfl (by (repeat (first | exact .nil | exact .refl _ | exact .h | apply Pick.t | apply Picks.cons | apply Picks.skip)); done)
      | exact E_fin0 (.inr rfl) rfl (by (repeat (first | exact .nil | exact .refl _ | exact .h | apply Pick.t | apply Picks.cons | apply Picks.skip)); done) | fail)
    exact X_fin2 y.2 hy (by first | exact .inl rfl | exact .inr rfl) (by rfl) (by rfl) (by rfl) (by rfl) (by (repeat (first | exact .nil | exact .refl _ | exact .h | apply Pick.t | apply Picks.cons | apply Picks.skip)); done)
  by_cases h2 : o.kind = 2
  · have e1 : r.doesE o = r.entE := by unfold RS.doesE; rw [if_neg h1, if_pos h2]
    have e2 : r.doesT o = r.entT := by unfold RS.doesT; rw [if_neg h1, if_pos h2]
    have e3 : r.does o = r.ent := by unfold RS.does; rw [if_neg h1, if_pos h2]
    rw [e1, e2, e3]
    intro F; simp only [List.cons_append, List.nil_append]; refine Ct_of Try.func45 rfl (n := 67) rfl rfl ?_
    repeat (first
      | refine H_seq ?_ | refine H_block ?_ | refine H_region ?_ | refine TL_nil ?_ | refine N_then ?_ | refine N_block ?_ | refine H_skip ?_ | refine H_ret ?_ | refine R_then ?_ | refine R_block ?_ | refine H_exit ?_
      | refine X_then ?_ | refine X_block_eq ?_ | refine X_block_ne rfl ?_ | refine H_cond_t rfl ?_ | refine H_cond_f rfl ?_
      | refine TL_y (by first | exact Y_move rfl | exact Y_assign rfl | exact Y_fieldAddr rfl | exact Y_load rfl (Vl_cl (by (repeat (first | exact .h | apply Pick.t)); done) rfl) | exact Y_load rfl (by assumption) | exact Y_loadAt rfl (by (repeat (first | exact .h | apply Pick.t)); done) (by rfl) | exact Y_ext rfl rfl | exact Y_eqld rfl rfl (by first | exact decide_eq_true (by omega) | exact decide_eq_false (by omega)) | exact Y_eql rfl rfl | exact Y_eql_nil rfl rfl | exact Y_slice_eq_nil rfl rfl | exact Y_map_eq_nil rfl rfl | exact Y_slhi rfl rfl (by omega) (by omega) | exact Y_slhiW (by assumption) rfl rfl (by omega) (by omega) | exact Y_sllo rfl rfl (by omega) (by omega) (by omega) | exact Y_sllh rfl rfl rfl (by omega) (by omega) (by omega) | exact Y_slhm rfl rfl rfl (by omega) (by omega) (by omega) | exact Y_sllhm rfl rfl rfl rfl (by omega) (by omega) (by omega) (by omega) | exact Y_len_slice rfl | exact Y_min2m rfl rfl (by assumption) | exact Y_min2 rfl rfl | fail) rfl ?_
      | refine T_box rfl rfl fun p1 => ?_ | refine T_bs0 rfl fun b1 => ?_ | refine T_bs1 rfl rfl rfl fun b1 => ?_ | refine T_bsn rfl rfl rfl rfl rfl rfl fun b1 => ?_
      | refine T_callE rfl rfl (by (repeat (first | exact .nil | exact .refl _ | exact .h | apply Pick.t | apply Picks.cons)); done) (pl_enter ok hN) fun y hy => ?_
      | exact E_fin1 (.inl rfl) rfl rfl rfl (by (repeat (first | exact .nil | exact .refl _ | exact .h | apply Pick.t | apply Picks.cons | apply Picks.skip)); done)
      | exact E_fin1 (.inr rfl) rfl rfl rfl (by (repeat (first | exact .nil | exact .refl _ | exact .h | apply Pick.t | apply Picks.cons | apply Picks.skip)); done)
      | exact E_fin2 (.inl rfl) rfl rfl rfl rfl (by (repeat (first | exact .nil | exact .refl _ | exact .h | apply Pick.t | apply Picks.cons | apply Picks.skip)); done)
      | exact E_fin2 (.inr rfl) rfl rfl rfl rfl (by (repeat (first | exact .nil | exact .refl _ | exact .h | apply Pick.t | apply Picks.cons | apply Picks.skip)); done)
      | exact E_fin3 (.inl rfl) rfl rfl rfl rfl rfl (by (repeat (first | exact .nil | exact .refl _ | exact .h | apply Pick.t | apply Picks.cons | apply Picks.skip)); done)
      | exact E_fin3 (.inr rfl) rfl rfl rfl rfl rfl (by (repeat (first | exact .nil | exact .refl _ | exact .h | apply Pick.t | apply Picks.cons | apply Picks.skip)); done)
      | exact E_fin0 (.inl rfl) rfl (by (repeat (first | exact .nil | exact .refl _ | exact .h | apply Pick.t | apply Picks.cons | apply Picks.skip)); done)
      | exact E_fin0 (.inr rfl) rfl (by (repeat (first | exact .nil | exact .refl _ | exact .h | apply Pick.t | apply Picks.cons | apply Picks.skip)); done) | fail)
    exact X_fin2 FS (fun _ h => h) (by first | exact .inl rfl | exact .inr rfl) (by rfl) (by rfl) (by rfl) (by rfl) (by (repeat (first | exact .nil | exact .refl _ | exact .h | apply Pick.t | apply Picks.cons | apply Picks.skip)); done)
  have e2 : r.doesT o = 0 := by unfold RS.doesT; rw [if_neg h1, if_neg h2]
  rw [e2]
  by_cases h3 : o.kind = 3
  · have e1 : r.doesE o = r.appE o.ticket := by unfold RS.doesE; rw [if_neg h1, if_neg h2, if_pos h3]
    have e3 : r.does o = r.app o.ticket := by unfold RS.does; rw [if_neg h1, if_neg h2, if_pos h3]
    rw [e1, e3]
    intro F; simp only [List.cons_append, List.nil_append]; refine Ct_of Try.func45 rfl (n := 67) rfl rfl ?_
    repeat (first
      | refine H_seq ?_ | refine H_block ?_ | refine H_region ?_ | refine TL_nil ?_ | refine N_then ?_ | refine N_block ?_ | refine H_skip ?_ | refine H_ret ?_ | refine R_then ?_ | refine R_block ?_ | refine H_exit ?_
      | refine X_then ?_ | refine X_block_eq ?_ | refine X_block_ne rfl ?_ | refine H_cond_t rfl ?_ | refine H_cond_f rfl ?_
      | refine TL_y (by first | exact Y_move rfl | exact Y_assign rfl | exact Y_fieldAddr rfl | exact Y_load rfl (Vl_cl (by (repeat (first | exact .h | apply Pick.t)); done) rfl) | exact Y_load rfl (by assumption) | exact Y_loadAt rfl (by (repeat (first | exact .h | apply Pick.t)); done) (by rfl) | exact Y_ext rfl rfl | exact Y_eqld rfl rfl (by first | exact decide_eq_true (by omega) | exact decide_eq_false (by omega)) | exact Y_eql rfl rfl | exact Y_eql_nil rfl rfl | exact Y_slice_eq_nil rfl rfl | exact Y_map_eq_nil rfl rfl | exact Y_slhi rfl rfl (by omega) (by omega) | exact Y_slhiW (by assumption) rfl rfl (by omega) (by omega) | exact Y_sllo rfl rfl (by omega) (by omega) (by omega) | exact Y_sllh rfl rfl rfl (by omega) (by omega) (by omega) | exact Y_slhm rfl rfl rfl (by omega) (by omega) (by omega) | exact Y_sllhm rfl rfl rfl rfl (by omega) (by omega) (by omega) (by omega) | exact Y_len_slice rfl | exact Y_min2m rfl rfl (by assumption) | exact Y_min2 rfl rfl | fail) rfl ?_
      | refine T_box rfl rfl fun p1 => ?_ | refine T_bs0 rfl fun b1 => ?_ | refine T_bs1 rfl rfl rfl fun b1 => ?_ | refine T_bsn rfl rfl rfl rfl rfl rfl fun b1 => ?_
      | refine T_callA rfl rfl (by (repeat (first | exact .nil | exact .refl _ | exact .h | apply Pick.t | apply Picks.cons)); done) (pl_append ok) ?_
      | exact E_fin1 (.inl rfl) rfl rfl rfl (by (repeat (first | exact .nil | exact .refl _ | exact .h | apply Pick.t | apply Picks.cons | apply Picks.skip)); done)
      | exact E_fin1 (.inr rfl) rfl rfl rfl (by (repeat (first | exact .nil | exact .refl _ | exact .h | apply Pick.t | apply Picks.cons | apply Picks.skip)); done)
      | exact E_fin2 (.inl rfl) rfl rfl rfl rfl (by (repeat (first | exact .nil | exact .refl _ | exact .h | apply Pick.t | apply Picks.cons | apply Picks.skip)); done)
      | exact E_fin2 (.inr rfl) rfl rfl rfl rfl (by (repeat (first | exact .nil | exact .refl _ | exact .h | apply Pick.t | apply Picks.cons | apply Picks.skip)); done)
      | exact E_fin3 (.inl rfl) rfl rfl rfl rfl rfl (by (repeat (first | exact .nil | exact .refl _ | exact .h | apply Pick.t | apply Picks.cons | apply Picks.skip)); done)
      | exact E_fin3 (.inr rfl) rfl rfl rfl rfl rfl (by (repeat (first | exact .nil | exact .refl _ | exact .h | apply Pick.t | apply Picks.cons | apply Picks.skip)); done)
      | exact E_fin0 (.inl rfl) rfl (by (repeat (first | exact .nil | exact .refl _ | exact .h | apply Pick.t | apply Picks.cons | apply Picks.skip)); done)
      | exact E_fin0 (.inr rfl) rfl (by (repeat (first | exact .nil | exact .refl _ | exact .h | apply Pick.t | apply Picks.cons | apply Picks.skip)); done) | fail)
    exact X_fin2 FS (fun _ h => h) (by first | exact .inl rfl | exact .inr rfl) (by rfl) (by rfl) (by rfl) (by rfl) (by (repeat (first | exact .nil | exact .refl _ | exact .h | apply Pick.t | apply Picks.cons | apply Picks.skip)); done)
  by_cases h4 : o.kind = 4
  · have e1 : r.doesE o = r.doneE o.ticket := by unfold RS.doesE; rw [if_neg h1, if_neg h2, if_neg h3, if_pos h4]
    have e3 : r.does o = r.done o.ticket := by unfold RS.does; rw [if_neg h1, if_neg h2, if_neg h3, if_pos h4]
    rw [e1, e3]
    intro F; simp only [List.cons_append, List.nil_append]; refine Ct_of Try.func45 rfl (n := 67) rfl rfl ?_
    repeat (first
      | refine H_seq ?_ | refine H_block ?_ | refine H_region ?_ | refine TL_nil ?_ | refine N_then ?_ | refine N_block ?_ | refine H_skip ?_ | refine H_ret ?_ | refine R_then ?_ | refine R_block ?_ | refine H_exit ?_
      | refine X_then ?_ | refine X_block_eq ?_ | refine X_block_ne rfl ?_ | refine H_cond_t rfl ?_ | refine H_cond_f rfl ?_
      | refine TL_y (by first | exact Y_move rfl | exact Y_assign rfl | exact Y_fieldAddr rfl | exact Y_load rfl (Vl_cl (by (repeat (first | exact .h | apply Pick.t)); done) rfl) | exact Y_load rfl (by assumption) | exact Y_loadAt rfl (by (repeat (first | exact .h | apply Pick.t)); done) (by rfl) | exact Y_ext rfl rfl | exact Y_eqld rfl rfl (by first | exact decide_eq_true (by omega) | exact decide_eq_false (by omega)) | exact Y_eql rfl rfl | exact Y_eql_nil rfl rfl | exact Y_slice_eq_nil rfl rfl | exact Y_map_eq_nil rfl rfl | exact Y_slhi rfl rfl (by omega) (by omega) | exact Y_slhiW (by assumption) rfl rfl (by omega) (by omega) | exact Y_sllo rfl rfl (by omega) (by omega) (by omega) | exact Y_sllh rfl rfl rfl (by omega) (by omega) (by omega) | exact Y_slhm rfl rfl rfl (by omega) (by omega) (by omega) | exact Y_sllhm rfl rfl rfl rfl (by omega) (by omega) (by omega) (by omega) | exact Y_len_slice rfl | exact Y_min2m rfl rfl (by assumption) | exact Y_min2 rfl rfl | fail) rfl ?_
      | refine T_box rfl rfl fun p1 => ?_ | refine T_bs0 rfl fun b1 => ?_ | refine T_bs1 rfl rfl rfl fun b1 => ?_ | refine T_bsn rfl rfl rfl rfl rfl rfl fun b1 => ?_
      | refine T_callA rfl rfl (by (repeat (first | exact .nil | exact .refl _ | exact .h | apply Pick.t | apply Picks.cons)); done) (pl_done ok) ?_
      | exact E_fin1 (.inl rfl) rfl rfl rfl (by (repeat (first | exact .nil | exact .refl _ | exact .h | apply Pick.t | apply Picks.cons | apply Picks.skip)); done)
      | exact E_fin1 (.inr rfl) rfl rfl rfl (by (repeat (first | exact .nil | exact .refl _ | exact .h | apply Pick.t | apply Picks.cons | apply Picks.skip)); done)
      | exact E_fin2 (.inl rfl) rfl rfl rfl rfl (by (repeat (first | exact .nil | exact .refl _ | exact .h | apply Pick.t | apply Picks.cons | apply Picks.skip)); done)
      | exact E_fin2 (.inr rfl) rfl rfl rfl rfl (by (repeat (first | exact .nil | exact .refl _ | exact .h | apply Pick.t | apply Picks.cons | apply Picks.skip)); done)
      | exact E_fin3 (.inl rfl) rfl rfl rfl rfl rfl (by (repeat (first | exact .nil | exact .refl _ | exact .h | apply Pick.t | apply Picks.cons | apply Picks.skip)); done)
      | exact E_fin3 (.inr rfl) rfl rfl rfl rfl rfl (by (repeat (first | exact .nil | exact .refl _ | exact .h | apply Pick.t | apply Picks.cons | apply Picks.skip)); done)
      | exact E_fin0 (.inl rfl) rfl (by (repeat (first | exact .nil | exact .refl _ | exact .h | apply Pick.t | apply Picks.cons | apply Picks.skip)); done)
      | exact E_fin0 (.inr rfl) rfl (by (repeat (first | exact .nil | exact .refl _ | exact .h | apply Pick.t | apply Picks.cons | apply Picks.skip)); done) | fail)
    exact X_fin2 FS (fun _ h => h) (by first | exact .inl rfl | exact .inr rfl) (by rfl) (by rfl) (by rfl) (by rfl) (by (repeat (first | exact .nil | exact .refl _ | exact .h | apply Pick.t | apply Picks.cons | apply Picks.skip)); done)
  by_cases h5 : o.kind = 5
  · have e1 : r.doesE o = r.leaveE o.ticket := by unfold RS.doesE; rw [if_neg h1, if_neg h2, if_neg h3, if_neg h4, if_pos h5]
    have e3 : r.does o = r.leave o.ticket := by unfold RS.does; rw [if_neg h1, if_neg h2, if_neg h3, if_neg h4, if_pos h5]
    rw [e1, e3]
    intro F; simp only [List.cons_append, List.nil_append]; refine Ct_of Try.func45 rfl (n := 67) rfl rfl ?_
    repeat (first
      | refine H_seq ?_ | refine H_block ?_ | refine H_region ?_ | refine TL_nil ?_ | refine N_then ?_ | refine N_block ?_ | refine H_skip ?_ | refine H_ret ?_ | refine R_then ?_ | refine R_block ?_ | refine H_exit ?_
      | refine X_then ?_ | refine X_block_eq ?_ | refine X_block_ne rfl ?_ | refine H_cond_t rfl ?_ | refine H_cond_f rfl ?_
      | refine TL_y (by first | exact Y_move rfl | exact Y_assign rfl | exact Y_fieldAddr rfl | exact Y_load rfl (Vl_cl (by (repeat (first | exact .h | apply Pick.t)); done) rfl) | exact Y_load rfl (by assumption) | exact Y_loadAt rfl (by (repeat (first | exact .h | apply Pick.t)); done) (by rfl) | exact Y_ext rfl rfl | exact Y_eqld rfl rfl (by first | exact decide_eq_true (by omega) | exact decide_eq_false (by omega)) | exact Y_eql rfl rfl | exact Y_eql_nil rfl rfl | exact Y_slice_eq_nil rfl rfl | exact Y_map_eq_nil rfl rfl | exact Y_slhi rfl rfl (by omega) (by omega) | exact Y_slhiW (by assumption) rfl rfl (by omega) (by omega) | exact Y_sllo rfl rfl (by omega) (by omega) (by omega) | exact Y_sllh rfl rfl rfl (by omega) (by omega) (by omega) | exact Y_slhm rfl rfl rfl (by omega) (by omega) (by omega) | exact Y_sllhm rfl rfl rfl rfl (by omega) (by omega) (by omega) (by omega) | exact Y_len_slice rfl | exact Y_min2m rfl rfl (by assumption) | exact Y_min2 rfl rfl | fail) rfl ?_
      | refine T_box rfl rfl fun p1 => ?_ | refine T_bs0 rfl fun b1 => ?_ | refine T_bs1 rfl rfl rfl fun b1 => ?_ | refine T_bsn rfl rfl rfl rfl rfl rfl fun b1 => ?_
      | refine T_callA rfl rfl (by (repeat (first | exact .nil | exact .refl _ | exact .h | apply Pick.t | apply Picks.cons)); done) (pl_leave ok) ?_
      | exact E_fin1 (.inl rfl) rfl rfl rfl (by (repeat (first | exact .nil | exact .refl _ | exact .h | apply Pick.t | apply Picks.cons | apply Picks.skip)); done)
      | exact E_fin1 (.inr rfl) rfl rfl rfl (by (repeat (first | exact .nil | exact .refl _ | exact .h | apply Pick.t | apply Picks.cons | apply Picks.skip)); done)
      | exact E_fin2 (.inl rfl) rfl rfl rfl rfl (by (repeat (first | exact .nil | exact .refl _ | exact .h | apply Pick.t | apply Picks.cons | apply Picks.skip)); done)
      | exact E_fin2 (.inr rfl) rfl rfl rfl rfl (by (repeat (first | exact .nil | exact .refl _ | exact .h | apply Pick.t | apply Picks.cons | apply Picks.skip)); done)
      | exact E_fin3 (.inl rfl) rfl rfl rfl rfl rfl (by (repeat (first | exact .nil | exact .refl _ | exact .h | apply Pick.t | apply Picks.cons | apply Picks.skip)); done)
      | exact E_fin3 (.inr rfl) rfl rfl rfl rfl rfl (by (repeat (first | exact .nil | exact .refl _ | exact .h | apply Pick.t | apply Picks.cons | apply Picks.skip)); done)
      | exact E_fin0 (.inl rfl) rfl (by (repeat (first | exact .nil | exact .refl _ | exact .h | apply Pick.t | apply Picks.cons | apply Picks.skip)); done)
      | exact E_fin0 (.inr rfl) rfl (by (repeat (first | exact .nil | exact .refl _ | exact .h | apply Pick.t | apply Picks.cons | apply Picks.skip)); done) | fail)
    exact X_fin2 FS (fun _ h => h) (by first | exact .inl rfl | exact .inr rfl) (by rfl) (by rfl) (by rfl) (by rfl) (by (repeat (first | exact .nil | exact .refl _ | exact .h | apply Pick.t | apply Picks.cons | apply Picks.skip)); done)
  by_cases h6 : o.kind = 6
  · have e1 : r.doesE o = r.freedE o.n := by unfold RS.doesE; rw [if_neg h1, if_neg h2, if_neg h3, if_neg h4, if_neg h5, if_pos h6]
    have e3 : r.does o = r.freed o.n := by unfold RS.does; rw [if_neg h1, if_neg h2, if_neg h3, if_neg h4, if_neg h5, if_pos h6]
    rw [e1, e3]
    intro F; simp only [List.cons_append, List.nil_append]; refine Ct_of Try.func45 rfl (n := 67) rfl rfl ?_
    repeat (first
      | refine H_seq ?_ | refine H_block ?_ | refine H_region ?_ | refine TL_nil ?_ | refine N_then ?_ | refine N_block ?_ | refine H_skip ?_ | refine H_ret ?_ | refine R_then ?_ | refine R_block ?_ | refine H_exit ?_
      | refine X_then ?_ | refine X_block_eq ?_ | refine X_block_ne rfl ?_ | refine H_cond_t rfl ?_ | refine H_cond_f rfl ?_
      | refine TL_y (by first | exact Y_move rfl | exact Y_assign rfl | exact Y_fieldAddr rfl | exact Y_load rfl (Vl_cl (by (repeat (first | exact .h | apply Pick.t)); done) rfl) | exact Y_load rfl (by assumption) | exact Y_loadAt rfl (by (repeat (first | exact .h | apply Pick.t)); done) (by rfl) | exact Y_ext rfl rfl | exact Y_eqld rfl rfl (by first | exact decide_eq_true (by omega) | exact decide_eq_false (by omega)) | exact Y_eql rfl rfl | exact Y_eql_nil rfl rfl | exact Y_slice_eq_nil rfl rfl | exact Y_map_eq_nil rfl rfl | exact Y_slhi rfl rfl (by omega) (by omega) | exact Y_slhiW (by assumption) rfl rfl (by omega) (by omega) | exact Y_sllo rfl rfl (by omega) (by omega) (by omega) | exact Y_sllh rfl rfl rfl (by omega) (by omega) (by omega) | exact Y_slhm rfl rfl rfl (by omega) (by omega) (by omega) | exact Y_sllhm rfl rfl rfl rfl (by omega) (by omega) (by omega) (by omega) | exact Y_len_slice rfl | exact Y_min2m rfl rfl (by assumption) | exact Y_min2 rfl rfl | fail) rfl ?_
      | refine T_box rfl rfl fun p1 => ?_ | refine T_bs0 rfl fun b1 => ?_ | refine T_bs1 rfl rfl rfl fun b1 => ?_ | refine T_bsn rfl rfl rfl rfl rfl rfl fun b1 => ?_
      | refine T_callA rfl rfl (by (repeat (first | exact .nil | exact .refl _ | exact .h | apply Pick.t | apply Picks.cons)); done) (pl_freed ok) ?_
      | exact E_fin1 (.inl rfl) rfl rfl rfl (by (repeat (first | exact .nil | exact .refl _ | exact .h | apply Pick.t | apply Picks.cons | apply Picks.skip)); done)
      | exact E_fin1 (.inr rfl) rfl rfl rfl (by (repeat (first | exact .nil | exact .refl _ | exact .h | apply Pick.t | apply Picks.cons | apply Picks.skip)); done)
      | exact E_fin2 (.inl rfl) rfl rfl rfl rfl (by (repeat (first | exact .nil | exact .refl _ | exact .h | apply Pick.t | apply Picks.cons | apply Picks.skip)); done)
      | exact E_fin2 (.inr rfl) rfl rfl rfl rfl (by (repeat (first | exact .nil | exact .refl _ | exact .h | apply Pick.t | apply Picks.cons | apply Picks.skip)); done)
      | exact E_fin3 (.inl rfl) rfl rfl rfl rfl rfl (by (repeat (first | exact .nil | exact .refl _ | exact .h | apply Pick.t | apply Picks.cons | apply Picks.skip)); done)
      | exact E_fin3 (.inr rfl) rfl rfl rfl rfl rfl (by (repeat (first | exact .nil | exact .refl _ | exact .h | apply Pick.t | apply Picks.cons | apply Picks.skip)); done)
      | exact E_fin0 (.inl rfl) rfl (by (repeat (first | exact .nil | exact .refl _ | exact .h | apply Pick.t | apply Picks.cons | apply Picks.skip)); done)
      | exact E_fin0 (.inr rfl) rfl (by (repeat (first | exact .nil | exact .refl _ | exact .h | apply Pick.t | apply Picks.cons | apply Picks.skip)); done) | fail)
    exact X_fin2 FS (fun _ h => h) (by first | exact .inl rfl | exact .inr rfl) (by rfl) (by rfl) (by rfl) (by rfl) (by (repeat (first | exact .nil | exact .refl _ | exact .h | apply Pick.t | apply Picks.cons | apply Picks.skip)); done)
  · have e1 : r.doesE o = 0 := by unfold RS.doesE; rw [if_neg h1, if_neg h2, if_neg h3, if_neg h4, if_neg h5, if_neg h6]
    have e3 : r.does o = r := by unfold RS.does; rw [if_neg h1, if_neg h2, if_neg h3, if_neg h4, if_neg h5, if_neg h6]
    rw [e1, e3]
    intro F; simp only [List.cons_append, List.nil_append]; refine Ct_of Try.func45 rfl (n := 67) rfl rfl ?_
    repeat (first
      | refine H_seq ?_ | refine H_block ?_ | refine H_region ?_ | refine TL_nil ?_ | refine N_then ?_ | refine N_block ?_ | refine H_skip ?_ | refine H_ret ?_ | refine R_then ?_ | refine R_block ?_ | refine H_exit ?_
      | refine X_then ?_ | refine X_block_eq ?_ | refine X_block_ne rfl ?_ | refine H_cond_t rfl ?_ | refine H_cond_f rfl ?_
      | refine TL_y (by first | exact Y_move rfl | exact Y_assign rfl | exact Y_fieldAddr rfl | exact Y_load rfl (Vl_cl (by (repeat (first | exact .h | apply Pick.t)); done) rfl) | exact Y_load rfl (by assumption) | exact Y_loadAt rfl (by (repeat (first | exact .h | apply Pick.t)); done) (by rfl) | exact Y_ext rfl rfl | exact Y_eqld rfl rfl (by first | exact decide_eq_true (by omega) | exact decide_eq_false (by omega)) | exact Y_eql rfl rfl | exact Y_eql_nil rfl rfl | exact Y_slice_eq_nil rfl rfl | exact Y_map_eq_nil rfl rfl | exact Y_slhi rfl rfl (by omega) (by omega) | exact Y_slhiW (by assumption) rfl rfl (by omega) (by omega) | exact Y_sllo rfl rfl (by omega) (by omega) (by omega) | exact Y_sllh rfl rfl rfl (by omega) (by omega) (by omega) | exact Y_slhm rfl rfl rfl (by omega) (by omega) (by omega) | exact Y_sllhm rfl rfl rfl rfl (by omega) (by omega) (by omega) (by omega) | exact Y_len_slice rfl | exact Y_min2m rfl rfl (by assumption) | exact Y_min2 rfl rfl | fail) rfl ?_
      | refine T_box rfl rfl fun p1 => ?_ | refine T_bs0 rfl fun b1 => ?_ | refine T_bs1 rfl rfl rfl fun b1 => ?_ | refine T_bsn rfl rfl rfl rfl rfl rfl fun b1 => ?_
      | exact E_fin1 (.inl rfl) rfl rfl rfl (by (repeat (first | exact .nil | exact .refl _ | exact .h | apply Pick.t | apply Picks.cons | apply Picks.skip)); done)
      | exact E_fin1 (.inr rfl) rfl rfl rfl (by (repeat (first | exact .nil | exact .refl _ | exact .h | apply Pick.t | apply Picks.cons | apply Picks.skip)); done)
      | exact E_fin2 (.inl rfl) rfl rfl rfl rfl (by (repeat (first | exact .nil | exact .refl _ | exact .h | apply Pick.t | apply Picks.cons | apply Picks.skip)); done)
      | exact E_fin2 (.inr rfl) rfl rfl rfl rfl (by (repeat (first | exact .nil | exact .refl _ | exact .h | apply Pick.t | apply Picks.cons | apply Picks.skip)); done)
      | exact E_fin3 (.inl rfl) rfl rfl rfl rfl rfl (by (repeat (first | exact .nil | exact .refl _ | exact .h | apply Pick.t | apply Picks.cons | apply Picks.skip)); done)
      | exact E_fin3 (.inr rfl) rfl rfl rfl rfl rfl (by (repeat (first | exact .nil | exact .refl _ | exact .h | apply Pick.t | apply Picks.cons | apply Picks.skip)); done)
      | exact E_fin0 (.inl rfl) rfl (by (repeat (first | exact .nil | exact .refl _ | exact .h | apply Pick.t | apply Picks.cons | apply Picks.skip)); done)
      | exact E_fin0 (.inr rfl) rfl (by (repeat (first | exact .nil | exact .refl _ | exact .h | apply Pick.t | apply Picks.cons | apply Picks.skip)); done) | fail)
    exact X_fin2 FS (fun _ h => h) (by first | exact .inl rfl | exact .inr rfl) (by rfl) (by rfl) (by rfl) (by rfl) (by (repeat (first | exact .nil | exact .refl _ | exact .h | apply Pick.t | apply Picks.cons | apply Picks.skip)); done)
end
end Go.Proofs
namespace Go.Proofs
open Go Go.SL Go.W13
attribute [local irreducible] H W TL XL Y cl mp slc ro tq line pool coll pline
set_option maxRecDepth 20000
set_option maxHeartbeats 2000000
section
variable {FS : List (Option Addr × List Int)} {p x : Nat} {q : RS} {bl cap mr hi cl' : Int} {o : W13.Op} {a wa : Option Addr} {c wc : Nat} {b e t er sum : Int} {was : List Int}
abbrev fairA (x : Nat) (b e : Int) : Asn := cl x [u64v b, u64v e] 90
theorem sees_no (ok : Ok q) (hN : q.next ≤ 90000) (he : er ≠ 0) (hw : was = q.told) :
    CtA Try.prog 46 [ptrv x, cfgV bl cap mr hi cl', ptrv p, opV o a c, i64v er, u64v t, .slice wa was.length wc, i64v sum] [pline FS p q, pool FS, fairA x b e, isl wa wc was] (.bool true)
      fun F => pline FS p q :: pool FS :: fairA x b e :: isl wa wc was :: F := by
  have htl : q.told.length ≤ 1000000 := by
    obtain ⟨k1, k2, k3, k4, k5, k6⟩ := Ok.tk ok hN
    have hlj : ∀ l : List Int, (q.lefts l).length = 2 * l.length := fun l => by
      induction l with
      | nil => rfl
      | cons x l ih => simp only [RS.lefts, List.flatMap_cons] at ih ⊢; simp [ih]; omega
    unfold RS.told
    simp only [List.length_append, hlj]
    split <;> simp <;> omega
  subst hw
  unfold opV cfgV
  intro F; simp only [List.cons_append, List.nil_append]; refine Ct_of Try.func46 rfl (n := 136) rfl rfl ?_
  repeat (first
    | refine H_seq ?_ | refine H_block ?_ | refine H_region ?_ | refine TL_nil ?_ | refine N_then ?_ | refine N_block ?_ | refine H_skip ?_ | refine H_ret ?_ | refine R_then ?_ | refine R_block ?_ | refine H_exit ?_
    | refine X_then ?_ | refine X_block_eq ?_ | refine X_block_ne rfl ?_ | refine H_cond_t rfl ?_ | refine H_cond_f rfl ?_
    | refine TL_y (by first | exact Y_move rfl | exact Y_assign rfl | exact Y_nilCheck rfl | exact Y_nilCheckF rfl | exact Y_fieldAddr rfl | exact Y_load rfl (Vl_cl (by (repeat (first | exact .h | apply Pick.t)); done) rfl) | exact Y_load rfl (by assumption) | exact Y_indexAddr rfl rfl (by omega) (by first | omega | (simp only [List.length_cons]; omega)) | exact Y_load rfl (Vl_elem (by (repeat (first | exact .h | apply Pick.t)); done) (by assumption)) | exact Y_loadAt rfl (by (repeat (first | exact .h | apply Pick.t)); done) (by rfl) | exact Y_lssd rfl rfl (by first | exact decide_eq_true (by omega) | exact decide_eq_false (by omega)) | exact Y_lss rfl rfl | exact Y_leqd rfl rfl (by first | exact decide_eq_true (by omega) | exact decide_eq_false (by omega)) | exact Y_leq rfl rfl | exact Y_gtrd rfl rfl (by first | exact decide_eq_true (by omega) | exact decide_eq_false (by omega)) | exact Y_gtr rfl rfl | exact Y_eqld rfl rfl (by first | exact decide_eq_true (by omega) | exact decide_eq_false (by omega)) | exact Y_eql rfl rfl | exact Y_neqd rfl rfl (by first | exact decide_eq_true (by omega) | exact decide_eq_false (by omega)) | exact Y_neq rfl rfl | exact Y_eql_nil rfl rfl | exact Y_neq_nil rfl rfl | exact Y_slice_eq_nil rfl rfl | exact Y_map_eq_nil rfl rfl | exact Y_add' rfl rfl (w64 (by omega) (by omega)) | exact Y_add' rfl rfl (wu64 (by omega) (by omega)) | exact Y_sub' rfl rfl (w64 (by omega) (by omega)) | exact Y_sub' rfl rfl (wu64 (by omega) (by omega)) | exact Y_len_slice rfl | exact Y_pick_t rfl rfl | exact Y_pick_f rfl rfl | fail) rfl ?_
    | refine TLg_run rfl rfl ?_ | refine TLg_skip rfl rfl rfl rfl ?_ | refine T_store rfl rfl rfl (by (repeat (first | exact .h | apply Pick.t)); done) rfl ?_ | refine T_box rfl rfl fun p1 => ?_
    | refine T_storeAt rfl rfl (by (repeat (first | exact .h | apply Pick.t)); done) (by rfl) (by rfl) (by rfl) ?_
    | refine T_callE rfl rfl (by (repeat (first | exact .nil | exact .refl _ | exact .h | apply Pick.t | apply Picks.cons)); done) (told_ct ok hN) fun y _ => ?_
    | refine T_callA rfl rfl (by (repeat (first | exact .nil | exact .refl _ | exact .h | apply Pick.t | apply Picks.cons)); done) (alike_t (A := [isl y.1 y.2 q.told, isl wa wc q.told]) (Rd_slc .h) (Rd_slc (.t .h)) htl) ?_
    | refine X_y rfl (by first | exact Y_move rfl | exact Y_assign rfl | exact Y_nilCheck rfl | exact Y_nilCheckF rfl | exact Y_fieldAddr rfl | exact Y_load rfl (Vl_cl (by (repeat (first | exact .h | apply Pick.t)); done) rfl) | exact Y_load rfl (by assumption) | exact Y_indexAddr rfl rfl (by omega) (by first | omega | (simp only [List.length_cons]; omega)) | exact Y_load rfl (Vl_elem (by (repeat (first | exact .h | apply Pick.t)); done) (by assumption)) | exact Y_loadAt rfl (by (repeat (first | exact .h | apply Pick.t)); done) (by rfl) | exact Y_lssd rfl rfl (by first | exact decide_eq_true (by omega) | exact decide_eq_false (by omega)) | exact Y_lss rfl rfl | exact Y_leqd rfl rfl (by first | exact decide_eq_true (by omega) | exact decide_eq_false (by omega)) | exact Y_leq rfl rfl | exact Y_gtrd rfl rfl (by first | exact decide_eq_true (by omega) | exact decide_eq_false (by omega)) | exact Y_gtr rfl rfl | exact Y_eqld rfl rfl (by first | exact decide_eq_true (by omega) | exact decide_eq_false (by omega)) | exact Y_eql rfl rfl | exact Y_neqd rfl rfl (by first | exact decide_eq_true (by omega) | exact decide_eq_false (by omega)) | exact Y_neq rfl rfl | exact Y_eql_nil rfl rfl | exact Y_neq_nil rfl rfl | exact Y_slice_eq_nil rfl rfl | exact Y_map_eq_nil rfl rfl | exact Y_add' rfl rfl (w64 (by omega) (by omega)) | exact Y_add' rfl rfl (wu64 (by omega) (by omega)) | exact Y_sub' rfl rfl (w64 (by omega) (by omega)) | exact Y_sub' rfl rfl (wu64 (by omega) (by omega)) | exact Y_len_slice rfl | exact Y_pick_t rfl rfl | exact Y_pick_f rfl rfl | fail) rfl ?_
    | refine X_loud rfl rfl ?_ | refine X_bar rfl ?_ | refine X_next (fun _ h => h) ?_
    | (refine X_next ?_ ?_; · exact fun _ h => sat_sub (by (repeat (first | exact .nil | exact .refl _ | exact .h | apply Pick.t | apply Picks.cons | apply Picks.skip)); done) h) | refine X_next (fun _ _ => sat_nil') ?_
    | refine X_nil ?_ | refine H_draw (id := 20) 9999 _ [(0, false), (1, false), (2, false), (3, false), (4, false), (5, false), (6, false), (7, false), (8, false), (9, false)] (by kernel_rfl) (fun _ h => h) ?_
    | exact E_fin1 (.inl rfl) rfl rfl rfl (by (repeat (first | exact .nil | exact .refl _ | exact .h | apply Pick.t | apply Picks.cons | apply Picks.skip)); done)
    | exact E_fin1 (.inr rfl) rfl rfl rfl (by (repeat (first | exact .nil | exact .refl _ | exact .h | apply Pick.t | apply Picks.cons | apply Picks.skip)); done)
    | exact E_fin2 (.inl rfl) rfl rfl rfl rfl (by (repeat (first | exact .nil | exact .refl _ | exact .h | apply Pick.t | apply Picks.cons | apply Picks.skip)); done)
    | exact E_fin2 (.inr rfl) rfl rfl rfl rfl (by (repeat (first | exact .nil | exact .refl _ | exact .h | apply Pick.t | apply Picks.cons | apply Picks.skip)); done)
    | exact E_fin3 (.inl rfl) rfl rfl rfl rfl rfl (by (repeat (first | exact .nil | exact .refl _ | exact .h | apply Pick.t | apply Picks.cons | apply Picks.skip)); done)
    | exact E_fin3 (.inr rfl) rfl rfl rfl rfl rfl (by (repeat (first | exact .nil | exact .refl _ | exact .h | apply Pick.t | apply Picks.cons | apply Picks.skip)); done)
    | exact E_fin0 (.inl rfl) rfl (by (repeat (first | exact .nil | exact .refl _ | exact .h | apply Pick.t | apply Picks.cons | apply Picks.skip)); done)
    | exact E_fin0 (.inr rfl) rfl (by (repeat (first | exact .nil | exact .refl _ | exact .h | apply Pick.t | apply Picks.cons | apply Picks.skip)); done) | fail)
theorem sees_ok (ok : Ok q) (hN : q.next ≤ 90000) (hcap : q.cap = cap) (hb : 0 ≤ b ∧ b ≤ 90000) (hee : 0 ≤ e ∧ e ≤ 90000) (ht : 0 ≤ t ∧ t ≤ 90000) (hsum : o.kind = 3 ∨ o.kind = 4 → q.used + q.resv ≤ sum)
    (h1 : o.kind = 1 → t = b + 1 ∧ Seen q t e) (h2 : o.kind = 2 → e < t ∧ t ≤ b ∧ Seen q b t) (h0 : o.kind ≠ 1 → o.kind ≠ 2 → Seen q b e) :
    CtE Try.prog 46 [ptrv x, cfgV bl cap mr hi cl', ptrv p, opV o a c, i64v 0, u64v t, .slice wa was.length wc, i64v sum] [pline FS p q, pool FS, fairA x b e] (fun y : Int × Int => Seen q y.1 y.2) (fun _ => .bool true)
      fun y F => pline FS p q :: pool FS :: fairA x y.1 y.2 :: F := by
  have hu := ok.used; have hrs := ok.resv; have hcf := ok.cfg
  obtain ⟨k1, k2, k3, k4, k5, k6⟩ := Ok.tk ok hN
  unfold opV cfgV
  intro F; simp only [List.cons_append, List.nil_append]; refine Ct_of Try.func46 rfl (n := 136) rfl rfl ?_
  repeat (first
    | refine H_stop 5 ?_ | refine H_seq ?_ | refine H_block ?_ | refine H_region ?_ | refine TL_nil ?_ | refine N_then ?_ | refine N_block ?_ | refine H_skip ?_ | refine H_ret ?_ | refine R_then ?_ | refine R_block ?_
    | refine H_exit ?_ | refine X_then ?_ | refine X_block_eq ?_ | refine X_block_ne rfl ?_ | refine H_cond_t rfl ?_ | refine H_cond_f rfl ?_
    | refine TL_y (by first | exact Y_move rfl | exact Y_assign rfl | exact Y_nilCheck rfl | exact Y_nilCheckF rfl | exact Y_fieldAddr rfl | exact Y_load rfl (Vl_cl (by (repeat (first | exact .h | apply Pick.t)); done) rfl) | exact Y_load rfl (by assumption) | exact Y_indexAddr rfl rfl (by omega) (by first | omega | (simp only [List.length_cons]; omega)) | exact Y_load rfl (Vl_elem (by (repeat (first | exact .h | apply Pick.t)); done) (by assumption)) | exact Y_loadAt rfl (by (repeat (first | exact .h | apply Pick.t)); done) (by rfl) | exact Y_lssd rfl rfl (by first | exact decide_eq_true (by omega) | exact decide_eq_false (by omega)) | exact Y_lss rfl rfl | exact Y_leqd rfl rfl (by first | exact decide_eq_true (by omega) | exact decide_eq_false (by omega)) | exact Y_leq rfl rfl | exact Y_gtrd rfl rfl (by first | exact decide_eq_true (by omega) | exact decide_eq_false (by omega)) | exact Y_gtr rfl rfl | exact Y_eqld rfl rfl (by first | exact decide_eq_true (by omega) | exact decide_eq_false (by omega)) | exact Y_eql rfl rfl | exact Y_neqd rfl rfl (by first | exact decide_eq_true (by omega) | exact decide_eq_false (by omega)) | exact Y_neq rfl rfl | exact Y_eql_nil rfl rfl | exact Y_neq_nil rfl rfl | exact Y_slice_eq_nil rfl rfl | exact Y_map_eq_nil rfl rfl | exact Y_add' rfl rfl (w64 (by omega) (by omega)) | exact Y_add' rfl rfl (wu64 (by omega) (by omega)) | exact Y_sub' rfl rfl (w64 (by omega) (by omega)) | exact Y_sub' rfl rfl (wu64 (by omega) (by omega)) | exact Y_len_slice rfl | exact Y_pick_t rfl rfl | exact Y_pick_f rfl rfl | fail) rfl ?_
    | refine TLg_run rfl rfl ?_ | refine TLg_skip rfl rfl rfl rfl ?_ | refine T_store rfl rfl rfl (by (repeat (first | exact .h | apply Pick.t)); done) rfl ?_ | refine T_box rfl rfl fun p1 => ?_
    | refine T_storeAt rfl rfl (by (repeat (first | exact .h | apply Pick.t)); done) (by rfl) (by rfl) (by rfl) ?_
    | refine T_callE rfl rfl (by (repeat (first | exact .nil | exact .refl _ | exact .h | apply Pick.t | apply Picks.cons)); done) (told_ct ok hN) fun y _ => ?_
    | refine T_callA rfl rfl (by (repeat (first | exact .nil | exact .refl _ | exact .h | apply Pick.t | apply Picks.cons)); done) pl_used ?_
    | refine T_callA rfl rfl (by (repeat (first | exact .nil | exact .refl _ | exact .h | apply Pick.t | apply Picks.cons)); done) pl_reserved ?_
    | refine X_y rfl (by first | exact Y_move rfl | exact Y_assign rfl | exact Y_nilCheck rfl | exact Y_nilCheckF rfl | exact Y_fieldAddr rfl | exact Y_load rfl (Vl_cl (by (repeat (first | exact .h | apply Pick.t)); done) rfl) | exact Y_load rfl (by assumption) | exact Y_indexAddr rfl rfl (by omega) (by first | omega | (simp only [List.length_cons]; omega)) | exact Y_load rfl (Vl_elem (by (repeat (first | exact .h | apply Pick.t)); done) (by assumption)) | exact Y_loadAt rfl (by (repeat (first | exact .h | apply Pick.t)); done) (by rfl) | exact Y_lssd rfl rfl (by first | exact decide_eq_true (by omega) | exact decide_eq_false (by omega)) | exact Y_lss rfl rfl | exact Y_leqd rfl rfl (by first | exact decide_eq_true (by omega) | exact decide_eq_false (by omega)) | exact Y_leq rfl rfl | exact Y_gtrd rfl rfl (by first | exact decide_eq_true (by omega) | exact decide_eq_false (by omega)) | exact Y_gtr rfl rfl | exact Y_eqld rfl rfl (by first | exact decide_eq_true (by omega) | exact decide_eq_false (by omega)) | exact Y_eql rfl rfl | exact Y_neqd rfl rfl (by first | exact decide_eq_true (by omega) | exact decide_eq_false (by omega)) | exact Y_neq rfl rfl | exact Y_eql_nil rfl rfl | exact Y_neq_nil rfl rfl | exact Y_slice_eq_nil rfl rfl | exact Y_map_eq_nil rfl rfl | exact Y_add' rfl rfl (w64 (by omega) (by omega)) | exact Y_add' rfl rfl (wu64 (by omega) (by omega)) | exact Y_sub' rfl rfl (w64 (by omega) (by omega)) | exact Y_sub' rfl rfl (wu64 (by omega) (by omega)) | exact Y_len_slice rfl | exact Y_pick_t rfl rfl | exact Y_pick_f rfl rfl | fail) rfl ?_
    | refine X_loud rfl rfl ?_ | refine X_bar rfl ?_ | refine X_next (fun _ h => h) ?_
    | (refine X_next ?_ ?_; · exact fun _ h => sat_sub (by (repeat (first | exact .nil | exact .refl _ | exact .h | apply Pick.t | apply Picks.cons | apply Picks.skip)); done) h) | refine X_next (fun _ _ => sat_nil') ?_
    | refine X_nil ?_ | refine H_draw (id := 20) 9999 _ [(0, false), (1, false), (2, false), (3, false), (4, false), (5, false), (6, false), (7, false), (8, false), (9, false)] (by kernel_rfl) (fun _ h => h) ?_
    | exact E_fin1 (.inl rfl) rfl rfl rfl (by (repeat (first | exact .nil | exact .refl _ | exact .h | apply Pick.t | apply Picks.cons | apply Picks.skip)); done)
    | exact E_fin1 (.inr rfl) rfl rfl rfl (by (repeat (first | exact .nil | exact .refl _ | exact .h | apply Pick.t | apply Picks.cons | apply Picks.skip)); done)
    | exact E_fin2 (.inl rfl) rfl rfl rfl rfl (by (repeat (first | exact .nil | exact .refl _ | exact .h | apply Pick.t | apply Picks.cons | apply Picks.skip)); done)
    | exact E_fin2 (.inr rfl) rfl rfl rfl rfl (by (repeat (first | exact .nil | exact .refl _ | exact .h | apply Pick.t | apply Picks.cons | apply Picks.skip)); done)
    | exact E_fin3 (.inl rfl) rfl rfl rfl rfl rfl (by (repeat (first | exact .nil | exact .refl _ | exact .h | apply Pick.t | apply Picks.cons | apply Picks.skip)); done)
    | exact E_fin3 (.inr rfl) rfl rfl rfl rfl rfl (by (repeat (first | exact .nil | exact .refl _ | exact .h | apply Pick.t | apply Picks.cons | apply Picks.skip)); done)
    | exact E_fin0 (.inl rfl) rfl (by (repeat (first | exact .nil | exact .refl _ | exact .h | apply Pick.t | apply Picks.cons | apply Picks.skip)); done)
    | exact E_fin0 (.inr rfl) rfl (by (repeat (first | exact .nil | exact .refl _ | exact .h | apply Pick.t | apply Picks.cons | apply Picks.skip)); done) | fail)
  refine Stop_in ?_
  refine H_cut (ι := Unit) (fun _ => [(64, .bool false), (0, ptrv x), (2, ptrv p), (5, u64v t), (11, ptrv p1), (18, i64v q.used)]) (fun _ => pline FS p q :: pool FS :: fairA x b e :: cl p1 [i64v o.kind, i64v o.which, .slice a o.set.length c, u64v o.ticket, i64v o.n] 85 :: F) (fun _ => True) ?_ ?_
  · rintro ⟨⟩ _
    repeat (first
      | refine H_stopb 0 ?_ | refine H_seq ?_ | refine H_block ?_ | refine H_region ?_ | refine TL_nil ?_ | refine N_then ?_ | refine N_block ?_ | refine H_skip ?_ | refine H_ret ?_ | refine R_then ?_
      | refine R_block ?_ | refine H_exit ?_ | refine X_then ?_ | refine X_block_eq ?_ | refine X_block_ne rfl ?_ | refine H_cond_t rfl ?_ | refine H_cond_f rfl ?_
      | refine TL_y (by first | exact Y_move rfl | exact Y_assign rfl | exact Y_nilCheck rfl | exact Y_nilCheckF rfl | exact Y_fieldAddr rfl | exact Y_load rfl (Vl_cl (by (repeat (first | exact .h | apply Pick.t)); done) rfl) | exact Y_load rfl (by assumption) | exact Y_indexAddr rfl rfl (by omega) (by first | omega | (simp only [List.length_cons]; omega)) | exact Y_load rfl (Vl_elem (by (repeat (first | exact .h | apply Pick.t)); done) (by assumption)) | exact Y_loadAt rfl (by (repeat (first | exact .h | apply Pick.t)); done) (by rfl) | exact Y_lssd rfl rfl (by first | exact decide_eq_true (by omega) | exact decide_eq_false (by omega)) | exact Y_lss rfl rfl | exact Y_leqd rfl rfl (by first | exact decide_eq_true (by omega) | exact decide_eq_false (by omega)) | exact Y_leq rfl rfl | exact Y_gtrd rfl rfl (by first | exact decide_eq_true (by omega) | exact decide_eq_false (by omega)) | exact Y_gtr rfl rfl | exact Y_eqld rfl rfl (by first | exact decide_eq_true (by omega) | exact decide_eq_false (by omega)) | exact Y_eql rfl rfl | exact Y_neqd rfl rfl (by first | exact decide_eq_true (by omega) | exact decide_eq_false (by omega)) | exact Y_neq rfl rfl | exact Y_eql_nil rfl rfl | exact Y_neq_nil rfl rfl | exact Y_slice_eq_nil rfl rfl | exact Y_map_eq_nil rfl rfl | exact Y_add' rfl rfl (w64 (by omega) (by omega)) | exact Y_add' rfl rfl (wu64 (by omega) (by omega)) | exact Y_sub' rfl rfl (w64 (by omega) (by omega)) | exact Y_sub' rfl rfl (wu64 (by omega) (by omega)) | exact Y_len_slice rfl | exact Y_pick_t rfl rfl | exact Y_pick_f rfl rfl | fail) rfl ?_
      | refine TLg_run rfl rfl ?_ | refine TLg_skip rfl rfl rfl rfl ?_ | refine T_store rfl rfl rfl (by (repeat (first | exact .h | apply Pick.t)); done) rfl ?_ | refine T_box rfl rfl fun p1 => ?_
      | refine T_storeAt rfl rfl (by (repeat (first | exact .h | apply Pick.t)); done) (by rfl) (by rfl) (by rfl) ?_
      | refine X_y rfl (by first | exact Y_move rfl | exact Y_assign rfl | exact Y_nilCheck rfl | exact Y_nilCheckF rfl | exact Y_fieldAddr rfl | exact Y_load rfl (Vl_cl (by (repeat (first | exact .h | apply Pick.t)); done) rfl) | exact Y_load rfl (by assumption) | exact Y_indexAddr rfl rfl (by omega) (by first | omega | (simp only [List.length_cons]; omega)) | exact Y_load rfl (Vl_elem (by (repeat (first | exact .h | apply Pick.t)); done) (by assumption)) | exact Y_loadAt rfl (by (repeat (first | exact .h | apply Pick.t)); done) (by rfl) | exact Y_lssd rfl rfl (by first | exact decide_eq_true (by omega) | exact decide_eq_false (by omega)) | exact Y_lss rfl rfl | exact Y_leqd rfl rfl (by first | exact decide_eq_true (by omega) | exact decide_eq_false (by omega)) | exact Y_leq rfl rfl | exact Y_gtrd rfl rfl (by first | exact decide_eq_true (by omega) | exact decide_eq_false (by omega)) | exact Y_gtr rfl rfl | exact Y_eqld rfl rfl (by first | exact decide_eq_true (by omega) | exact decide_eq_false (by omega)) | exact Y_eql rfl rfl | exact Y_neqd rfl rfl (by first | exact decide_eq_true (by omega) | exact decide_eq_false (by omega)) | exact Y_neq rfl rfl | exact Y_eql_nil rfl rfl | exact Y_neq_nil rfl rfl | exact Y_slice_eq_nil rfl rfl | exact Y_map_eq_nil rfl rfl | exact Y_add' rfl rfl (w64 (by omega) (by omega)) | exact Y_add' rfl rfl (wu64 (by omega) (by omega)) | exact Y_sub' rfl rfl (w64 (by omega) (by omega)) | exact Y_sub' rfl rfl (wu64 (by omega) (by omega)) | exact Y_len_slice rfl | exact Y_pick_t rfl rfl | exact Y_pick_f rfl rfl | fail) rfl ?_
      | refine X_loud rfl rfl ?_ | refine X_bar rfl ?_ | refine X_next (fun _ h => h) ?_
      | (refine X_next ?_ ?_; · exact fun _ h => sat_sub (by (repeat (first | exact .nil | exact .refl _ | exact .h | apply Pick.t | apply Picks.cons | apply Picks.skip)); done) h)
      | refine X_next (fun _ _ => sat_nil') ?_ | refine X_nil ?_
      | refine H_draw (id := 20) 9999 _ [(0, false), (1, false), (2, false), (3, false), (4, false), (5, false), (6, false), (7, false), (8, false), (9, false)] (by kernel_rfl) (fun _ h => h) ?_
      | exact E_fin1 (.inl rfl) rfl rfl rfl (by (repeat (first | exact .nil | exact .refl _ | exact .h | apply Pick.t | apply Picks.cons | apply Picks.skip)); done)
      | exact E_fin1 (.inr rfl) rfl rfl rfl (by (repeat (first | exact .nil | exact .refl _ | exact .h | apply Pick.t | apply Picks.cons | apply Picks.skip)); done)
      | exact E_fin2 (.inl rfl) rfl rfl rfl rfl (by (repeat (first | exact .nil | exact .refl _ | exact .h | apply Pick.t | apply Picks.cons | apply Picks.skip)); done)
      | exact E_fin2 (.inr rfl) rfl rfl rfl rfl (by (repeat (first | exact .nil | exact .refl _ | exact .h | apply Pick.t | apply Picks.cons | apply Picks.skip)); done)
      | exact E_fin3 (.inl rfl) rfl rfl rfl rfl rfl (by (repeat (first | exact .nil | exact .refl _ | exact .h | apply Pick.t | apply Picks.cons | apply Picks.skip)); done)
      | exact E_fin3 (.inr rfl) rfl rfl rfl rfl rfl (by (repeat (first | exact .nil | exact .refl _ | exact .h | apply Pick.t | apply Picks.cons | apply Picks.skip)); done)
      | exact E_fin0 (.inl rfl) rfl (by (repeat (first | exact .nil | exact .refl _ | exact .h | apply Pick.t | apply Picks.cons | apply Picks.skip)); done)
      | exact E_fin0 (.inr rfl) rfl (by (repeat (first | exact .nil | exact .refl _ | exact .h | apply Pick.t | apply Picks.cons | apply Picks.skip)); done) | fail)
    refine Stop_in ?_
    refine H_cut (ι := Int × Int) (fun _ => [(2, ptrv p), (18, i64v q.used)]) (fun i => pline FS p q :: pool FS :: fairA x i.1 i.2 :: F) (fun i => Seen q i.1 i.2) ?_ ?_
    · rintro ⟨b', e'⟩ hseen
      dsimp only at hseen ⊢
      repeat (first
        | refine H_seq ?_ | refine H_block ?_ | refine H_region ?_ | refine TL_nil ?_ | refine N_then ?_ | refine N_block ?_ | refine H_skip ?_ | refine H_ret ?_ | refine R_then ?_ | refine R_block ?_ | refine H_exit ?_
        | refine X_then ?_ | refine X_block_eq ?_ | refine X_block_ne rfl ?_ | refine H_cond_t rfl ?_ | refine H_cond_f rfl ?_
        | refine TL_y (by first | exact Y_move rfl | exact Y_assign rfl | exact Y_nilCheck rfl | exact Y_nilCheckF rfl | exact Y_fieldAddr rfl | exact Y_load rfl (Vl_cl (by (repeat (first | exact .h | apply Pick.t)); done) rfl) | exact Y_load rfl (by assumption) | exact Y_indexAddr rfl rfl (by omega) (by first | omega | (simp only [List.length_cons]; omega)) | exact Y_load rfl (Vl_elem (by (repeat (first | exact .h | apply Pick.t)); done) (by assumption)) | exact Y_loadAt rfl (by (repeat (first | exact .h | apply Pick.t)); done) (by rfl) | exact Y_lssd rfl rfl (by first | exact decide_eq_true (by omega) | exact decide_eq_false (by omega)) | exact Y_lss rfl rfl | exact Y_leqd rfl rfl (by first | exact decide_eq_true (by omega) | exact decide_eq_false (by omega)) | exact Y_leq rfl rfl | exact Y_gtrd rfl rfl (by first | exact decide_eq_true (by omega) | exact decide_eq_false (by omega)) | exact Y_gtr rfl rfl | exact Y_eqld rfl rfl (by first | exact decide_eq_true (by omega) | exact decide_eq_false (by omega)) | exact Y_eql rfl rfl | exact Y_neqd rfl rfl (by first | exact decide_eq_true (by omega) | exact decide_eq_false (by omega)) | exact Y_neq rfl rfl | exact Y_eql_nil rfl rfl | exact Y_neq_nil rfl rfl | exact Y_slice_eq_nil rfl rfl | exact Y_map_eq_nil rfl rfl | exact Y_add' rfl rfl (w64 (by omega) (by omega)) | exact Y_add' rfl rfl (wu64 (by omega) (by omega)) | exact Y_sub' rfl rfl (w64 (by omega) (by omega)) | exact Y_sub' rfl rfl (wu64 (by omega) (by omega)) | exact Y_len_slice rfl | exact Y_pick_t rfl rfl | exact Y_pick_f rfl rfl | fail) rfl ?_
        | refine TLg_run rfl rfl ?_ | refine TLg_skip rfl rfl rfl rfl ?_ | refine T_store rfl rfl rfl (by (repeat (first | exact .h | apply Pick.t)); done) rfl ?_ | refine T_box rfl rfl fun p1 => ?_
        | refine T_storeAt rfl rfl (by (repeat (first | exact .h | apply Pick.t)); done) (by rfl) (by rfl) (by rfl) ?_
        | refine T_callE rfl rfl (by (repeat (first | exact .nil | exact .refl _ | exact .h | apply Pick.t | apply Picks.cons)); done) (pl_waiting ok hN) fun yw _ => ?_
        | refine T_callE rfl rfl (by (repeat (first | exact .nil | exact .refl _ | exact .h | apply Pick.t | apply Picks.cons)); done) (pl_in ok) fun yi _ => ?_
        | refine X_y rfl (by first | exact Y_move rfl | exact Y_assign rfl | exact Y_nilCheck rfl | exact Y_nilCheckF rfl | exact Y_fieldAddr rfl | exact Y_load rfl (Vl_cl (by (repeat (first | exact .h | apply Pick.t)); done) rfl) | exact Y_load rfl (by assumption) | exact Y_indexAddr rfl rfl (by omega) (by first | omega | (simp only [List.length_cons]; omega)) | exact Y_load rfl (Vl_elem (by (repeat (first | exact .h | apply Pick.t)); done) (by assumption)) | exact Y_loadAt rfl (by (repeat (first | exact .h | apply Pick.t)); done) (by rfl) | exact Y_lssd rfl rfl (by first | exact decide_eq_true (by omega) | exact decide_eq_false (by omega)) | exact Y_lss rfl rfl | exact Y_leqd rfl rfl (by first | exact decide_eq_true (by omega) | exact decide_eq_false (by omega)) | exact Y_leq rfl rfl | exact Y_gtrd rfl rfl (by first | exact decide_eq_true (by omega) | exact decide_eq_false (by omega)) | exact Y_gtr rfl rfl | exact Y_eqld rfl rfl (by first | exact decide_eq_true (by omega) | exact decide_eq_false (by omega)) | exact Y_eql rfl rfl | exact Y_neqd rfl rfl (by first | exact decide_eq_true (by omega) | exact decide_eq_false (by omega)) | exact Y_neq rfl rfl | exact Y_eql_nil rfl rfl | exact Y_neq_nil rfl rfl | exact Y_slice_eq_nil rfl rfl | exact Y_map_eq_nil rfl rfl | exact Y_add' rfl rfl (w64 (by omega) (by omega)) | exact Y_add' rfl rfl (wu64 (by omega) (by omega)) | exact Y_sub' rfl rfl (w64 (by omega) (by omega)) | exact Y_sub' rfl rfl (wu64 (by omega) (by omega)) | exact Y_len_slice rfl | exact Y_pick_t rfl rfl | exact Y_pick_f rfl rfl | fail) rfl ?_
        | refine X_loud rfl rfl ?_ | refine X_bar rfl ?_ | refine X_next (fun _ h => h) ?_
        | (refine X_next ?_ ?_; · exact fun _ h => sat_sub (by (repeat (first | exact .nil | exact .refl _ | exact .h | apply Pick.t | apply Picks.cons | apply Picks.skip)); done) h)
        | refine X_next (fun _ _ => sat_nil') ?_ | refine X_nil ?_
        | refine H_draw (id := 20) 9999 _ [(0, false), (1, false), (2, false), (3, false), (4, false), (5, false), (6, false), (7, false), (8, false), (9, false)] (by kernel_rfl) (fun _ h => h) ?_
        | exact E_fin1 (.inl rfl) rfl rfl rfl (by (repeat (first | exact .nil | exact .refl _ | exact .h | apply Pick.t | apply Picks.cons | apply Picks.skip)); done)
        | exact E_fin1 (.inr rfl) rfl rfl rfl (by (repeat (first | exact .nil | exact .refl _ | exact .h | apply Pick.t | apply Picks.cons | apply Picks.skip)); done)
        | exact E_fin2 (.inl rfl) rfl rfl rfl rfl (by (repeat (first | exact .nil | exact .refl _ | exact .h | apply Pick.t | apply Picks.cons | apply Picks.skip)); done)
        | exact E_fin2 (.inr rfl) rfl rfl rfl rfl (by (repeat (first | exact .nil | exact .refl _ | exact .h | apply Pick.t | apply Picks.cons | apply Picks.skip)); done)
        | exact E_fin3 (.inl rfl) rfl rfl rfl rfl rfl (by (repeat (first | exact .nil | exact .refl _ | exact .h | apply Pick.t | apply Picks.cons | apply Picks.skip)); done)
        | exact E_fin3 (.inr rfl) rfl rfl rfl rfl rfl (by (repeat (first | exact .nil | exact .refl _ | exact .h | apply Pick.t | apply Picks.cons | apply Picks.skip)); done)
        | exact E_fin0 (.inl rfl) rfl (by (repeat (first | exact .nil | exact .refl _ | exact .h | apply Pick.t | apply Picks.cons | apply Picks.skip)); done)
        | exact E_fin0 (.inr rfl) rfl (by (repeat (first | exact .nil | exact .refl _ | exact .h | apply Pick.t | apply Picks.cons | apply Picks.skip)); done) | fail)
      refine H_loopk [2, 18, 20, 21] (fun i : Nat => [(22, i64v i)]) (fun _ => slc 36 1 yi.1 q.inn.length yi.2 (q.inn.map u64v) :: pline FS p q :: slc 36 1 yw.1 q.waiting.length yw.2 (q.waiting.map u64v) :: pool FS :: fairA x b' e' :: F)
        (fun i => 1 ≤ i) (fun i => q.waiting.length - i) 1 (Nat.le_refl _) ⟨rfl, trivial⟩ (fun _ h => h) ?_
      intro i hi
      by_cases hlt : i < q.waiting.length
      · obtain ⟨u, hu1⟩ := getSome hlt
        obtain ⟨v, hv1⟩ := getSome (show i - 1 < q.waiting.length by omega)
        have hv2 : q.waiting[((i : Int) - 1).toNat]? = some v := by rw [← hv1]; congr 1; omega
        have huv : v < u := by
          obtain ⟨g1, rfl⟩ := List.getElem?_eq_some_iff.1 hu1
          obtain ⟨g2, rfl⟩ := List.getElem?_eq_some_iff.1 hv1
          exact List.pairwise_iff_getElem.1 (waiting_up ok) (i - 1) i g2 g1 (by omega)
        refine H_slccase (.t (.t .h)) (fun _ e => by omega) fun bw ow ew => ?_
        rw [ew]
        repeat (first
          | refine H_seq ?_ | refine H_block ?_ | refine H_region ?_ | refine TL_nil ?_ | refine N_then ?_ | refine N_block ?_ | refine H_skip ?_ | refine H_ret ?_ | refine R_then ?_ | refine R_block ?_
          | refine H_exit ?_ | refine X_then ?_ | refine X_block_eq ?_ | refine X_block_ne rfl ?_ | refine H_cond_t rfl ?_ | refine H_cond_f rfl ?_
          | refine TL_y (by first | exact Y_move rfl | exact Y_assign rfl | exact Y_nilCheck rfl | exact Y_nilCheckF rfl | exact Y_fieldAddr rfl | exact Y_load rfl (Vl_cl (by (repeat (first | exact .h | apply Pick.t)); done) rfl) | exact Y_load rfl (by assumption) | exact Y_indexAddr rfl rfl (by omega) (by first | omega | (simp only [List.length_cons]; omega)) | exact Y_load rfl (Vl_elem (by (repeat (first | exact .h | apply Pick.t)); done) (by assumption)) | exact Y_loadAt rfl (by (repeat (first | exact .h | apply Pick.t)); done) (by rfl) | exact Y_lssd rfl rfl (by first | exact decide_eq_true (by omega) | exact decide_eq_false (by omega)) | exact Y_lss rfl rfl | exact Y_leqd rfl rfl (by first | exact decide_eq_true (by omega) | exact decide_eq_false (by omega)) | exact Y_leq rfl rfl | exact Y_gtrd rfl rfl (by first | exact decide_eq_true (by omega) | exact decide_eq_false (by omega)) | exact Y_gtr rfl rfl | exact Y_eqld rfl rfl (by first | exact decide_eq_true (by omega) | exact decide_eq_false (by omega)) | exact Y_eql rfl rfl | exact Y_neqd rfl rfl (by first | exact decide_eq_true (by omega) | exact decide_eq_false (by omega)) | exact Y_neq rfl rfl | exact Y_eql_nil rfl rfl | exact Y_neq_nil rfl rfl | exact Y_slice_eq_nil rfl rfl | exact Y_map_eq_nil rfl rfl | exact Y_add' rfl rfl (w64 (by omega) (by omega)) | exact Y_add' rfl rfl (wu64 (by omega) (by omega)) | exact Y_sub' rfl rfl (w64 (by omega) (by omega)) | exact Y_sub' rfl rfl (wu64 (by omega) (by omega)) | exact Y_len_slice rfl | exact Y_pick_t rfl rfl | exact Y_pick_f rfl rfl | fail) rfl ?_
          | refine TLg_run rfl rfl ?_ | refine TLg_skip rfl rfl rfl rfl ?_ | refine T_store rfl rfl rfl (by (repeat (first | exact .h | apply Pick.t)); done) rfl ?_ | refine T_box rfl rfl fun p1 => ?_
          | refine T_storeAt rfl rfl (by (repeat (first | exact .h | apply Pick.t)); done) (by rfl) (by rfl) (by rfl) ?_
          | refine X_y rfl (by first | exact Y_move rfl | exact Y_assign rfl | exact Y_nilCheck rfl | exact Y_nilCheckF rfl | exact Y_fieldAddr rfl | exact Y_load rfl (Vl_cl (by (repeat (first | exact .h | apply Pick.t)); done) rfl) | exact Y_load rfl (by assumption) | exact Y_indexAddr rfl rfl (by omega) (by first | omega | (simp only [List.length_cons]; omega)) | exact Y_load rfl (Vl_elem (by (repeat (first | exact .h | apply Pick.t)); done) (by assumption)) | exact Y_loadAt rfl (by (repeat (first | exact .h | apply Pick.t)); done) (by rfl) | exact Y_lssd rfl rfl (by first | exact decide_eq_true (by omega) | exact decide_eq_false (by omega)) | exact Y_lss rfl rfl | exact Y_leqd rfl rfl (by first | exact decide_eq_true (by omega) | exact decide_eq_false (by omega)) | exact Y_leq rfl rfl | exact Y_gtrd rfl rfl (by first | exact decide_eq_true (by omega) | exact decide_eq_false (by omega)) | exact Y_gtr rfl rfl | exact Y_eqld rfl rfl (by first | exact decide_eq_true (by omega) | exact decide_eq_false (by omega)) | exact Y_eql rfl rfl | exact Y_neqd rfl rfl (by first | exact decide_eq_true (by omega) | exact decide_eq_false (by omega)) | exact Y_neq rfl rfl | exact Y_eql_nil rfl rfl | exact Y_neq_nil rfl rfl | exact Y_slice_eq_nil rfl rfl | exact Y_map_eq_nil rfl rfl | exact Y_add' rfl rfl (w64 (by omega) (by omega)) | exact Y_add' rfl rfl (wu64 (by omega) (by omega)) | exact Y_sub' rfl rfl (w64 (by omega) (by omega)) | exact Y_sub' rfl rfl (wu64 (by omega) (by omega)) | exact Y_len_slice rfl | exact Y_pick_t rfl rfl | exact Y_pick_f rfl rfl | fail) rfl ?_
          | refine X_loud rfl rfl ?_ | refine X_bar rfl ?_ | refine X_next (fun _ h => h) ?_
          | (refine X_next ?_ ?_; · exact fun _ h => sat_sub (by (repeat (first | exact .nil | exact .refl _ | exact .h | apply Pick.t | apply Picks.cons | apply Picks.skip)); done) h)
          | refine X_next (fun _ _ => sat_nil') ?_ | refine X_nil ?_
          | refine H_draw (id := 20) 9999 _ [(0, false), (1, false), (2, false), (3, false), (4, false), (5, false), (6, false), (7, false), (8, false), (9, false)] (by kernel_rfl) (fun _ h => h) ?_
          | exact E_fin1 (.inl rfl) rfl rfl rfl (by (repeat (first | exact .nil | exact .refl _ | exact .h | apply Pick.t | apply Picks.cons | apply Picks.skip)); done)
          | exact E_fin1 (.inr rfl) rfl rfl rfl (by (repeat (first | exact .nil | exact .refl _ | exact .h | apply Pick.t | apply Picks.cons | apply Picks.skip)); done)
          | exact E_fin2 (.inl rfl) rfl rfl rfl rfl (by (repeat (first | exact .nil | exact .refl _ | exact .h | apply Pick.t | apply Picks.cons | apply Picks.skip)); done)
          | exact E_fin2 (.inr rfl) rfl rfl rfl rfl (by (repeat (first | exact .nil | exact .refl _ | exact .h | apply Pick.t | apply Picks.cons | apply Picks.skip)); done)
          | exact E_fin3 (.inl rfl) rfl rfl rfl rfl rfl (by (repeat (first | exact .nil | exact .refl _ | exact .h | apply Pick.t | apply Picks.cons | apply Picks.skip)); done)
          | exact E_fin3 (.inr rfl) rfl rfl rfl rfl rfl (by (repeat (first | exact .nil | exact .refl _ | exact .h | apply Pick.t | apply Picks.cons | apply Picks.skip)); done)
          | exact E_fin0 (.inl rfl) rfl (by (repeat (first | exact .nil | exact .refl _ | exact .h | apply Pick.t | apply Picks.cons | apply Picks.skip)); done)
          | exact E_fin0 (.inr rfl) rfl (by (repeat (first | exact .nil | exact .refl _ | exact .h | apply Pick.t | apply Picks.cons | apply Picks.skip)); done) | fail)
        rw [← ew]
        exact N_rk (i + 1) (by omega) (by omega) ⟨rfl, trivial⟩ ⟨rfl, rfl, rfl, rfl, trivial⟩ fun _ hs => hs
      · have hfit : 0 < q.inn.length ∨ 0 < q.used ∨ q.waiting.length = 0 ∨ q.fits = true := by
          by_cases g1 : 0 < q.inn.length
          · exact .inl g1
          by_cases g2 : 0 < q.used
          · exact .inr (.inl g2)
          by_cases g3 : q.waiting.length = 0
          · exact .inr (.inr (.inl g3))
          refine .inr (.inr (.inr (first_fits ok ?_ (by omega) ?_)))
          · have : q.ins.length = 0 := by simp only [RS.inn, List.length_map] at g1; omega
            exact List.eq_nil_of_length_eq_zero this
          · intro e; rw [RS.waiting, e] at g3; exact g3 rfl
        by_cases g1 : 0 < q.inn.length
        · repeat (first
            | refine H_seq ?_ | refine H_block ?_ | refine H_region ?_ | refine TL_nil ?_ | refine N_then ?_ | refine N_block ?_ | refine H_skip ?_ | refine H_ret ?_ | refine R_then ?_ | refine R_block ?_
            | refine H_exit ?_ | refine X_then ?_ | refine X_block_eq ?_ | refine X_block_ne rfl ?_ | refine H_cond_t rfl ?_ | refine H_cond_f rfl ?_
            | refine TL_y (by first | exact Y_move rfl | exact Y_assign rfl | exact Y_nilCheck rfl | exact Y_nilCheckF rfl | exact Y_fieldAddr rfl | exact Y_load rfl (Vl_cl (by (repeat (first | exact .h | apply Pick.t)); done) rfl) | exact Y_load rfl (by assumption) | exact Y_indexAddr rfl rfl (by omega) (by first | omega | (simp only [List.length_cons]; omega)) | exact Y_load rfl (Vl_elem (by (repeat (first | exact .h | apply Pick.t)); done) (by assumption)) | exact Y_loadAt rfl (by (repeat (first | exact .h | apply Pick.t)); done) (by rfl) | exact Y_lssd rfl rfl (by first | exact decide_eq_true (by omega) | exact decide_eq_false (by omega)) | exact Y_lss rfl rfl | exact Y_leqd rfl rfl (by first | exact decide_eq_true (by omega) | exact decide_eq_false (by omega)) | exact Y_leq rfl rfl | exact Y_gtrd rfl rfl (by first | exact decide_eq_true (by omega) | exact decide_eq_false (by omega)) | exact Y_gtr rfl rfl | exact Y_eqld rfl rfl (by first | exact decide_eq_true (by omega) | exact decide_eq_false (by omega)) | exact Y_eql rfl rfl | exact Y_neqd rfl rfl (by first | exact decide_eq_true (by omega) | exact decide_eq_false (by omega)) | exact Y_neq rfl rfl | exact Y_eql_nil rfl rfl | exact Y_neq_nil rfl rfl | exact Y_slice_eq_nil rfl rfl | exact Y_map_eq_nil rfl rfl | exact Y_add' rfl rfl (w64 (by omega) (by omega)) | exact Y_add' rfl rfl (wu64 (by omega) (by omega)) | exact Y_sub' rfl rfl (w64 (by omega) (by omega)) | exact Y_sub' rfl rfl (wu64 (by omega) (by omega)) | exact Y_len_slice rfl | exact Y_pick_t rfl rfl | exact Y_pick_f rfl rfl | fail) rfl ?_
            | refine TLg_run rfl rfl ?_ | refine TLg_skipu rfl rfl rfl ?_ | refine TLg_skip rfl rfl rfl rfl ?_ | refine T_store rfl rfl rfl (by (repeat (first | exact .h | apply Pick.t)); done) rfl ?_ | refine T_box rfl rfl fun p1 => ?_
            | refine T_storeAt rfl rfl (by (repeat (first | exact .h | apply Pick.t)); done) (by rfl) (by rfl) (by rfl) ?_
            | refine X_y rfl (by first | exact Y_move rfl | exact Y_assign rfl | exact Y_nilCheck rfl | exact Y_nilCheckF rfl | exact Y_fieldAddr rfl | exact Y_load rfl (Vl_cl (by (repeat (first | exact .h | apply Pick.t)); done) rfl) | exact Y_load rfl (by assumption) | exact Y_indexAddr rfl rfl (by omega) (by first | omega | (simp only [List.length_cons]; omega)) | exact Y_load rfl (Vl_elem (by (repeat (first | exact .h | apply Pick.t)); done) (by assumption)) | exact Y_loadAt rfl (by (repeat (first | exact .h | apply Pick.t)); done) (by rfl) | exact Y_lssd rfl rfl (by first | exact decide_eq_true (by omega) | exact decide_eq_false (by omega)) | exact Y_lss rfl rfl | exact Y_leqd rfl rfl (by first | exact decide_eq_true (by omega) | exact decide_eq_false (by omega)) | exact Y_leq rfl rfl | exact Y_gtrd rfl rfl (by first | exact decide_eq_true (by omega) | exact decide_eq_false (by omega)) | exact Y_gtr rfl rfl | exact Y_eqld rfl rfl (by first | exact decide_eq_true (by omega) | exact decide_eq_false (by omega)) | exact Y_eql rfl rfl | exact Y_neqd rfl rfl (by first | exact decide_eq_true (by omega) | exact decide_eq_false (by omega)) | exact Y_neq rfl rfl | exact Y_eql_nil rfl rfl | exact Y_neq_nil rfl rfl | exact Y_slice_eq_nil rfl rfl | exact Y_map_eq_nil rfl rfl | exact Y_add' rfl rfl (w64 (by omega) (by omega)) | exact Y_add' rfl rfl (wu64 (by omega) (by omega)) | exact Y_sub' rfl rfl (w64 (by omega) (by omega)) | exact Y_sub' rfl rfl (wu64 (by omega) (by omega)) | exact Y_len_slice rfl | exact Y_pick_t rfl rfl | exact Y_pick_f rfl rfl | fail) rfl ?_
            | refine X_loud rfl rfl ?_ | refine X_bar rfl ?_ | refine X_next (fun _ h => h) ?_
            | (refine X_next ?_ ?_; · exact fun _ h => sat_sub (by (repeat (first | exact .nil | exact .refl _ | exact .h | apply Pick.t | apply Picks.cons | apply Picks.skip)); done) h)
            | refine X_next (fun _ _ => sat_nil') ?_ | refine X_nil ?_
            | refine H_draw (id := 20) 9999 _ [(0, false), (1, false), (2, false), (3, false), (4, false), (5, false), (6, false), (7, false), (8, false), (9, false)] (by kernel_rfl) (fun _ h => h) ?_
            | exact E_fin1 (.inl rfl) rfl rfl rfl (by (repeat (first | exact .nil | exact .refl _ | exact .h | apply Pick.t | apply Picks.cons | apply Picks.skip)); done)
            | exact E_fin1 (.inr rfl) rfl rfl rfl (by (repeat (first | exact .nil | exact .refl _ | exact .h | apply Pick.t | apply Picks.cons | apply Picks.skip)); done)
            | exact E_fin2 (.inl rfl) rfl rfl rfl rfl (by (repeat (first | exact .nil | exact .refl _ | exact .h | apply Pick.t | apply Picks.cons | apply Picks.skip)); done)
            | exact E_fin2 (.inr rfl) rfl rfl rfl rfl (by (repeat (first | exact .nil | exact .refl _ | exact .h | apply Pick.t | apply Picks.cons | apply Picks.skip)); done)
            | exact E_fin3 (.inl rfl) rfl rfl rfl rfl rfl (by (repeat (first | exact .nil | exact .refl _ | exact .h | apply Pick.t | apply Picks.cons | apply Picks.skip)); done)
            | exact E_fin3 (.inr rfl) rfl rfl rfl rfl rfl (by (repeat (first | exact .nil | exact .refl _ | exact .h | apply Pick.t | apply Picks.cons | apply Picks.skip)); done)
            | exact E_fin0 (.inl rfl) rfl (by (repeat (first | exact .nil | exact .refl _ | exact .h | apply Pick.t | apply Picks.cons | apply Picks.skip)); done)
            | exact E_fin0 (.inr rfl) rfl (by (repeat (first | exact .nil | exact .refl _ | exact .h | apply Pick.t | apply Picks.cons | apply Picks.skip)); done) | fail)
          exact X_fin1 (b', e') hseen (by first | exact .inl rfl | exact .inr rfl) (by rfl) (by rfl) (by rfl) (by (repeat (first | exact .nil | exact .refl _ | exact .h | apply Pick.t | apply Picks.cons | apply Picks.skip)); done)
        by_cases g2 : 0 < q.used
        · repeat (first
            | refine H_seq ?_ | refine H_block ?_ | refine H_region ?_ | refine TL_nil ?_ | refine N_then ?_ | refine N_block ?_ | refine H_skip ?_ | refine H_ret ?_ | refine R_then ?_ | refine R_block ?_
            | refine H_exit ?_ | refine X_then ?_ | refine X_block_eq ?_ | refine X_block_ne rfl ?_ | refine H_cond_t rfl ?_ | refine H_cond_f rfl ?_
            | refine TL_y (by first | exact Y_move rfl | exact Y_assign rfl | exact Y_nilCheck rfl | exact Y_nilCheckF rfl | exact Y_fieldAddr rfl | exact Y_load rfl (Vl_cl (by (repeat (first | exact .h | apply Pick.t)); done) rfl) | exact Y_load rfl (by assumption) | exact Y_indexAddr rfl rfl (by omega) (by first | omega | (simp only [List.length_cons]; omega)) | exact Y_load rfl (Vl_elem (by (repeat (first | exact .h | apply Pick.t)); done) (by assumption)) | exact Y_loadAt rfl (by (repeat (first | exact .h | apply Pick.t)); done) (by rfl) | exact Y_lssd rfl rfl (by first | exact decide_eq_true (by omega) | exact decide_eq_false (by omega)) | exact Y_lss rfl rfl | exact Y_leqd rfl rfl (by first | exact decide_eq_true (by omega) | exact decide_eq_false (by omega)) | exact Y_leq rfl rfl | exact Y_gtrd rfl rfl (by first | exact decide_eq_true (by omega) | exact decide_eq_false (by omega)) | exact Y_gtr rfl rfl | exact Y_eqld rfl rfl (by first | exact decide_eq_true (by omega) | exact decide_eq_false (by omega)) | exact Y_eql rfl rfl | exact Y_neqd rfl rfl (by first | exact decide_eq_true (by omega) | exact decide_eq_false (by omega)) | exact Y_neq rfl rfl | exact Y_eql_nil rfl rfl | exact Y_neq_nil rfl rfl | exact Y_slice_eq_nil rfl rfl | exact Y_map_eq_nil rfl rfl | exact Y_add' rfl rfl (w64 (by omega) (by omega)) | exact Y_add' rfl rfl (wu64 (by omega) (by omega)) | exact Y_sub' rfl rfl (w64 (by omega) (by omega)) | exact Y_sub' rfl rfl (wu64 (by omega) (by omega)) | exact Y_len_slice rfl | exact Y_pick_t rfl rfl | exact Y_pick_f rfl rfl | fail) rfl ?_
            | refine TLg_run rfl rfl ?_ | refine TLg_skipu rfl rfl rfl ?_ | refine TLg_skip rfl rfl rfl rfl ?_ | refine T_store rfl rfl rfl (by (repeat (first | exact .h | apply Pick.t)); done) rfl ?_ | refine T_box rfl rfl fun p1 => ?_
            | refine T_storeAt rfl rfl (by (repeat (first | exact .h | apply Pick.t)); done) (by rfl) (by rfl) (by rfl) ?_
            | refine X_y rfl (by first | exact Y_move rfl | exact Y_assign rfl | exact Y_nilCheck rfl | exact Y_nilCheckF rfl | exact Y_fieldAddr rfl | exact Y_load rfl (Vl_cl (by (repeat (first | exact .h | apply Pick.t)); done) rfl) | exact Y_load rfl (by assumption) | exact Y_indexAddr rfl rfl (by omega) (by first | omega | (simp only [List.length_cons]; omega)) | exact Y_load rfl (Vl_elem (by (repeat (first | exact .h | apply Pick.t)); done) (by assumption)) | exact Y_loadAt rfl (by (repeat (first | exact .h | apply Pick.t)); done) (by rfl) | exact Y_lssd rfl rfl (by first | exact decide_eq_true (by omega) | exact decide_eq_false (by omega)) | exact Y_lss rfl rfl | exact Y_leqd rfl rfl (by first | exact decide_eq_true (by omega) | exact decide_eq_false (by omega)) | exact Y_leq rfl rfl | exact Y_gtrd rfl rfl (by first | exact decide_eq_true (by omega) | exact decide_eq_false (by omega)) | exact Y_gtr rfl rfl | exact Y_eqld rfl rfl (by first | exact decide_eq_true (by omega) | exact decide_eq_false (by omega)) | exact Y_eql rfl rfl | exact Y_neqd rfl rfl (by first | exact decide_eq_true (by omega) | exact decide_eq_false (by omega)) | exact Y_neq rfl rfl | exact Y_eql_nil rfl rfl | exact Y_neq_nil rfl rfl | exact Y_slice_eq_nil rfl rfl | exact Y_map_eq_nil rfl rfl | exact Y_add' rfl rfl (w64 (by omega) (by omega)) | exact Y_add' rfl rfl (wu64 (by omega) (by omega)) | exact Y_sub' rfl rfl (w64 (by omega) (by omega)) | exact Y_sub' rfl rfl (wu64 (by omega) (by omega)) | exact Y_len_slice rfl | exact Y_pick_t rfl rfl | exact Y_pick_f rfl rfl | fail) rfl ?_
            | refine X_loud rfl rfl ?_ | refine X_bar rfl ?_ | refine X_next (fun _ h => h) ?_
            | (refine X_next ?_ ?_; · exact fun _ h => sat_sub (by (repeat (first | exact .nil | exact .refl _ | exact .h | apply Pick.t | apply Picks.cons | apply Picks.skip)); done) h)
            | refine X_next (fun _ _ => sat_nil') ?_ | refine X_nil ?_
            | refine H_draw (id := 20) 9999 _ [(0, false), (1, false), (2, false), (3, false), (4, false), (5, false), (6, false), (7, false), (8, false), (9, false)] (by kernel_rfl) (fun _ h => h) ?_
            | exact E_fin1 (.inl rfl) rfl rfl rfl (by (repeat (first | exact .nil | exact .refl _ | exact .h | apply Pick.t | apply Picks.cons | apply Picks.skip)); done)
            | exact E_fin1 (.inr rfl) rfl rfl rfl (by (repeat (first | exact .nil | exact .refl _ | exact .h | apply Pick.t | apply Picks.cons | apply Picks.skip)); done)
            | exact E_fin2 (.inl rfl) rfl rfl rfl rfl (by (repeat (first | exact .nil | exact .refl _ | exact .h | apply Pick.t | apply Picks.cons | apply Picks.skip)); done)
            | exact E_fin2 (.inr rfl) rfl rfl rfl rfl (by (repeat (first | exact .nil | exact .refl _ | exact .h | apply Pick.t | apply Picks.cons | apply Picks.skip)); done)
            | exact E_fin3 (.inl rfl) rfl rfl rfl rfl rfl (by (repeat (first | exact .nil | exact .refl _ | exact .h | apply Pick.t | apply Picks.cons | apply Picks.skip)); done)
            | exact E_fin3 (.inr rfl) rfl rfl rfl rfl rfl (by (repeat (first | exact .nil | exact .refl _ | exact .h | apply Pick.t | apply Picks.cons | apply Picks.skip)); done)
            | exact E_fin0 (.inl rfl) rfl (by (repeat (first | exact .nil | exact .refl _ | exact .h | apply Pick.t | apply Picks.cons | apply Picks.skip)); done)
            | exact E_fin0 (.inr rfl) rfl (by (repeat (first | exact .nil | exact .refl _ | exact .h | apply Pick.t | apply Picks.cons | apply Picks.skip)); done) | fail)
          exact X_fin1 (b', e') hseen (by first | exact .inl rfl | exact .inr rfl) (by rfl) (by rfl) (by rfl) (by (repeat (first | exact .nil | exact .refl _ | exact .h | apply Pick.t | apply Picks.cons | apply Picks.skip)); done)
        by_cases g3 : q.waiting.length = 0
        · repeat (first
            | refine H_seq ?_ | refine H_block ?_ | refine H_region ?_ | refine TL_nil ?_ | refine N_then ?_ | refine N_block ?_ | refine H_skip ?_ | refine H_ret ?_ | refine R_then ?_ | refine R_block ?_
            | refine H_exit ?_ | refine X_then ?_ | refine X_block_eq ?_ | refine X_block_ne rfl ?_ | refine H_cond_t rfl ?_ | refine H_cond_f rfl ?_
            | refine TL_y (by first | exact Y_move rfl | exact Y_assign rfl | exact Y_nilCheck rfl | exact Y_nilCheckF rfl | exact Y_fieldAddr rfl | exact Y_load rfl (Vl_cl (by (repeat (first | exact .h | apply Pick.t)); done) rfl) | exact Y_load rfl (by assumption) | exact Y_indexAddr rfl rfl (by omega) (by first | omega | (simp only [List.length_cons]; omega)) | exact Y_load rfl (Vl_elem (by (repeat (first | exact .h | apply Pick.t)); done) (by assumption)) | exact Y_loadAt rfl (by (repeat (first | exact .h | apply Pick.t)); done) (by rfl) | exact Y_lssd rfl rfl (by first | exact decide_eq_true (by omega) | exact decide_eq_false (by omega)) | exact Y_lss rfl rfl | exact Y_leqd rfl rfl (by first | exact decide_eq_true (by omega) | exact decide_eq_false (by omega)) | exact Y_leq rfl rfl | exact Y_gtrd rfl rfl (by first | exact decide_eq_true (by omega) | exact decide_eq_false (by omega)) | exact Y_gtr rfl rfl | exact Y_eqld rfl rfl (by first | exact decide_eq_true (by omega) | exact decide_eq_false (by omega)) | exact Y_eql rfl rfl | exact Y_neqd rfl rfl (by first | exact decide_eq_true (by omega) | exact decide_eq_false (by omega)) | exact Y_neq rfl rfl | exact Y_eql_nil rfl rfl | exact Y_neq_nil rfl rfl | exact Y_slice_eq_nil rfl rfl | exact Y_map_eq_nil rfl rfl | exact Y_add' rfl rfl (w64 (by omega) (by omega)) | exact Y_add' rfl rfl (wu64 (by omega) (by omega)) | exact Y_sub' rfl rfl (w64 (by omega) (by omega)) | exact Y_sub' rfl rfl (wu64 (by omega) (by omega)) | exact Y_len_slice rfl | exact Y_pick_t rfl rfl | exact Y_pick_f rfl rfl | fail) rfl ?_
            | refine TLg_run rfl rfl ?_ | refine TLg_skipu rfl rfl rfl ?_ | refine TLg_skip rfl rfl rfl rfl ?_ | refine T_store rfl rfl rfl (by (repeat (first | exact .h | apply Pick.t)); done) rfl ?_ | refine T_box rfl rfl fun p1 => ?_
            | refine T_storeAt rfl rfl (by (repeat (first | exact .h | apply Pick.t)); done) (by rfl) (by rfl) (by rfl) ?_
            | refine X_y rfl (by first | exact Y_move rfl | exact Y_assign rfl | exact Y_nilCheck rfl | exact Y_nilCheckF rfl | exact Y_fieldAddr rfl | exact Y_load rfl (Vl_cl (by (repeat (first | exact .h | apply Pick.t)); done) rfl) | exact Y_load rfl (by assumption) | exact Y_indexAddr rfl rfl (by omega) (by first | omega | (simp only [List.length_cons]; omega)) | exact Y_load rfl (Vl_elem (by (repeat (first | exact .h | apply Pick.t)); done) (by assumption)) | exact Y_loadAt rfl (by (repeat (first | exact .h | apply Pick.t)); done) (by rfl) | exact Y_lssd rfl rfl (by first | exact decide_eq_true (by omega) | exact decide_eq_false (by omega)) | exact Y_lss rfl rfl | exact Y_leqd rfl rfl (by first | exact decide_eq_true (by omega) | exact decide_eq_false (by omega)) | exact Y_leq rfl rfl | exact Y_gtrd rfl rfl (by first | exact decide_eq_true (by omega) | exact decide_eq_false (by omega)) | exact Y_gtr rfl rfl | exact Y_eqld rfl rfl (by first | exact decide_eq_true (by omega) | exact decide_eq_false (by omega)) | exact Y_eql rfl rfl | exact Y_neqd rfl rfl (by first | exact decide_eq_true (by omega) | exact decide_eq_false (by omega)) | exact Y_neq rfl rfl | exact Y_eql_nil rfl rfl | exact Y_neq_nil rfl rfl | exact Y_slice_eq_nil rfl rfl | exact Y_map_eq_nil rfl rfl | exact Y_add' rfl rfl (w64 (by omega) (by omega)) | exact Y_add' rfl rfl (wu64 (by omega) (by omega)) | exact Y_sub' rfl rfl (w64 (by omega) (by omega)) | exact Y_sub' rfl rfl (wu64 (by omega) (by omega)) | exact Y_len_slice rfl | exact Y_pick_t rfl rfl | exact Y_pick_f rfl rfl | fail) rfl ?_
            | refine X_loud rfl rfl ?_ | refine X_bar rfl ?_ | refine X_next (fun _ h => h) ?_
            | (refine X_next ?_ ?_; · exact fun _ h => sat_sub (by (repeat (first | exact .nil | exact .refl _ | exact .h | apply Pick.t | apply Picks.cons | apply Picks.skip)); done) h)
            | refine X_next (fun _ _ => sat_nil') ?_ | refine X_nil ?_
            | refine H_draw (id := 20) 9999 _ [(0, false), (1, false), (2, false), (3, false), (4, false), (5, false), (6, false), (7, false), (8, false), (9, false)] (by kernel_rfl) (fun _ h => h) ?_
            | exact E_fin1 (.inl rfl) rfl rfl rfl (by (repeat (first | exact .nil | exact .refl _ | exact .h | apply Pick.t | apply Picks.cons | apply Picks.skip)); done)
            | exact E_fin1 (.inr rfl) rfl rfl rfl (by (repeat (first | exact .nil | exact .refl _ | exact .h | apply Pick.t | apply Picks.cons | apply Picks.skip)); done)
            | exact E_fin2 (.inl rfl) rfl rfl rfl rfl (by (repeat (first | exact .nil | exact .refl _ | exact .h | apply Pick.t | apply Picks.cons | apply Picks.skip)); done)
            | exact E_fin2 (.inr rfl) rfl rfl rfl rfl (by (repeat (first | exact .nil | exact .refl _ | exact .h | apply Pick.t | apply Picks.cons | apply Picks.skip)); done)
            | exact E_fin3 (.inl rfl) rfl rfl rfl rfl rfl (by (repeat (first | exact .nil | exact .refl _ | exact .h | apply Pick.t | apply Picks.cons | apply Picks.skip)); done)
            | exact E_fin3 (.inr rfl) rfl rfl rfl rfl rfl (by (repeat (first | exact .nil | exact .refl _ | exact .h | apply Pick.t | apply Picks.cons | apply Picks.skip)); done)
            | exact E_fin0 (.inl rfl) rfl (by (repeat (first | exact .nil | exact .refl _ | exact .h | apply Pick.t | apply Picks.cons | apply Picks.skip)); done)
            | exact E_fin0 (.inr rfl) rfl (by (repeat (first | exact .nil | exact .refl _ | exact .h | apply Pick.t | apply Picks.cons | apply Picks.skip)); done) | fail)
          exact X_fin1 (b', e') hseen (by first | exact .inl rfl | exact .inr rfl) (by rfl) (by rfl) (by rfl) (by (repeat (first | exact .nil | exact .refl _ | exact .h | apply Pick.t | apply Picks.cons | apply Picks.skip)); done)
        · have hf : q.fits = true := by rcases hfit with h | h | h | h; exact absurd h g1; exact absurd h g2; exact absurd h g3; exact h
          have hfc := pl_fits (FS := FS) (p := p) ok hN
          rw [hf] at hfc
          repeat (first
            | refine H_seq ?_ | refine H_block ?_ | refine H_region ?_ | refine TL_nil ?_ | refine N_then ?_ | refine N_block ?_ | refine H_skip ?_ | refine H_ret ?_ | refine R_then ?_ | refine R_block ?_
            | refine H_exit ?_ | refine X_then ?_ | refine X_block_eq ?_ | refine X_block_ne rfl ?_ | refine H_cond_t rfl ?_ | refine H_cond_f rfl ?_
            | refine TL_y (by first | exact Y_move rfl | exact Y_assign rfl | exact Y_nilCheck rfl | exact Y_nilCheckF rfl | exact Y_fieldAddr rfl | exact Y_load rfl (Vl_cl (by (repeat (first | exact .h | apply Pick.t)); done) rfl) | exact Y_load rfl (by assumption) | exact Y_indexAddr rfl rfl (by omega) (by first | omega | (simp only [List.length_cons]; omega)) | exact Y_load rfl (Vl_elem (by (repeat (first | exact .h | apply Pick.t)); done) (by assumption)) | exact Y_loadAt rfl (by (repeat (first | exact .h | apply Pick.t)); done) (by rfl) | exact Y_lssd rfl rfl (by first | exact decide_eq_true (by omega) | exact decide_eq_false (by omega)) | exact Y_lss rfl rfl | exact Y_leqd rfl rfl (by first | exact decide_eq_true (by omega) | exact decide_eq_false (by omega)) | exact Y_leq rfl rfl | exact Y_gtrd rfl rfl (by first | exact decide_eq_true (by omega) | exact decide_eq_false (by omega)) | exact Y_gtr rfl rfl | exact Y_eqld rfl rfl (by first | exact decide_eq_true (by omega) | exact decide_eq_false (by omega)) | exact Y_eql rfl rfl | exact Y_neqd rfl rfl (by first | exact decide_eq_true (by omega) | exact decide_eq_false (by omega)) | exact Y_neq rfl rfl | exact Y_eql_nil rfl rfl | exact Y_neq_nil rfl rfl | exact Y_slice_eq_nil rfl rfl | exact Y_map_eq_nil rfl rfl | exact Y_add' rfl rfl (w64 (by omega) (by omega)) | exact Y_add' rfl rfl (wu64 (by omega) (by omega)) | exact Y_sub' rfl rfl (w64 (by omega) (by omega)) | exact Y_sub' rfl rfl (wu64 (by omega) (by omega)) | exact Y_len_slice rfl | exact Y_pick_t rfl rfl | exact Y_pick_f rfl rfl | fail) rfl ?_
            | refine TLg_run rfl rfl ?_ | refine TLg_skipu rfl rfl rfl ?_ | refine TLg_skip rfl rfl rfl rfl ?_ | refine T_store rfl rfl rfl (by (repeat (first | exact .h | apply Pick.t)); done) rfl ?_ | refine T_box rfl rfl fun p1 => ?_
            | refine T_storeAt rfl rfl (by (repeat (first | exact .h | apply Pick.t)); done) (by rfl) (by rfl) (by rfl) ?_
            | refine T_callA rfl rfl (by (repeat (first | exact .nil | exact .refl _ | exact .h | apply Pick.t | apply Picks.cons)); done) hfc ?_
            | refine X_y rfl (by first | exact Y_move rfl | exact Y_assign rfl | exact Y_nilCheck rfl | exact Y_nilCheckF rfl | exact Y_fieldAddr rfl | exact Y_load rfl (Vl_cl (by (repeat (first | exact .h | apply Pick.t)); done) rfl) | exact Y_load rfl (by assumption) | exact Y_indexAddr rfl rfl (by omega) (by first | omega | (simp only [List.length_cons]; omega)) | exact Y_load rfl (Vl_elem (by (repeat (first | exact .h | apply Pick.t)); done) (by assumption)) | exact Y_loadAt rfl (by (repeat (first | exact .h | apply Pick.t)); done) (by rfl) | exact Y_lssd rfl rfl (by first | exact decide_eq_true (by omega) | exact decide_eq_false (by omega)) | exact Y_lss rfl rfl | exact Y_leqd rfl rfl (by first | exact decide_eq_true (by omega) | exact decide_eq_false (by omega)) | exact Y_leq rfl rfl | exact Y_gtrd rfl rfl (by first | exact decide_eq_true (by omega) | exact decide_eq_false (by omega)) | exact Y_gtr rfl rfl | exact Y_eqld rfl rfl (by first | exact decide_eq_true (by omega) | exact decide_eq_false (by omega)) | exact Y_eql rfl rfl | exact Y_neqd rfl rfl (by first | exact decide_eq_true (by omega) | exact decide_eq_false (by omega)) | exact Y_neq rfl rfl | exact Y_eql_nil rfl rfl | exact Y_neq_nil rfl rfl | exact Y_slice_eq_nil rfl rfl | exact Y_map_eq_nil rfl rfl | exact Y_add' rfl rfl (w64 (by omega) (by omega)) | exact Y_add' rfl rfl (wu64 (by omega) (by omega)) | exact Y_sub' rfl rfl (w64 (by omega) (by omega)) | exact Y_sub' rfl rfl (wu64 (by omega) (by omega)) | exact Y_len_slice rfl | exact Y_pick_t rfl rfl | exact Y_pick_f rfl rfl | fail) rfl ?_
            | refine X_loud rfl rfl ?_ | refine X_bar rfl ?_ | refine X_next (fun _ h => h) ?_
            | (refine X_next ?_ ?_; · exact fun _ h => sat_sub (by (repeat (first | exact .nil | exact .refl _ | exact .h | apply Pick.t | apply Picks.cons | apply Picks.skip)); done) h)
            | refine X_next (fun _ _ => sat_nil') ?_ | refine X_nil ?_
            | refine H_draw (id := 20) 9999 _ [(0, false), (1, false), (2, false), (3, false), (4, false), (5, false), (6, false), (7, false), (8, false), (9, false)] (by kernel_rfl) (fun _ h => h) ?_
            | exact E_fin1 (.inl rfl) rfl rfl rfl (by (repeat (first | exact .nil | exact .refl _ | exact .h | apply Pick.t | apply Picks.cons | apply Picks.skip)); done)
            | exact E_fin1 (.inr rfl) rfl rfl rfl (by (repeat (first | exact .nil | exact .refl _ | exact .h | apply Pick.t | apply Picks.cons | apply Picks.skip)); done)
            | exact E_fin2 (.inl rfl) rfl rfl rfl rfl (by (repeat (first | exact .nil | exact .refl _ | exact .h | apply Pick.t | apply Picks.cons | apply Picks.skip)); done)
            | exact E_fin2 (.inr rfl) rfl rfl rfl rfl (by (repeat (first | exact .nil | exact .refl _ | exact .h | apply Pick.t | apply Picks.cons | apply Picks.skip)); done)
            | exact E_fin3 (.inl rfl) rfl rfl rfl rfl rfl (by (repeat (first | exact .nil | exact .refl _ | exact .h | apply Pick.t | apply Picks.cons | apply Picks.skip)); done)
            | exact E_fin3 (.inr rfl) rfl rfl rfl rfl rfl (by (repeat (first | exact .nil | exact .refl _ | exact .h | apply Pick.t | apply Picks.cons | apply Picks.skip)); done)
            | exact E_fin0 (.inl rfl) rfl (by (repeat (first | exact .nil | exact .refl _ | exact .h | apply Pick.t | apply Picks.cons | apply Picks.skip)); done)
            | exact E_fin0 (.inr rfl) rfl (by (repeat (first | exact .nil | exact .refl _ | exact .h | apply Pick.t | apply Picks.cons | apply Picks.skip)); done) | fail)
          exact X_fin1 (b', e') hseen (by first | exact .inl rfl | exact .inr rfl) (by rfl) (by rfl) (by rfl) (by (repeat (first | exact .nil | exact .refl _ | exact .h | apply Pick.t | apply Picks.cons | apply Picks.skip)); done)
    · intro G' key
      by_cases c1 : o.kind = 1
      · obtain ⟨g1, g2⟩ := h1 c1
        repeat (first
          | refine H_seq ?_ | refine H_block ?_ | refine H_region ?_ | refine TL_nil ?_ | refine N_then ?_ | refine N_block ?_ | refine H_skip ?_ | refine H_ret ?_ | refine R_then ?_ | refine R_block ?_
          | refine H_exit ?_ | refine X_then ?_ | refine X_block_eq ?_ | refine X_block_ne rfl ?_ | refine H_cond_t rfl ?_ | refine H_cond_f rfl ?_
          | refine TL_y (by first | exact Y_move rfl | exact Y_assign rfl | exact Y_nilCheck rfl | exact Y_nilCheckF rfl | exact Y_fieldAddr rfl | exact Y_load rfl (Vl_cl (by (repeat (first | exact .h | apply Pick.t)); done) rfl) | exact Y_load rfl (by assumption) | exact Y_indexAddr rfl rfl (by omega) (by first | omega | (simp only [List.length_cons]; omega)) | exact Y_load rfl (Vl_elem (by (repeat (first | exact .h | apply Pick.t)); done) (by assumption)) | exact Y_loadAt rfl (by (repeat (first | exact .h | apply Pick.t)); done) (by rfl) | exact Y_lssd rfl rfl (by first | exact decide_eq_true (by omega) | exact decide_eq_false (by omega)) | exact Y_lss rfl rfl | exact Y_leqd rfl rfl (by first | exact decide_eq_true (by omega) | exact decide_eq_false (by omega)) | exact Y_leq rfl rfl | exact Y_gtrd rfl rfl (by first | exact decide_eq_true (by omega) | exact decide_eq_false (by omega)) | exact Y_gtr rfl rfl | exact Y_eqld rfl rfl (by first | exact decide_eq_true (by omega) | exact decide_eq_false (by omega)) | exact Y_eql rfl rfl | exact Y_neqd rfl rfl (by first | exact decide_eq_true (by omega) | exact decide_eq_false (by omega)) | exact Y_neq rfl rfl | exact Y_eql_nil rfl rfl | exact Y_neq_nil rfl rfl | exact Y_slice_eq_nil rfl rfl | exact Y_map_eq_nil rfl rfl | exact Y_add' rfl rfl (w64 (by omega) (by omega)) | exact Y_add' rfl rfl (wu64 (by omega) (by omega)) | exact Y_sub' rfl rfl (w64 (by omega) (by omega)) | exact Y_sub' rfl rfl (wu64 (by omega) (by omega)) | exact Y_len_slice rfl | exact Y_pick_t rfl rfl | exact Y_pick_f rfl rfl | fail) rfl ?_
          | refine TLg_run rfl rfl ?_ | refine TLg_skip rfl rfl rfl rfl ?_ | refine T_store rfl rfl rfl (by (repeat (first | exact .h | apply Pick.t)); done) rfl ?_ | refine T_box rfl rfl fun p1 => ?_
          | refine T_storeAt rfl rfl (by (repeat (first | exact .h | apply Pick.t)); done) (by rfl) (by rfl) (by rfl) ?_
          | refine X_y rfl (by first | exact Y_move rfl | exact Y_assign rfl | exact Y_nilCheck rfl | exact Y_nilCheckF rfl | exact Y_fieldAddr rfl | exact Y_load rfl (Vl_cl (by (repeat (first | exact .h | apply Pick.t)); done) rfl) | exact Y_load rfl (by assumption) | exact Y_indexAddr rfl rfl (by omega) (by first | omega | (simp only [List.length_cons]; omega)) | exact Y_load rfl (Vl_elem (by (repeat (first | exact .h | apply Pick.t)); done) (by assumption)) | exact Y_loadAt rfl (by (repeat (first | exact .h | apply Pick.t)); done) (by rfl) | exact Y_lssd rfl rfl (by first | exact decide_eq_true (by omega) | exact decide_eq_false (by omega)) | exact Y_lss rfl rfl | exact Y_leqd rfl rfl (by first | exact decide_eq_true (by omega) | exact decide_eq_false (by omega)) | exact Y_leq rfl rfl | exact Y_gtrd rfl rfl (by first | exact decide_eq_true (by omega) | exact decide_eq_false (by omega)) | exact Y_gtr rfl rfl | exact Y_eqld rfl rfl (by first | exact decide_eq_true (by omega) | exact decide_eq_false (by omega)) | exact Y_eql rfl rfl | exact Y_neqd rfl rfl (by first | exact decide_eq_true (by omega) | exact decide_eq_false (by omega)) | exact Y_neq rfl rfl | exact Y_eql_nil rfl rfl | exact Y_neq_nil rfl rfl | exact Y_slice_eq_nil rfl rfl | exact Y_map_eq_nil rfl rfl | exact Y_add' rfl rfl (w64 (by omega) (by omega)) | exact Y_add' rfl rfl (wu64 (by omega) (by omega)) | exact Y_sub' rfl rfl (w64 (by omega) (by omega)) | exact Y_sub' rfl rfl (wu64 (by omega) (by omega)) | exact Y_len_slice rfl | exact Y_pick_t rfl rfl | exact Y_pick_f rfl rfl | fail) rfl ?_
          | refine X_loud rfl rfl ?_ | refine X_bar rfl ?_ | refine X_next (fun _ h => h) ?_
          | (refine X_next ?_ ?_; · exact fun _ h => sat_sub (by (repeat (first | exact .nil | exact .refl _ | exact .h | apply Pick.t | apply Picks.cons | apply Picks.skip)); done) h)
          | refine X_next (fun _ _ => sat_nil') ?_ | refine X_nil ?_
          | refine H_draw (id := 20) 9999 _ [(0, false), (1, false), (2, false), (3, false), (4, false), (5, false), (6, false), (7, false), (8, false), (9, false)] (by kernel_rfl) (fun _ h => h) ?_
          | exact E_fin1 (.inl rfl) rfl rfl rfl (by (repeat (first | exact .nil | exact .refl _ | exact .h | apply Pick.t | apply Picks.cons | apply Picks.skip)); done)
          | exact E_fin1 (.inr rfl) rfl rfl rfl (by (repeat (first | exact .nil | exact .refl _ | exact .h | apply Pick.t | apply Picks.cons | apply Picks.skip)); done)
          | exact E_fin2 (.inl rfl) rfl rfl rfl rfl (by (repeat (first | exact .nil | exact .refl _ | exact .h | apply Pick.t | apply Picks.cons | apply Picks.skip)); done)
          | exact E_fin2 (.inr rfl) rfl rfl rfl rfl (by (repeat (first | exact .nil | exact .refl _ | exact .h | apply Pick.t | apply Picks.cons | apply Picks.skip)); done)
          | exact E_fin3 (.inl rfl) rfl rfl rfl rfl rfl (by (repeat (first | exact .nil | exact .refl _ | exact .h | apply Pick.t | apply Picks.cons | apply Picks.skip)); done)
          | exact E_fin3 (.inr rfl) rfl rfl rfl rfl rfl (by (repeat (first | exact .nil | exact .refl _ | exact .h | apply Pick.t | apply Picks.cons | apply Picks.skip)); done)
          | exact E_fin0 (.inl rfl) rfl (by (repeat (first | exact .nil | exact .refl _ | exact .h | apply Pick.t | apply Picks.cons | apply Picks.skip)); done)
          | exact E_fin0 (.inr rfl) rfl (by (repeat (first | exact .nil | exact .refl _ | exact .h | apply Pick.t | apply Picks.cons | apply Picks.skip)); done) | fail)
        exact H_use (t, e) key g2 ⟨rfl, rfl, trivial⟩ fun _ hs => sat_sub (by (repeat (first | exact .nil | exact .refl _ | exact .h | apply Pick.t | apply Picks.cons | apply Picks.skip)); done) hs
      by_cases c2 : o.kind = 2
      · obtain ⟨g1, g2, g3⟩ := h2 c2
        repeat (first
          | refine H_seq ?_ | refine H_block ?_ | refine H_region ?_ | refine TL_nil ?_ | refine N_then ?_ | refine N_block ?_ | refine H_skip ?_ | refine H_ret ?_ | refine R_then ?_ | refine R_block ?_
          | refine H_exit ?_ | refine X_then ?_ | refine X_block_eq ?_ | refine X_block_ne rfl ?_ | refine H_cond_t rfl ?_ | refine H_cond_f rfl ?_
          | refine TL_y (by first | exact Y_move rfl | exact Y_assign rfl | exact Y_nilCheck rfl | exact Y_nilCheckF rfl | exact Y_fieldAddr rfl | exact Y_load rfl (Vl_cl (by (repeat (first | exact .h | apply Pick.t)); done) rfl) | exact Y_load rfl (by assumption) | exact Y_indexAddr rfl rfl (by omega) (by first | omega | (simp only [List.length_cons]; omega)) | exact Y_load rfl (Vl_elem (by (repeat (first | exact .h | apply Pick.t)); done) (by assumption)) | exact Y_loadAt rfl (by (repeat (first | exact .h | apply Pick.t)); done) (by rfl) | exact Y_lssd rfl rfl (by first | exact decide_eq_true (by omega) | exact decide_eq_false (by omega)) | exact Y_lss rfl rfl | exact Y_leqd rfl rfl (by first | exact decide_eq_true (by omega) | exact decide_eq_false (by omega)) | exact Y_leq rfl rfl | exact Y_gtrd rfl rfl (by first | exact decide_eq_true (by omega) | exact decide_eq_false (by omega)) | exact Y_gtr rfl rfl | exact Y_eqld rfl rfl (by first | exact decide_eq_true (by omega) | exact decide_eq_false (by omega)) | exact Y_eql rfl rfl | exact Y_neqd rfl rfl (by first | exact decide_eq_true (by omega) | exact decide_eq_false (by omega)) | exact Y_neq rfl rfl | exact Y_eql_nil rfl rfl | exact Y_neq_nil rfl rfl | exact Y_slice_eq_nil rfl rfl | exact Y_map_eq_nil rfl rfl | exact Y_add' rfl rfl (w64 (by omega) (by omega)) | exact Y_add' rfl rfl (wu64 (by omega) (by omega)) | exact Y_sub' rfl rfl (w64 (by omega) (by omega)) | exact Y_sub' rfl rfl (wu64 (by omega) (by omega)) | exact Y_len_slice rfl | exact Y_pick_t rfl rfl | exact Y_pick_f rfl rfl | fail) rfl ?_
          | refine TLg_run rfl rfl ?_ | refine TLg_skip rfl rfl rfl rfl ?_ | refine T_store rfl rfl rfl (by (repeat (first | exact .h | apply Pick.t)); done) rfl ?_ | refine T_box rfl rfl fun p1 => ?_
          | refine T_storeAt rfl rfl (by (repeat (first | exact .h | apply Pick.t)); done) (by rfl) (by rfl) (by rfl) ?_
          | refine X_y rfl (by first | exact Y_move rfl | exact Y_assign rfl | exact Y_nilCheck rfl | exact Y_nilCheckF rfl | exact Y_fieldAddr rfl | exact Y_load rfl (Vl_cl (by (repeat (first | exact .h | apply Pick.t)); done) rfl) | exact Y_load rfl (by assumption) | exact Y_indexAddr rfl rfl (by omega) (by first | omega | (simp only [List.length_cons]; omega)) | exact Y_load rfl (Vl_elem (by (repeat (first | exact .h | apply Pick.t)); done) (by assumption)) | exact Y_loadAt rfl (by (repeat (first | exact .h | apply Pick.t)); done) (by rfl) | exact Y_lssd rfl rfl (by first | exact decide_eq_true (by omega) | exact decide_eq_false (by omega)) | exact Y_lss rfl rfl | exact Y_leqd rfl rfl (by first | exact decide_eq_true (by omega) | exact decide_eq_false (by omega)) | exact Y_leq rfl rfl | exact Y_gtrd rfl rfl (by first | exact decide_eq_true (by omega) | exact decide_eq_false (by omega)) | exact Y_gtr rfl rfl | exact Y_eqld rfl rfl (by first | exact decide_eq_true (by omega) | exact decide_eq_false (by omega)) | exact Y_eql rfl rfl | exact Y_neqd rfl rfl (by first | exact decide_eq_true (by omega) | exact decide_eq_false (by omega)) | exact Y_neq rfl rfl | exact Y_eql_nil rfl rfl | exact Y_neq_nil rfl rfl | exact Y_slice_eq_nil rfl rfl | exact Y_map_eq_nil rfl rfl | exact Y_add' rfl rfl (w64 (by omega) (by omega)) | exact Y_add' rfl rfl (wu64 (by omega) (by omega)) | exact Y_sub' rfl rfl (w64 (by omega) (by omega)) | exact Y_sub' rfl rfl (wu64 (by omega) (by omega)) | exact Y_len_slice rfl | exact Y_pick_t rfl rfl | exact Y_pick_f rfl rfl | fail) rfl ?_
          | refine X_loud rfl rfl ?_ | refine X_bar rfl ?_ | refine X_next (fun _ h => h) ?_
          | (refine X_next ?_ ?_; · exact fun _ h => sat_sub (by (repeat (first | exact .nil | exact .refl _ | exact .h | apply Pick.t | apply Picks.cons | apply Picks.skip)); done) h)
          | refine X_next (fun _ _ => sat_nil') ?_ | refine X_nil ?_
          | refine H_draw (id := 20) 9999 _ [(0, false), (1, false), (2, false), (3, false), (4, false), (5, false), (6, false), (7, false), (8, false), (9, false)] (by kernel_rfl) (fun _ h => h) ?_
          | exact E_fin1 (.inl rfl) rfl rfl rfl (by (repeat (first | exact .nil | exact .refl _ | exact .h | apply Pick.t | apply Picks.cons | apply Picks.skip)); done)
          | exact E_fin1 (.inr rfl) rfl rfl rfl (by (repeat (first | exact .nil | exact .refl _ | exact .h | apply Pick.t | apply Picks.cons | apply Picks.skip)); done)
          | exact E_fin2 (.inl rfl) rfl rfl rfl rfl (by (repeat (first | exact .nil | exact .refl _ | exact .h | apply Pick.t | apply Picks.cons | apply Picks.skip)); done)
          | exact E_fin2 (.inr rfl) rfl rfl rfl rfl (by (repeat (first | exact .nil | exact .refl _ | exact .h | apply Pick.t | apply Picks.cons | apply Picks.skip)); done)
          | exact E_fin3 (.inl rfl) rfl rfl rfl rfl rfl (by (repeat (first | exact .nil | exact .refl _ | exact .h | apply Pick.t | apply Picks.cons | apply Picks.skip)); done)
          | exact E_fin3 (.inr rfl) rfl rfl rfl rfl rfl (by (repeat (first | exact .nil | exact .refl _ | exact .h | apply Pick.t | apply Picks.cons | apply Picks.skip)); done)
          | exact E_fin0 (.inl rfl) rfl (by (repeat (first | exact .nil | exact .refl _ | exact .h | apply Pick.t | apply Picks.cons | apply Picks.skip)); done)
          | exact E_fin0 (.inr rfl) rfl (by (repeat (first | exact .nil | exact .refl _ | exact .h | apply Pick.t | apply Picks.cons | apply Picks.skip)); done) | fail)
        exact H_use (b, t) key g3 ⟨rfl, rfl, trivial⟩ fun _ hs => sat_sub (by (repeat (first | exact .nil | exact .refl _ | exact .h | apply Pick.t | apply Picks.cons | apply Picks.skip)); done) hs
      · repeat (first
          | refine H_seq ?_ | refine H_block ?_ | refine H_region ?_ | refine TL_nil ?_ | refine N_then ?_ | refine N_block ?_ | refine H_skip ?_ | refine H_ret ?_ | refine R_then ?_ | refine R_block ?_
          | refine H_exit ?_ | refine X_then ?_ | refine X_block_eq ?_ | refine X_block_ne rfl ?_ | refine H_cond_t rfl ?_ | refine H_cond_f rfl ?_
          | refine TL_y (by first | exact Y_move rfl | exact Y_assign rfl | exact Y_nilCheck rfl | exact Y_nilCheckF rfl | exact Y_fieldAddr rfl | exact Y_load rfl (Vl_cl (by (repeat (first | exact .h | apply Pick.t)); done) rfl) | exact Y_load rfl (by assumption) | exact Y_indexAddr rfl rfl (by omega) (by first | omega | (simp only [List.length_cons]; omega)) | exact Y_load rfl (Vl_elem (by (repeat (first | exact .h | apply Pick.t)); done) (by assumption)) | exact Y_loadAt rfl (by (repeat (first | exact .h | apply Pick.t)); done) (by rfl) | exact Y_lssd rfl rfl (by first | exact decide_eq_true (by omega) | exact decide_eq_false (by omega)) | exact Y_lss rfl rfl | exact Y_leqd rfl rfl (by first | exact decide_eq_true (by omega) | exact decide_eq_false (by omega)) | exact Y_leq rfl rfl | exact Y_gtrd rfl rfl (by first | exact decide_eq_true (by omega) | exact decide_eq_false (by omega)) | exact Y_gtr rfl rfl | exact Y_eqld rfl rfl (by first | exact decide_eq_true (by omega) | exact decide_eq_false (by omega)) | exact Y_eql rfl rfl | exact Y_neqd rfl rfl (by first | exact decide_eq_true (by omega) | exact decide_eq_false (by omega)) | exact Y_neq rfl rfl | exact Y_eql_nil rfl rfl | exact Y_neq_nil rfl rfl | exact Y_slice_eq_nil rfl rfl | exact Y_map_eq_nil rfl rfl | exact Y_add' rfl rfl (w64 (by omega) (by omega)) | exact Y_add' rfl rfl (wu64 (by omega) (by omega)) | exact Y_sub' rfl rfl (w64 (by omega) (by omega)) | exact Y_sub' rfl rfl (wu64 (by omega) (by omega)) | exact Y_len_slice rfl | exact Y_pick_t rfl rfl | exact Y_pick_f rfl rfl | fail) rfl ?_
          | refine TLg_run rfl rfl ?_ | refine TLg_skip rfl rfl rfl rfl ?_ | refine T_store rfl rfl rfl (by (repeat (first | exact .h | apply Pick.t)); done) rfl ?_ | refine T_box rfl rfl fun p1 => ?_
          | refine T_storeAt rfl rfl (by (repeat (first | exact .h | apply Pick.t)); done) (by rfl) (by rfl) (by rfl) ?_
          | refine X_y rfl (by first | exact Y_move rfl | exact Y_assign rfl | exact Y_nilCheck rfl | exact Y_nilCheckF rfl | exact Y_fieldAddr rfl | exact Y_load rfl (Vl_cl (by (repeat (first | exact .h | apply Pick.t)); done) rfl) | exact Y_load rfl (by assumption) | exact Y_indexAddr rfl rfl (by omega) (by first | omega | (simp only [List.length_cons]; omega)) | exact Y_load rfl (Vl_elem (by (repeat (first | exact .h | apply Pick.t)); done) (by assumption)) | exact Y_loadAt rfl (by (repeat (first | exact .h | apply Pick.t)); done) (by rfl) | exact Y_lssd rfl rfl (by first | exact decide_eq_true (by omega) | exact decide_eq_false (by omega)) | exact Y_lss rfl rfl | exact Y_leqd rfl rfl (by first | exact decide_eq_true (by omega) | exact decide_eq_false (by omega)) | exact Y_leq rfl rfl | exact Y_gtrd rfl rfl (by first | exact decide_eq_true (by omega) | exact decide_eq_false (by omega)) | exact Y_gtr rfl rfl | exact Y_eqld rfl rfl (by first | exact decide_eq_true (by omega) | exact decide_eq_false (by omega)) | exact Y_eql rfl rfl | exact Y_neqd rfl rfl (by first | exact decide_eq_true (by omega) | exact decide_eq_false (by omega)) | exact Y_neq rfl rfl | exact Y_eql_nil rfl rfl | exact Y_neq_nil rfl rfl | exact Y_slice_eq_nil rfl rfl | exact Y_map_eq_nil rfl rfl | exact Y_add' rfl rfl (w64 (by omega) (by omega)) | exact Y_add' rfl rfl (wu64 (by omega) (by omega)) | exact Y_sub' rfl rfl (w64 (by omega) (by omega)) | exact Y_sub' rfl rfl (wu64 (by omega) (by omega)) | exact Y_len_slice rfl | exact Y_pick_t rfl rfl | exact Y_pick_f rfl rfl | fail) rfl ?_
          | refine X_loud rfl rfl ?_ | refine X_bar rfl ?_ | refine X_next (fun _ h => h) ?_
          | (refine X_next ?_ ?_; · exact fun _ h => sat_sub (by (repeat (first | exact .nil | exact .refl _ | exact .h | apply Pick.t | apply Picks.cons | apply Picks.skip)); done) h)
          | refine X_next (fun _ _ => sat_nil') ?_ | refine X_nil ?_
          | refine H_draw (id := 20) 9999 _ [(0, false), (1, false), (2, false), (3, false), (4, false), (5, false), (6, false), (7, false), (8, false), (9, false)] (by kernel_rfl) (fun _ h => h) ?_
          | exact E_fin1 (.inl rfl) rfl rfl rfl (by (repeat (first | exact .nil | exact .refl _ | exact .h | apply Pick.t | apply Picks.cons | apply Picks.skip)); done)
          | exact E_fin1 (.inr rfl) rfl rfl rfl (by (repeat (first | exact .nil | exact .refl _ | exact .h | apply Pick.t | apply Picks.cons | apply Picks.skip)); done)
          | exact E_fin2 (.inl rfl) rfl rfl rfl rfl (by (repeat (first | exact .nil | exact .refl _ | exact .h | apply Pick.t | apply Picks.cons | apply Picks.skip)); done)
          | exact E_fin2 (.inr rfl) rfl rfl rfl rfl (by (repeat (first | exact .nil | exact .refl _ | exact .h | apply Pick.t | apply Picks.cons | apply Picks.skip)); done)
          | exact E_fin3 (.inl rfl) rfl rfl rfl rfl rfl (by (repeat (first | exact .nil | exact .refl _ | exact .h | apply Pick.t | apply Picks.cons | apply Picks.skip)); done)
          | exact E_fin3 (.inr rfl) rfl rfl rfl rfl rfl (by (repeat (first | exact .nil | exact .refl _ | exact .h | apply Pick.t | apply Picks.cons | apply Picks.skip)); done)
          | exact E_fin0 (.inl rfl) rfl (by (repeat (first | exact .nil | exact .refl _ | exact .h | apply Pick.t | apply Picks.cons | apply Picks.skip)); done)
          | exact E_fin0 (.inr rfl) rfl (by (repeat (first | exact .nil | exact .refl _ | exact .h | apply Pick.t | apply Picks.cons | apply Picks.skip)); done) | fail)
        exact H_use (b, e) key (h0 c1 c2) ⟨rfl, rfl, trivial⟩ fun _ hs => sat_sub (by (repeat (first | exact .nil | exact .refl _ | exact .h | apply Pick.t | apply Picks.cons | apply Picks.skip)); done) hs
  · intro G' key
    by_cases h3 : o.kind = 3
    · have := hsum (.inl h3)
      repeat (first
        | refine H_seq ?_ | refine H_block ?_ | refine H_region ?_ | refine TL_nil ?_ | refine N_then ?_ | refine N_block ?_ | refine H_skip ?_ | refine H_ret ?_ | refine R_then ?_ | refine R_block ?_ | refine H_exit ?_
        | refine X_then ?_ | refine X_block_eq ?_ | refine X_block_ne rfl ?_ | refine H_cond_t rfl ?_ | refine H_cond_f rfl ?_
        | refine TL_y (by first | exact Y_move rfl | exact Y_assign rfl | exact Y_nilCheck rfl | exact Y_nilCheckF rfl | exact Y_fieldAddr rfl | exact Y_load rfl (Vl_cl (by (repeat (first | exact .h | apply Pick.t)); done) rfl) | exact Y_load rfl (by assumption) | exact Y_indexAddr rfl rfl (by omega) (by first | omega | (simp only [List.length_cons]; omega)) | exact Y_load rfl (Vl_elem (by (repeat (first | exact .h | apply Pick.t)); done) (by assumption)) | exact Y_loadAt rfl (by (repeat (first | exact .h | apply Pick.t)); done) (by rfl) | exact Y_lssd rfl rfl (by first | exact decide_eq_true (by omega) | exact decide_eq_false (by omega)) | exact Y_lss rfl rfl | exact Y_leqd rfl rfl (by first | exact decide_eq_true (by omega) | exact decide_eq_false (by omega)) | exact Y_leq rfl rfl | exact Y_gtrd rfl rfl (by first | exact decide_eq_true (by omega) | exact decide_eq_false (by omega)) | exact Y_gtr rfl rfl | exact Y_eqld rfl rfl (by first | exact decide_eq_true (by omega) | exact decide_eq_false (by omega)) | exact Y_eql rfl rfl | exact Y_neqd rfl rfl (by first | exact decide_eq_true (by omega) | exact decide_eq_false (by omega)) | exact Y_neq rfl rfl | exact Y_eql_nil rfl rfl | exact Y_neq_nil rfl rfl | exact Y_slice_eq_nil rfl rfl | exact Y_map_eq_nil rfl rfl | exact Y_add' rfl rfl (w64 (by omega) (by omega)) | exact Y_add' rfl rfl (wu64 (by omega) (by omega)) | exact Y_sub' rfl rfl (w64 (by omega) (by omega)) | exact Y_sub' rfl rfl (wu64 (by omega) (by omega)) | exact Y_len_slice rfl | exact Y_pick_t rfl rfl | exact Y_pick_f rfl rfl | fail) rfl ?_
        | refine TLg_run rfl rfl ?_ | refine TLg_skipu rfl rfl rfl ?_ | refine TLg_skip rfl rfl rfl rfl ?_ | refine T_store rfl rfl rfl (by (repeat (first | exact .h | apply Pick.t)); done) rfl ?_ | refine T_box rfl rfl fun p1 => ?_
        | refine T_storeAt rfl rfl (by (repeat (first | exact .h | apply Pick.t)); done) (by rfl) (by rfl) (by rfl) ?_
        | refine X_y rfl (by first | exact Y_move rfl | exact Y_assign rfl | exact Y_nilCheck rfl | exact Y_nilCheckF rfl | exact Y_fieldAddr rfl | exact Y_load rfl (Vl_cl (by (repeat (first | exact .h | apply Pick.t)); done) rfl) | exact Y_load rfl (by assumption) | exact Y_indexAddr rfl rfl (by omega) (by first | omega | (simp only [List.length_cons]; omega)) | exact Y_load rfl (Vl_elem (by (repeat (first | exact .h | apply Pick.t)); done) (by assumption)) | exact Y_loadAt rfl (by (repeat (first | exact .h | apply Pick.t)); done) (by rfl) | exact Y_lssd rfl rfl (by first | exact decide_eq_true (by omega) | exact decide_eq_false (by omega)) | exact Y_lss rfl rfl | exact Y_leqd rfl rfl (by first | exact decide_eq_true (by omega) | exact decide_eq_false (by omega)) | exact Y_leq rfl rfl | exact Y_gtrd rfl rfl (by first | exact decide_eq_true (by omega) | exact decide_eq_false (by omega)) | exact Y_gtr rfl rfl | exact Y_eqld rfl rfl (by first | exact decide_eq_true (by omega) | exact decide_eq_false (by omega)) | exact Y_eql rfl rfl | exact Y_neqd rfl rfl (by first | exact decide_eq_true (by omega) | exact decide_eq_false (by omega)) | exact Y_neq rfl rfl | exact Y_eql_nil rfl rfl | exact Y_neq_nil rfl rfl | exact Y_slice_eq_nil rfl rfl | exact Y_map_eq_nil rfl rfl | exact Y_add' rfl rfl (w64 (by omega) (by omega)) | exact Y_add' rfl rfl (wu64 (by omega) (by omega)) | exact Y_sub' rfl rfl (w64 (by omega) (by omega)) | exact Y_sub' rfl rfl (wu64 (by omega) (by omega)) | exact Y_len_slice rfl | exact Y_pick_t rfl rfl | exact Y_pick_f rfl rfl | fail) rfl ?_
        | refine X_loud rfl rfl ?_ | refine X_bar rfl ?_ | refine X_next (fun _ h => h) ?_
        | (refine X_next ?_ ?_; · exact fun _ h => sat_sub (by (repeat (first | exact .nil | exact .refl _ | exact .h | apply Pick.t | apply Picks.cons | apply Picks.skip)); done) h)
        | refine X_next (fun _ _ => sat_nil') ?_ | refine X_nil ?_
        | refine H_draw (id := 20) 9999 _ [(0, false), (1, false), (2, false), (3, false), (4, false), (5, false), (6, false), (7, false), (8, false), (9, false)] (by kernel_rfl) (fun _ h => h) ?_
        | exact E_fin1 (.inl rfl) rfl rfl rfl (by (repeat (first | exact .nil | exact .refl _ | exact .h | apply Pick.t | apply Picks.cons | apply Picks.skip)); done)
        | exact E_fin1 (.inr rfl) rfl rfl rfl (by (repeat (first | exact .nil | exact .refl _ | exact .h | apply Pick.t | apply Picks.cons | apply Picks.skip)); done)
        | exact E_fin2 (.inl rfl) rfl rfl rfl rfl (by (repeat (first | exact .nil | exact .refl _ | exact .h | apply Pick.t | apply Picks.cons | apply Picks.skip)); done)
        | exact E_fin2 (.inr rfl) rfl rfl rfl rfl (by (repeat (first | exact .nil | exact .refl _ | exact .h | apply Pick.t | apply Picks.cons | apply Picks.skip)); done)
        | exact E_fin3 (.inl rfl) rfl rfl rfl rfl rfl (by (repeat (first | exact .nil | exact .refl _ | exact .h | apply Pick.t | apply Picks.cons | apply Picks.skip)); done)
        | exact E_fin3 (.inr rfl) rfl rfl rfl rfl rfl (by (repeat (first | exact .nil | exact .refl _ | exact .h | apply Pick.t | apply Picks.cons | apply Picks.skip)); done)
        | exact E_fin0 (.inl rfl) rfl (by (repeat (first | exact .nil | exact .refl _ | exact .h | apply Pick.t | apply Picks.cons | apply Picks.skip)); done)
        | exact E_fin0 (.inr rfl) rfl (by (repeat (first | exact .nil | exact .refl _ | exact .h | apply Pick.t | apply Picks.cons | apply Picks.skip)); done) | fail)
      exact H_use () key trivial ⟨rfl, rfl, rfl, rfl, rfl, rfl, trivial⟩ fun _ hs => sat_sub (by (repeat (first | exact .nil | exact .refl _ | exact .h | apply Pick.t | apply Picks.cons | apply Picks.skip)); done) hs
    by_cases h4 : o.kind = 4
    · have := hsum (.inr h4)
      repeat (first
        | refine H_seq ?_ | refine H_block ?_ | refine H_region ?_ | refine TL_nil ?_ | refine N_then ?_ | refine N_block ?_ | refine H_skip ?_ | refine H_ret ?_ | refine R_then ?_ | refine R_block ?_ | refine H_exit ?_
        | refine X_then ?_ | refine X_block_eq ?_ | refine X_block_ne rfl ?_ | refine H_cond_t rfl ?_ | refine H_cond_f rfl ?_
        | refine TL_y (by first | exact Y_move rfl | exact Y_assign rfl | exact Y_nilCheck rfl | exact Y_nilCheckF rfl | exact Y_fieldAddr rfl | exact Y_load rfl (Vl_cl (by (repeat (first | exact .h | apply Pick.t)); done) rfl) | exact Y_load rfl (by assumption) | exact Y_indexAddr rfl rfl (by omega) (by first | omega | (simp only [List.length_cons]; omega)) | exact Y_load rfl (Vl_elem (by (repeat (first | exact .h | apply Pick.t)); done) (by assumption)) | exact Y_loadAt rfl (by (repeat (first | exact .h | apply Pick.t)); done) (by rfl) | exact Y_lssd rfl rfl (by first | exact decide_eq_true (by omega) | exact decide_eq_false (by omega)) | exact Y_lss rfl rfl | exact Y_leqd rfl rfl (by first | exact decide_eq_true (by omega) | exact decide_eq_false (by omega)) | exact Y_leq rfl rfl | exact Y_gtrd rfl rfl (by first | exact decide_eq_true (by omega) | exact decide_eq_false (by omega)) | exact Y_gtr rfl rfl | exact Y_eqld rfl rfl (by first | exact decide_eq_true (by omega) | exact decide_eq_false (by omega)) | exact Y_eql rfl rfl | exact Y_neqd rfl rfl (by first | exact decide_eq_true (by omega) | exact decide_eq_false (by omega)) | exact Y_neq rfl rfl | exact Y_eql_nil rfl rfl | exact Y_neq_nil rfl rfl | exact Y_slice_eq_nil rfl rfl | exact Y_map_eq_nil rfl rfl | exact Y_add' rfl rfl (w64 (by omega) (by omega)) | exact Y_add' rfl rfl (wu64 (by omega) (by omega)) | exact Y_sub' rfl rfl (w64 (by omega) (by omega)) | exact Y_sub' rfl rfl (wu64 (by omega) (by omega)) | exact Y_len_slice rfl | exact Y_pick_t rfl rfl | exact Y_pick_f rfl rfl | fail) rfl ?_
        | refine TLg_run rfl rfl ?_ | refine TLg_skipu rfl rfl rfl ?_ | refine TLg_skip rfl rfl rfl rfl ?_ | refine T_store rfl rfl rfl (by (repeat (first | exact .h | apply Pick.t)); done) rfl ?_ | refine T_box rfl rfl fun p1 => ?_
        | refine T_storeAt rfl rfl (by (repeat (first | exact .h | apply Pick.t)); done) (by rfl) (by rfl) (by rfl) ?_
        | refine X_y rfl (by first | exact Y_move rfl | exact Y_assign rfl | exact Y_nilCheck rfl | exact Y_nilCheckF rfl | exact Y_fieldAddr rfl | exact Y_load rfl (Vl_cl (by (repeat (first | exact .h | apply Pick.t)); done) rfl) | exact Y_load rfl (by assumption) | exact Y_indexAddr rfl rfl (by omega) (by first | omega | (simp only [List.length_cons]; omega)) | exact Y_load rfl (Vl_elem (by (repeat (first | exact .h | apply Pick.t)); done) (by assumption)) | exact Y_loadAt rfl (by (repeat (first | exact .h | apply Pick.t)); done) (by rfl) | exact Y_lssd rfl rfl (by first | exact decide_eq_true (by omega) | exact decide_eq_false (by omega)) | exact Y_lss rfl rfl | exact Y_leqd rfl rfl (by first | exact decide_eq_true (by omega) | exact decide_eq_false (by omega)) | exact Y_leq rfl rfl | exact Y_gtrd rfl rfl (by first | exact decide_eq_true (by omega) | exact decide_eq_false (by omega)) | exact Y_gtr rfl rfl | exact Y_eqld rfl rfl (by first | exact decide_eq_true (by omega) | exact decide_eq_false (by omega)) | exact Y_eql rfl rfl | exact Y_neqd rfl rfl (by first | exact decide_eq_true (by omega) | exact decide_eq_false (by omega)) | exact Y_neq rfl rfl | exact Y_eql_nil rfl rfl | exact Y_neq_nil rfl rfl | exact Y_slice_eq_nil rfl rfl | exact Y_map_eq_nil rfl rfl | exact Y_add' rfl rfl (w64 (by omega) (by omega)) | exact Y_add' rfl rfl (wu64 (by omega) (by omega)) | exact Y_sub' rfl rfl (w64 (by omega) (by omega)) | exact Y_sub' rfl rfl (wu64 (by omega) (by omega)) | exact Y_len_slice rfl | exact Y_pick_t rfl rfl | exact Y_pick_f rfl rfl | fail) rfl ?_
        | refine X_loud rfl rfl ?_ | refine X_bar rfl ?_ | refine X_next (fun _ h => h) ?_
        | (refine X_next ?_ ?_; · exact fun _ h => sat_sub (by (repeat (first | exact .nil | exact .refl _ | exact .h | apply Pick.t | apply Picks.cons | apply Picks.skip)); done) h)
        | refine X_next (fun _ _ => sat_nil') ?_ | refine X_nil ?_
        | refine H_draw (id := 20) 9999 _ [(0, false), (1, false), (2, false), (3, false), (4, false), (5, false), (6, false), (7, false), (8, false), (9, false)] (by kernel_rfl) (fun _ h => h) ?_
        | exact E_fin1 (.inl rfl) rfl rfl rfl (by (repeat (first | exact .nil | exact .refl _ | exact .h | apply Pick.t | apply Picks.cons | apply Picks.skip)); done)
        | exact E_fin1 (.inr rfl) rfl rfl rfl (by (repeat (first | exact .nil | exact .refl _ | exact .h | apply Pick.t | apply Picks.cons | apply Picks.skip)); done)
        | exact E_fin2 (.inl rfl) rfl rfl rfl rfl (by (repeat (first | exact .nil | exact .refl _ | exact .h | apply Pick.t | apply Picks.cons | apply Picks.skip)); done)
        | exact E_fin2 (.inr rfl) rfl rfl rfl rfl (by (repeat (first | exact .nil | exact .refl _ | exact .h | apply Pick.t | apply Picks.cons | apply Picks.skip)); done)
        | exact E_fin3 (.inl rfl) rfl rfl rfl rfl rfl (by (repeat (first | exact .nil | exact .refl _ | exact .h | apply Pick.t | apply Picks.cons | apply Picks.skip)); done)
        | exact E_fin3 (.inr rfl) rfl rfl rfl rfl rfl (by (repeat (first | exact .nil | exact .refl _ | exact .h | apply Pick.t | apply Picks.cons | apply Picks.skip)); done)
        | exact E_fin0 (.inl rfl) rfl (by (repeat (first | exact .nil | exact .refl _ | exact .h | apply Pick.t | apply Picks.cons | apply Picks.skip)); done)
        | exact E_fin0 (.inr rfl) rfl (by (repeat (first | exact .nil | exact .refl _ | exact .h | apply Pick.t | apply Picks.cons | apply Picks.skip)); done) | fail)
      exact H_use () key trivial ⟨rfl, rfl, rfl, rfl, rfl, rfl, trivial⟩ fun _ hs => sat_sub (by (repeat (first | exact .nil | exact .refl _ | exact .h | apply Pick.t | apply Picks.cons | apply Picks.skip)); done) hs
    · repeat (first
        | refine H_seq ?_ | refine H_block ?_ | refine H_region ?_ | refine TL_nil ?_ | refine N_then ?_ | refine N_block ?_ | refine H_skip ?_ | refine H_ret ?_ | refine R_then ?_ | refine R_block ?_ | refine H_exit ?_
        | refine X_then ?_ | refine X_block_eq ?_ | refine X_block_ne rfl ?_ | refine H_cond_t rfl ?_ | refine H_cond_f rfl ?_
        | refine TL_y (by first | exact Y_move rfl | exact Y_assign rfl | exact Y_nilCheck rfl | exact Y_nilCheckF rfl | exact Y_fieldAddr rfl | exact Y_load rfl (Vl_cl (by (repeat (first | exact .h | apply Pick.t)); done) rfl) | exact Y_load rfl (by assumption) | exact Y_indexAddr rfl rfl (by omega) (by first | omega | (simp only [List.length_cons]; omega)) | exact Y_load rfl (Vl_elem (by (repeat (first | exact .h | apply Pick.t)); done) (by assumption)) | exact Y_loadAt rfl (by (repeat (first | exact .h | apply Pick.t)); done) (by rfl) | exact Y_lssd rfl rfl (by first | exact decide_eq_true (by omega) | exact decide_eq_false (by omega)) | exact Y_lss rfl rfl | exact Y_leqd rfl rfl (by first | exact decide_eq_true (by omega) | exact decide_eq_false (by omega)) | exact Y_leq rfl rfl | exact Y_gtrd rfl rfl (by first | exact decide_eq_true (by omega) | exact decide_eq_false (by omega)) | exact Y_gtr rfl rfl | exact Y_eqld rfl rfl (by first | exact decide_eq_true (by omega) | exact decide_eq_false (by omega)) | exact Y_eql rfl rfl | exact Y_neqd rfl rfl (by first | exact decide_eq_true (by omega) | exact decide_eq_false (by omega)) | exact Y_neq rfl rfl | exact Y_eql_nil rfl rfl | exact Y_neq_nil rfl rfl | exact Y_slice_eq_nil rfl rfl | exact Y_map_eq_nil rfl rfl | exact Y_add' rfl rfl (w64 (by omega) (by omega)) | exact Y_add' rfl rfl (wu64 (by omega) (by omega)) | exact Y_sub' rfl rfl (w64 (by omega) (by omega)) | exact Y_sub' rfl rfl (wu64 (by omega) (by omega)) | exact Y_len_slice rfl | exact Y_pick_t rfl rfl | exact Y_pick_f rfl rfl | fail) rfl ?_
        | refine TLg_run rfl rfl ?_ | refine TLg_skipu rfl rfl rfl ?_ | refine TLg_skip rfl rfl rfl rfl ?_ | refine T_store rfl rfl rfl (by (repeat (first | exact .h | apply Pick.t)); done) rfl ?_ | refine T_box rfl rfl fun p1 => ?_
        | refine T_storeAt rfl rfl (by (repeat (first | exact .h | apply Pick.t)); done) (by rfl) (by rfl) (by rfl) ?_
        | refine X_y rfl (by first | exact Y_move rfl | exact Y_assign rfl | exact Y_nilCheck rfl | exact Y_nilCheckF rfl | exact Y_fieldAddr rfl | exact Y_load rfl (Vl_cl (by (repeat (first | exact .h | apply Pick.t)); done) rfl) | exact Y_load rfl (by assumption) | exact Y_indexAddr rfl rfl (by omega) (by first | omega | (simp only [List.length_cons]; omega)) | exact Y_load rfl (Vl_elem (by (repeat (first | exact .h | apply Pick.t)); done) (by assumption)) | exact Y_loadAt rfl (by (repeat (first | exact .h | apply Pick.t)); done) (by rfl) | exact Y_lssd rfl rfl (by first | exact decide_eq_true (by omega) | exact decide_eq_false (by omega)) | exact Y_lss rfl rfl | exact Y_leqd rfl rfl (by first | exact decide_eq_true (by omega) | exact decide_eq_false (by omega)) | exact Y_leq rfl rfl | exact Y_gtrd rfl rfl (by first | exact decide_eq_true (by omega) | exact decide_eq_false (by omega)) | exact Y_gtr rfl rfl | exact Y_eqld rfl rfl (by first | exact decide_eq_true (by omega) | exact decide_eq_false (by omega)) | exact Y_eql rfl rfl | exact Y_neqd rfl rfl (by first | exact decide_eq_true (by omega) | exact decide_eq_false (by omega)) | exact Y_neq rfl rfl | exact Y_eql_nil rfl rfl | exact Y_neq_nil rfl rfl | exact Y_slice_eq_nil rfl rfl | exact Y_map_eq_nil rfl rfl | exact Y_add' rfl rfl (w64 (by omega) (by omega)) | exact Y_add' rfl rfl (wu64 (by omega) (by omega)) | exact Y_sub' rfl rfl (w64 (by omega) (by omega)) | exact Y_sub' rfl rfl (wu64 (by omega) (by omega)) | exact Y_len_slice rfl | exact Y_pick_t rfl rfl | exact Y_pick_f rfl rfl | fail) rfl ?_
        | refine X_loud rfl rfl ?_ | refine X_bar rfl ?_ | refine X_next (fun _ h => h) ?_
        | (refine X_next ?_ ?_; · exact fun _ h => sat_sub (by (repeat (first | exact .nil | exact .refl _ | exact .h | apply Pick.t | apply Picks.cons | apply Picks.skip)); done) h)
        | refine X_next (fun _ _ => sat_nil') ?_ | refine X_nil ?_
        | refine H_draw (id := 20) 9999 _ [(0, false), (1, false), (2, false), (3, false), (4, false), (5, false), (6, false), (7, false), (8, false), (9, false)] (by kernel_rfl) (fun _ h => h) ?_
        | exact E_fin1 (.inl rfl) rfl rfl rfl (by (repeat (first | exact .nil | exact .refl _ | exact .h | apply Pick.t | apply Picks.cons | apply Picks.skip)); done)
        | exact E_fin1 (.inr rfl) rfl rfl rfl (by (repeat (first | exact .nil | exact .refl _ | exact .h | apply Pick.t | apply Picks.cons | apply Picks.skip)); done)
        | exact E_fin2 (.inl rfl) rfl rfl rfl rfl (by (repeat (first | exact .nil | exact .refl _ | exact .h | apply Pick.t | apply Picks.cons | apply Picks.skip)); done)
        | exact E_fin2 (.inr rfl) rfl rfl rfl rfl (by (repeat (first | exact .nil | exact .refl _ | exact .h | apply Pick.t | apply Picks.cons | apply Picks.skip)); done)
        | exact E_fin3 (.inl rfl) rfl rfl rfl rfl rfl (by (repeat (first | exact .nil | exact .refl _ | exact .h | apply Pick.t | apply Picks.cons | apply Picks.skip)); done)
        | exact E_fin3 (.inr rfl) rfl rfl rfl rfl rfl (by (repeat (first | exact .nil | exact .refl _ | exact .h | apply Pick.t | apply Picks.cons | apply Picks.skip)); done)
        | exact E_fin0 (.inl rfl) rfl (by (repeat (first | exact .nil | exact .refl _ | exact .h | apply Pick.t | apply Picks.cons | apply Picks.skip)); done)
        | exact E_fin0 (.inr rfl) rfl (by (repeat (first | exact .nil | exact .refl _ | exact .h | apply Pick.t | apply Picks.cons | apply Picks.skip)); done) | fail)
      exact H_use () key trivial ⟨rfl, rfl, rfl, rfl, rfl, rfl, trivial⟩ fun _ hs => sat_sub (by (repeat (first | exact .nil | exact .refl _ | exact .h | apply Pick.t | apply Picks.cons | apply Picks.skip)); done) hs
end
end Go.Proofs
namespace Go.Proofs
open Go Go.SL Go.W13
theorem sat_pool_nil {L : List Asn} {w : World} (hs : sat L w) : sat (pool [] :: L) w := (sat_big (As := [])).2 hs
attribute [local irreducible] H W TL XL Y cl mp slc ro tq line pool coll pline
set_option maxRecDepth 20000
set_option maxHeartbeats 4000000
theorem same_form_t {a b : Option Addr} {ca cb k : Nat} {xs : List Int} {A : List Asn} (hx : Rd A a (xs.map i64v)) (hy : Rd A b (xs.map i64v)) (hk : xs.length ≤ 1000000) :
    CtA Try.prog 70 [.slice a xs.length ca, .slice b xs.length cb] A (.bool true) fun F => A ++ F := by
  have := same_form (ca := ca) (cb := cb) hx hy hk hk
  rwa [decide_eq_true rfl] at this
theorem same_tickets_t {a b : Option Addr} {ca cb k : Nat} {xs : List Int} {A : List Asn} (hx : Rd A a (xs.map u64v)) (hy : Rd A b (xs.map u64v)) (hk : xs.length ≤ 1000000) :
    CtA Try.prog 26 [.slice a xs.length ca, .slice b xs.length cb] A (.bool true) fun F => A ++ F := by
  have := same_tickets (ca := ca) (cb := cb) hx hy hk hk
  rwa [decide_eq_true rfl] at this
theorem pl_begin_nil {FS : List (Option Addr × List Int)} {p : Nat} {r : RS} (ok : Ok r) : CtA Try.prog 24 [ptrv p, .slice none 0 0] [pline FS p r] (.tuple #[u64v 0, .slice none 0 0, i64v 50]) fun F => pline FS p r :: F := by
  have hcf := ok.cfg
  have h0 : CtA Try.prog 24 [ptrv p, .slice none ([] : List Int).length 0] [pline FS p r, pu True] (.tuple #[u64v 0, .slice none 0 0, i64v 50]) fun F => pline FS p r :: pu True :: F := by
    refine CtA.pl (g := id) (B := fun F => pu True :: F) (fun s h => ?_) fun _ h => h
    exact ln_begin_err (FS := FS) (p := p) (s := s) (a := none) (c := 0) (zs := []) (D := pu True) (by rw [h.bl]; exact hcf.1) (by rw [h.mr, h.bl]; omega) (by decide) (by simp [formE]) (fun L => Rd_nil)
  intro F w hs
  refine (h0 F w (sat_unpick (.t .h) (sat_pu.2 ⟨trivial, hs⟩))).mono ?_
  rintro e w' ⟨u, L', e1, ⟨e2, e3⟩, e4⟩
  subst e3
  exact ⟨u, _, e1, ⟨e2, rfl⟩, (sat_pu.1 (sat_pick (.t .h) e4)).2⟩
attribute [local irreducible] CtA CtE
theorem fixed_ct : CtA Try.prog 22 [] [] (.bool true) fun F => F := by
  have k0 : Ok (W13.new 4 5 3 5 2) := Ok.new (by decide)
  have k1 := k0.bgn [2, 0, 2]
  have k2 := k1.ent
  have k3 := k2.app 1
  have k4 := k3.done 1
  (first | refine CtA_in ?_ | refine CtE_in ?_); intro F; simp only [List.cons_append, List.nil_append]; refine Ct_of Try.func22 rfl (n := 130) rfl rfl ?_
  refine H_to (L' := pool [] :: F) ?_ fun _ hs => sat_pool_nil hs
  repeat (first
    | refine H_seq ?_ | refine H_block ?_ | refine H_region ?_ | refine TL_nil ?_ | refine N_then ?_ | refine N_block ?_ | refine H_skip ?_ | refine H_ret ?_ | refine R_then ?_ | refine R_block ?_ | refine H_exit ?_
    | refine X_then ?_ | refine X_block_eq ?_ | refine X_block_ne rfl ?_ | refine H_cond_t rfl ?_ | refine H_cond_f rfl ?_
    | refine TL_y (by first | exact Y_move rfl | exact Y_assign rfl | exact Y_ext rfl rfl | exact Y_eqld rfl rfl (by first | exact decide_eq_true (by decide) | exact decide_eq_false (by decide)) | exact Y_eql rfl rfl | exact Y_neqd rfl rfl (by first | exact decide_eq_true (by decide) | exact decide_eq_false (by decide)) | exact Y_neq rfl rfl | exact Y_eql_nil rfl rfl | exact Y_neq_nil rfl rfl | exact Y_slice_eq_nil rfl rfl | exact Y_map_eq_nil rfl rfl | exact Y_pick_t rfl rfl | exact Y_pick_f rfl rfl | exact Y_buildp rfl rfl rfl | fail) rfl ?_
    | refine TLg_run rfl rfl ?_ | refine TLg_skip rfl rfl rfl rfl ?_ | refine T_bs0 rfl fun b1 => ?_ | refine T_bs1 rfl rfl rfl fun b1 => ?_ | refine T_bsn rfl rfl rfl rfl rfl rfl fun b1 => ?_
    | refine T_callA rfl rfl .nil small_ct ?_ | refine T_callE rfl rfl .nil (new_t (FS := []) (by decide)) fun l _ => ?_
    | refine T_callA rfl rfl .nil (new_f (bl := 0) (cap := 0) (mr := 0) (hi := 0) (cl := 0) (by decide) (by decide)) ?_
    | refine T_callE rfl rfl (by (repeat (first | exact .nil | exact .refl _ | exact .h | apply Pick.t | apply Picks.cons)); done) (pl_begin (zs := [2, 0, 2]) (by assumption) (by decide) (by decide) (fun L => Rd_cl .h)) fun y hy => ?_
    | refine T_callA rfl rfl (by (repeat (first | exact .nil | exact .refl _ | exact .h | apply Pick.t | apply Picks.cons)); done) (pl_fits (by assumption) (by decide)) ?_
    | refine T_callE rfl rfl (by (repeat (first | exact .nil | exact .refl _ | exact .h | apply Pick.t | apply Picks.cons)); done) (pl_enter (by assumption) (by decide)) fun z _ => ?_
    | refine T_callA rfl rfl (by (repeat (first | exact .nil | exact .refl _ | exact .h | apply Pick.t | apply Picks.cons)); done) pl_left ?_
    | refine T_callA rfl rfl (by (repeat (first | exact .nil | exact .refl _ | exact .h | apply Pick.t | apply Picks.cons)); done) (same_form_t (A := [slc 3 1 _ _ _ _, cl _ _ _]) (k := 0) (xs := [0, 2]) (Rd_slc .h) (Rd_cl (.t .h)) (by decide)) ?_
    | refine T_callA rfl rfl (by (repeat (first | exact .nil | exact .refl _ | exact .h | apply Pick.t | apply Picks.cons)); done) pl_reserved ?_
    | refine T_callA rfl rfl (by (repeat (first | exact .nil | exact .refl _ | exact .h | apply Pick.t | apply Picks.cons)); done) pl_used ?_
    | refine T_callA rfl rfl (by (repeat (first | exact .nil | exact .refl _ | exact .h | apply Pick.t | apply Picks.cons)); done) (pl_append (by assumption)) ?_
    | refine T_callA rfl rfl (by (repeat (first | exact .nil | exact .refl _ | exact .h | apply Pick.t | apply Picks.cons)); done) (pl_done (by assumption)) ?_
    | refine T_callE rfl rfl (by (repeat (first | exact .nil | exact .refl _ | exact .h | apply Pick.t | apply Picks.cons)); done) (pl_copy (by assumption) (by decide)) fun q _ => ?_
    | exact E_fin1 (.inl rfl) rfl rfl rfl (by (repeat (first | exact .nil | exact .refl _ | exact .h | apply Pick.t | apply Picks.cons | apply Picks.skip)); done)
    | exact E_fin1 (.inr rfl) rfl rfl rfl (by (repeat (first | exact .nil | exact .refl _ | exact .h | apply Pick.t | apply Picks.cons | apply Picks.skip)); done)
    | exact E_fin2 (.inl rfl) rfl rfl rfl rfl (by (repeat (first | exact .nil | exact .refl _ | exact .h | apply Pick.t | apply Picks.cons | apply Picks.skip)); done)
    | exact E_fin2 (.inr rfl) rfl rfl rfl rfl (by (repeat (first | exact .nil | exact .refl _ | exact .h | apply Pick.t | apply Picks.cons | apply Picks.skip)); done)
    | exact E_fin3 (.inl rfl) rfl rfl rfl rfl rfl (by (repeat (first | exact .nil | exact .refl _ | exact .h | apply Pick.t | apply Picks.cons | apply Picks.skip)); done)
    | exact E_fin3 (.inr rfl) rfl rfl rfl rfl rfl (by (repeat (first | exact .nil | exact .refl _ | exact .h | apply Pick.t | apply Picks.cons | apply Picks.skip)); done)
    | exact E_fin0 (.inl rfl) rfl (by (repeat (first | exact .nil | exact .refl _ | exact .h | apply Pick.t | apply Picks.cons | apply Picks.skip)); done)
    | exact E_fin0 (.inr rfl) rfl (by (repeat (first | exact .nil | exact .refl _ | exact .h | apply Pick.t | apply Picks.cons | apply Picks.skip)); done) | fail)
end Go.Proofs
namespace Go.W13
theorem does_cap {r : RS} (o : Op) : (r.does o).cap = r.cap := by
  unfold RS.does
  split
  · unfold RS.bgn; split <;> rfl
  split
  · rcases ent_cases r with ⟨_, _, e⟩ | ⟨_, _, _, _, _, e⟩ | ⟨_, _, _, _, _, _, e⟩ <;> rw [e]
  split
  · unfold RS.app; split <;> rfl
  split
  · unfold RS.done; split <;> rfl
  split
  · unfold RS.leave; split <;> rfl
  split
  · unfold RS.freed; split <;> rfl
  · rfl
theorem doesT_rng {r : RS} (ok : Ok r) (o : Op) : 0 ≤ r.doesT o ∧ r.doesT o ≤ r.next := by
  have hn := ok.next
  unfold RS.doesT
  split
  · unfold RS.bgnT; split <;> omega
  split
  · unfold RS.entT
    split
    · unfold RS.firstT
      cases hw : r.waits with
      | nil => simp; omega
      | cons w ws => have := ok.rng w (by rw [hw]; simp); simp only; omega
    · omega
  · omega
end Go.W13
namespace Go.Proofs
open Go Go.SL Go.W13
abbrev OpC := W13.Op × Option Addr × Nat
def opCells (x : OpC) : List Value := [i64v x.1.kind, i64v x.1.which, .slice x.2.1 x.1.set.length x.2.2, u64v x.1.ticket, i64v x.1.n]
theorem flat_get {α : Type} {f : α → List Value} {k : Nat} (hf : ∀ x, (f x).length = k) : ∀ {l : List α} {i j : Nat} {x : α}, l[i]? = some x → j < k → (l.flatMap f)[i * k + j]? = (f x)[j]?
  | [], _, _, _, h, _ => by simp at h
  | y :: l, 0, j, x, h, hj => by
    simp at h; subst h
    simp only [List.flatMap_cons, Nat.zero_mul, Nat.zero_add]
    rw [List.getElem?_append_left (by rw [hf]; exact hj)]
  | y :: l, i + 1, j, x, h, hj => by
    simp only [List.getElem?_cons_succ] at h
    simp only [List.flatMap_cons]
    rw [List.getElem?_append_right (by rw [hf, Nat.add_mul]; omega), hf]
    rw [show (i + 1) * k + j - k = i * k + j by rw [Nat.add_mul]; omega]
    exact flat_get hf h hj
theorem Vl_flat {L : List Asn} {α : Type} {f : α → List Value} {k : Nat} (hf : ∀ x, (f x).length = k) {l : List α} {i : Nat} {x : α} {b o : Nat} (hr : Rd L (some ⟨b, o, none⟩) (l.flatMap f)) (hx : l[i]? = some x) : ∀ j v, (f x)[j]? = some v → Vl L b (o + (i : Int).toNat * k + j) v := by
  intro j v hj
  have hjk : j < k := by have := (List.getElem?_eq_some_iff.1 hj).1; rw [hf] at this; exact this
  rw [Int.toNat_natCast, Nat.add_assoc]
  exact Rd_Vl hr (by rw [flat_get hf hx hjk]; exact hj)
end Go.Proofs
namespace Go.Proofs
open Go Go.SL Go.W13
attribute [local irreducible] H W TL XL Y cl mp slc ro tq line pool coll pline
set_option maxRecDepth 20000
set_option maxHeartbeats 2000000
theorem fair_ct {ops : List OpC} {sa : Option Addr} {sc : Nat} {D : Asn} {bl cap mr hi cl' : Int} (hrd : ∀ L, Rd (D :: L) sa (ops.flatMap opCells)) (hops : ∀ x ∈ ops, Sok x.2.1 x.2.2 ∧ x.1.set.length ≤ x.2.2 ∧ x.2.2 ≤ maxLen ∧ ∀ L, Rd (D :: L) x.2.1 (x.1.set.map i64v))
    (hrng : ∀ x ∈ [bl, cap, mr, hi, cl'], -9223372036854775808 ≤ x ∧ x ≤ 9223372036854775807) (hlen : ops.length ≤ maxLen) :
    CtA Try.prog 7 [cfgV bl cap mr hi cl', .slice sa ops.length sc] [D] (.bool true) fun F => D :: F := by
  simp only [maxLen] at hlen
  cases hm : W13.may bl cap mr hi cl' with
  | false =>
    have hnew := new_f hrng hm
    unfold cfgV at *
    intro F; simp only [List.cons_append, List.nil_append]; refine Ct_of Try.func7 rfl (n := 72) rfl rfl ?_
    repeat (first
      | refine H_seq ?_ | refine H_block ?_ | refine H_region ?_ | refine TL_nil ?_ | refine N_then ?_ | refine N_block ?_ | refine H_skip ?_ | refine H_ret ?_ | refine R_then ?_ | refine R_block ?_ | refine H_exit ?_
      | refine X_then ?_ | refine X_block_eq ?_ | refine X_block_ne rfl ?_ | refine H_cond_t rfl ?_ | refine H_cond_f rfl ?_
      | refine TL_y (by first | exact Y_move rfl | exact Y_assign rfl | exact Y_load rfl (Vl_cl (by (repeat (first | exact .h | apply Pick.t)); done) rfl) | exact Y_load rfl (by assumption) | exact Y_indexAddr rfl rfl (by omega) (by first | omega | (simp only [List.length_cons]; omega)) | exact Y_load rfl (Vl_elem (by (repeat (first | exact .h | apply Pick.t)); done) (by assumption)) | exact Y_loadAt rfl (by (repeat (first | exact .h | apply Pick.t)); done) (by rfl) | exact Y_ext rfl rfl | exact Y_not rfl | exact Y_lssd rfl rfl (by first | exact decide_eq_true (by omega) | exact decide_eq_false (by omega)) | exact Y_lss rfl rfl | exact Y_eqld rfl rfl (by first | exact decide_eq_true (by omega) | exact decide_eq_false (by omega)) | exact Y_eql rfl rfl | exact Y_neqd rfl rfl (by first | exact decide_eq_true (by omega) | exact decide_eq_false (by omega)) | exact Y_neq rfl rfl | exact Y_eql_nil rfl rfl | exact Y_neq_nil rfl rfl | exact Y_slice_eq_nil rfl rfl | exact Y_map_eq_nil rfl rfl | exact Y_add' rfl rfl (w64 (by omega) (by omega)) | exact Y_add' rfl rfl (wu64 (by omega) (by omega)) | exact Y_len_slice rfl | exact Y_pick_t rfl rfl | exact Y_pick_f rfl rfl | exact Y_buildp rfl rfl rfl | fail) rfl ?_
      | refine TLg_run rfl rfl ?_ | refine TLg_skip rfl rfl rfl rfl ?_ | refine T_store rfl rfl rfl (by (repeat (first | exact .h | apply Pick.t)); done) rfl ?_ | refine T_alloc rfl fun p1 => ?_
      | refine T_box rfl rfl fun p1 => ?_ | refine T_storeAt rfl rfl (by (repeat (first | exact .h | apply Pick.t)); done) (by rfl) (by rfl) (by rfl) ?_ | refine T_callA rfl rfl .nil fixed_ct ?_
      | refine T_callA rfl rfl .nil hnew ?_ | exact E_fin1 (.inl rfl) rfl rfl rfl (by (repeat (first | exact .nil | exact .refl _ | exact .h | apply Pick.t | apply Picks.cons | apply Picks.skip)); done)
      | exact E_fin1 (.inr rfl) rfl rfl rfl (by (repeat (first | exact .nil | exact .refl _ | exact .h | apply Pick.t | apply Picks.cons | apply Picks.skip)); done)
      | exact E_fin2 (.inl rfl) rfl rfl rfl rfl (by (repeat (first | exact .nil | exact .refl _ | exact .h | apply Pick.t | apply Picks.cons | apply Picks.skip)); done)
      | exact E_fin2 (.inr rfl) rfl rfl rfl rfl (by (repeat (first | exact .nil | exact .refl _ | exact .h | apply Pick.t | apply Picks.cons | apply Picks.skip)); done)
      | exact E_fin3 (.inl rfl) rfl rfl rfl rfl rfl (by (repeat (first | exact .nil | exact .refl _ | exact .h | apply Pick.t | apply Picks.cons | apply Picks.skip)); done)
      | exact E_fin3 (.inr rfl) rfl rfl rfl rfl rfl (by (repeat (first | exact .nil | exact .refl _ | exact .h | apply Pick.t | apply Picks.cons | apply Picks.skip)); done)
      | exact E_fin0 (.inl rfl) rfl (by (repeat (first | exact .nil | exact .refl _ | exact .h | apply Pick.t | apply Picks.cons | apply Picks.skip)); done)
      | exact E_fin0 (.inr rfl) rfl (by (repeat (first | exact .nil | exact .refl _ | exact .h | apply Pick.t | apply Picks.cons | apply Picks.skip)); done) | fail)
  | true =>
    have hok := Ok.new hm
    have hnew := new_t (FS := []) hm
    unfold cfgV at hnew
    unfold cfgV
    intro F; simp only [List.cons_append, List.nil_append]; refine Ct_of Try.func7 rfl (n := 72) rfl rfl ?_
    repeat (first
      | refine H_seq ?_ | refine H_block ?_ | refine H_region ?_ | refine TL_nil ?_ | refine N_then ?_ | refine N_block ?_ | refine H_skip ?_ | refine H_ret ?_ | refine R_then ?_ | refine R_block ?_ | refine H_exit ?_
      | refine X_then ?_ | refine X_block_eq ?_ | refine X_block_ne rfl ?_ | refine H_cond_t rfl ?_ | refine H_cond_f rfl ?_
      | refine TL_y (by first | exact Y_move rfl | exact Y_assign rfl | exact Y_load rfl (Vl_cl (by (repeat (first | exact .h | apply Pick.t)); done) rfl) | exact Y_load rfl (by assumption) | exact Y_indexAddr rfl rfl (by omega) (by first | omega | (simp only [List.length_cons]; omega)) | exact Y_load rfl (Vl_elem (by (repeat (first | exact .h | apply Pick.t)); done) (by assumption)) | exact Y_loadAt rfl (by (repeat (first | exact .h | apply Pick.t)); done) (by rfl) | exact Y_ext rfl rfl | exact Y_not rfl | exact Y_lssd rfl rfl (by first | exact decide_eq_true (by omega) | exact decide_eq_false (by omega)) | exact Y_lss rfl rfl | exact Y_eqld rfl rfl (by first | exact decide_eq_true (by omega) | exact decide_eq_false (by omega)) | exact Y_eql rfl rfl | exact Y_neqd rfl rfl (by first | exact decide_eq_true (by omega) | exact decide_eq_false (by omega)) | exact Y_neq rfl rfl | exact Y_eql_nil rfl rfl | exact Y_neq_nil rfl rfl | exact Y_slice_eq_nil rfl rfl | exact Y_map_eq_nil rfl rfl | exact Y_add' rfl rfl (w64 (by omega) (by omega)) | exact Y_add' rfl rfl (wu64 (by omega) (by omega)) | exact Y_len_slice rfl | exact Y_pick_t rfl rfl | exact Y_pick_f rfl rfl | exact Y_buildp rfl rfl rfl | fail) rfl ?_
      | refine TLg_run rfl rfl ?_ | refine TLg_skip rfl rfl rfl rfl ?_ | refine T_store rfl rfl rfl (by (repeat (first | exact .h | apply Pick.t)); done) rfl ?_ | refine T_alloc rfl fun p1 => ?_
      | refine T_box rfl rfl fun p1 => ?_ | refine T_storeAt rfl rfl (by (repeat (first | exact .h | apply Pick.t)); done) (by rfl) (by rfl) (by rfl) ?_ | refine T_callA rfl rfl .nil fixed_ct ?_
      | refine T_callE rfl rfl .nil hnew fun l _ => ?_ | exact E_fin1 (.inl rfl) rfl rfl rfl (by (repeat (first | exact .nil | exact .refl _ | exact .h | apply Pick.t | apply Picks.cons | apply Picks.skip)); done)
      | exact E_fin1 (.inr rfl) rfl rfl rfl (by (repeat (first | exact .nil | exact .refl _ | exact .h | apply Pick.t | apply Picks.cons | apply Picks.skip)); done)
      | exact E_fin2 (.inl rfl) rfl rfl rfl rfl (by (repeat (first | exact .nil | exact .refl _ | exact .h | apply Pick.t | apply Picks.cons | apply Picks.skip)); done)
      | exact E_fin2 (.inr rfl) rfl rfl rfl rfl (by (repeat (first | exact .nil | exact .refl _ | exact .h | apply Pick.t | apply Picks.cons | apply Picks.skip)); done)
      | exact E_fin3 (.inl rfl) rfl rfl rfl rfl rfl (by (repeat (first | exact .nil | exact .refl _ | exact .h | apply Pick.t | apply Picks.cons | apply Picks.skip)); done)
      | exact E_fin3 (.inr rfl) rfl rfl rfl rfl rfl (by (repeat (first | exact .nil | exact .refl _ | exact .h | apply Pick.t | apply Picks.cons | apply Picks.skip)); done)
      | exact E_fin0 (.inl rfl) rfl (by (repeat (first | exact .nil | exact .refl _ | exact .h | apply Pick.t | apply Picks.cons | apply Picks.skip)); done)
      | exact E_fin0 (.inr rfl) rfl (by (repeat (first | exact .nil | exact .refl _ | exact .h | apply Pick.t | apply Picks.cons | apply Picks.skip)); done) | fail)
    rename_i pc _
    have hcap : (W13.new bl cap mr hi cl').cap = cap := rfl
    refine H_loopk [1, 2, 5, 7] (ι := Nat × List (Option Addr × List Int) × RS × Int × Int) (fun i => [(8, i64v i.1)])
      (fun i => pline i.2.1 l i.2.2.1 :: pool i.2.1 :: fairA p1 i.2.2.2.1 i.2.2.2.2 :: cl pc [i64v bl, i64v cap, i64v mr, i64v hi, i64v cl'] 47 :: D :: F)
      (fun i => i.1 ≤ ops.length ∧ i.1 ≤ 80 ∧ Ok i.2.2.1 ∧ i.2.2.1.next ≤ i.1 + 1 ∧ Seen i.2.2.1 i.2.2.2.1 i.2.2.2.2 ∧ i.2.2.1.cap = cap) (fun i => ops.length - i.1) (0, [], W13.new bl cap mr hi cl', 0, 0)
      ⟨Nat.zero_le _, Nat.zero_le _, hok, by simp [W13.new], Seen.new, hcap⟩ ⟨rfl, trivial⟩ (fun _ hs => sat_pick (.t .h) (sat_pool_nil (sat_sub (by (repeat (first | exact .nil | exact .refl _ | exact .h | apply Pick.t | apply Picks.cons | apply Picks.skip)); done) hs))) ?_
    rintro ⟨i, FS, r, b, e⟩ ⟨hi1, hi2, ok, hnx, hseen, hcap2⟩
    dsimp only at hi1 hi2 ok hnx hseen hcap2 ⊢
    have hN : r.next ≤ 90000 := by omega
    have hu := ok.used; have hrs := ok.resv; have hcf := ok.cfg
    by_cases hlt : i < ops.length ∧ i < 80
    · obtain ⟨x, hx⟩ := getSome hlt.1
      obtain ⟨w1, w2, w3, w4⟩ := hops x (List.mem_of_getElem? hx)
      have hrd0 : Rd [D] sa (ops.flatMap opCells) := hrd []
      refine H_Rd_some (Rd_mono hrd0 fun _ hs => sat_sub (by (repeat (first | exact .nil | exact .refl _ | exact .h | apply Pick.t | apply Picks.cons)); done) hs) (by intro e0; have := flat_get (f := opCells) (k := 5) (fun _ => rfl) hx (j := 0) (by omega); rw [e0] at this; simp [opCells] at this) fun b1 o1 e1 => ?_
      rw [e1] at hrd0
      rw [e1]
      have hnx2 := next_mono (r := r) x.1
      have hok2 := ok.does x.1
      have hN2 : (r.does x.1).next ≤ 90000 := by omega
      have ht := doesT_rng ok x.1
      have hb := hseen.bb; have hee := hseen.ee
      by_cases he : r.doesE x.1 = 0
      · have hd := does_ct (FS := FS) (p := l) (o := x.1) (a := x.2.1) (c := x.2.2) (D := D) ok hN w1 ⟨w2, w3⟩ w4
        rw [he] at hd
        have hs := fun FS' wa wc => sees_ok (FS := FS') (wa := wa) (wc := wc) (was := r.told) (p := l) (x := p1) (q := r.does x.1) (bl := bl) (cap := cap) (mr := mr) (hi := hi) (cl' := cl') (o := x.1) (a := x.2.1) (c := x.2.2) (b := b) (e := e) (t := r.doesT x.1) (sum := r.used + r.resv) hok2 hN2 (by rw [does_cap]; exact hcap2) (by omega) (by omega) (by omega) (fun h => does_sum ok h)
          (fun h => hseen.bgn h he) (fun h => hseen.ent ok h he) (fun h1 h2 => hseen.same (.inl ⟨h1, h2⟩))
        repeat (first
          | refine H_seq ?_ | refine H_block ?_ | refine H_region ?_ | refine TL_nil ?_ | refine N_then ?_ | refine N_block ?_ | refine H_skip ?_ | refine H_ret ?_ | refine R_then ?_ | refine R_block ?_
          | refine H_exit ?_ | refine X_then ?_ | refine X_block_eq ?_ | refine X_block_ne rfl ?_ | refine H_cond_t rfl ?_ | refine H_cond_f rfl ?_
          | refine TL_y (by first | exact Y_move rfl | exact Y_assign rfl | exact Y_load rfl (Vl_cl (by (repeat (first | exact .h | apply Pick.t)); done) rfl) | exact Y_load rfl (by assumption) | exact Y_indexAddr rfl rfl (by omega) (by first | omega | (simp only [List.length_cons]; omega)) | exact Y_load rfl (Vl_elem (by (repeat (first | exact .h | apply Pick.t)); done) (by assumption)) | exact Y_loadAt rfl (by (repeat (first | exact .h | apply Pick.t)); done) (by rfl) | exact Y_ext rfl rfl | exact Y_not rfl | exact Y_lssd rfl rfl (by first | exact decide_eq_true (by omega) | exact decide_eq_false (by omega)) | exact Y_lss rfl rfl | exact Y_eqld rfl rfl (by first | exact decide_eq_true (by omega) | exact decide_eq_false (by omega)) | exact Y_eql rfl rfl | exact Y_neqd rfl rfl (by first | exact decide_eq_true (by omega) | exact decide_eq_false (by omega)) | exact Y_neq rfl rfl | exact Y_eql_nil rfl rfl | exact Y_neq_nil rfl rfl | exact Y_slice_eq_nil rfl rfl | exact Y_map_eq_nil rfl rfl | exact Y_add' rfl rfl (w64 (by omega) (by omega)) | exact Y_add' rfl rfl (wu64 (by omega) (by omega)) | exact Y_len_slice rfl | exact Y_pick_t rfl rfl | exact Y_pick_f rfl rfl | exact Y_buildp rfl rfl rfl | fail) rfl ?_
          | refine TLg_run rfl rfl ?_ | refine TLg_skipu rfl rfl rfl ?_ | refine TLg_skip rfl rfl rfl rfl ?_ | refine T_store rfl rfl rfl (by (repeat (first | exact .h | apply Pick.t)); done) rfl ?_ | refine T_alloc rfl fun p1 => ?_
          | refine T_box rfl rfl fun p1 => ?_ | refine T_storeAt rfl rfl (by (repeat (first | exact .h | apply Pick.t)); done) (by rfl) (by rfl) (by rfl) ?_
          | (refine TL_y (Y_loadA (cs := opCells x) rfl (by rfl) (fun j v hj w hs => Vl_flat (L := [D]) (f := opCells) (fun _ => rfl) hrd0 hx j v hj w (sat_sub (by (repeat (first | exact .nil | exact .refl _ | exact .h | apply Pick.t | apply Picks.cons)); done) hs))) rfl ?_)
          | refine T_callE rfl rfl (by (repeat (first | exact .nil | exact .refl _ | exact .h | apply Pick.t | apply Picks.cons)); done) (told_ct ok hN) fun y _ => ?_
          | refine T_callA rfl rfl (by (repeat (first | exact .nil | exact .refl _ | exact .h | apply Pick.t | apply Picks.cons)); done) pl_used ?_
          | refine T_callA rfl rfl (by (repeat (first | exact .nil | exact .refl _ | exact .h | apply Pick.t | apply Picks.cons)); done) pl_reserved ?_
          | refine T_callE rfl rfl (by (repeat (first | exact .nil | exact .refl _ | exact .h | apply Pick.t | apply Picks.cons)); done) hd fun FS' hFS => ?_
          | refine T_callE rfl rfl (by (repeat (first | exact .nil | exact .refl _ | exact .h | apply Pick.t | apply Picks.cons)); done) (hs _ _ _) fun be hbe => ?_
          | exact E_fin1 (.inl rfl) rfl rfl rfl (by (repeat (first | exact .nil | exact .refl _ | exact .h | apply Pick.t | apply Picks.cons | apply Picks.skip)); done)
          | exact E_fin1 (.inr rfl) rfl rfl rfl (by (repeat (first | exact .nil | exact .refl _ | exact .h | apply Pick.t | apply Picks.cons | apply Picks.skip)); done)
          | exact E_fin2 (.inl rfl) rfl rfl rfl rfl (by (repeat (first | exact .nil | exact .refl _ | exact .h | apply Pick.t | apply Picks.cons | apply Picks.skip)); done)
          | exact E_fin2 (.inr rfl) rfl rfl rfl rfl (by (repeat (first | exact .nil | exact .refl _ | exact .h | apply Pick.t | apply Picks.cons | apply Picks.skip)); done)
          | exact E_fin3 (.inl rfl) rfl rfl rfl rfl rfl (by (repeat (first | exact .nil | exact .refl _ | exact .h | apply Pick.t | apply Picks.cons | apply Picks.skip)); done)
          | exact E_fin3 (.inr rfl) rfl rfl rfl rfl rfl (by (repeat (first | exact .nil | exact .refl _ | exact .h | apply Pick.t | apply Picks.cons | apply Picks.skip)); done)
          | exact E_fin0 (.inl rfl) rfl (by (repeat (first | exact .nil | exact .refl _ | exact .h | apply Pick.t | apply Picks.cons | apply Picks.skip)); done)
          | exact E_fin0 (.inr rfl) rfl (by (repeat (first | exact .nil | exact .refl _ | exact .h | apply Pick.t | apply Picks.cons | apply Picks.skip)); done) | fail)
        rw [← e1]
        exact N_rk (i := (i, FS, r, b, e)) (i + 1, FS', r.does x.1, be.1, be.2) ⟨hlt.1, hlt.2, hok2, by show (r.does x.1).next ≤ ((i + 1 : Nat) : Int) + 1; omega, hbe, by rw [does_cap]; exact hcap2⟩ (by show ops.length - (i + 1) < ops.length - i; omega) ⟨rfl, trivial⟩ ⟨rfl, rfl, rfl, rfl, trivial⟩ fun _ hs => sat_sub (by (repeat (first | exact .nil | exact .refl _ | exact .h | apply Pick.t | apply Picks.cons | apply Picks.skip)); done) hs
      · have hd := does_ct (FS := FS) (p := l) (o := x.1) (a := x.2.1) (c := x.2.2) (D := D) ok hN w1 ⟨w2, w3⟩ w4
        have hs := fun FS' wa wc => sees_no (FS := FS') (p := l) (x := p1) (q := r.does x.1) (bl := bl) (cap := cap) (mr := mr) (hi := hi) (cl' := cl') (o := x.1) (a := x.2.1) (c := x.2.2) (b := b) (e := e) (t := r.doesT x.1) (sum := r.used + r.resv) (er := r.doesE x.1) (was := r.told) (wa := wa) (wc := wc) hok2 hN2 he (by rw [does_same he])
        repeat (first
          | refine H_seq ?_ | refine H_block ?_ | refine H_region ?_ | refine TL_nil ?_ | refine N_then ?_ | refine N_block ?_ | refine H_skip ?_ | refine H_ret ?_ | refine R_then ?_ | refine R_block ?_
          | refine H_exit ?_ | refine X_then ?_ | refine X_block_eq ?_ | refine X_block_ne rfl ?_ | refine H_cond_t rfl ?_ | refine H_cond_f rfl ?_
          | refine TL_y (by first | exact Y_move rfl | exact Y_assign rfl | exact Y_load rfl (Vl_cl (by (repeat (first | exact .h | apply Pick.t)); done) rfl) | exact Y_load rfl (by assumption) | exact Y_indexAddr rfl rfl (by omega) (by first | omega | (simp only [List.length_cons]; omega)) | exact Y_load rfl (Vl_elem (by (repeat (first | exact .h | apply Pick.t)); done) (by assumption)) | exact Y_loadAt rfl (by (repeat (first | exact .h | apply Pick.t)); done) (by rfl) | exact Y_ext rfl rfl | exact Y_not rfl | exact Y_lssd rfl rfl (by first | exact decide_eq_true (by omega) | exact decide_eq_false (by omega)) | exact Y_lss rfl rfl | exact Y_eqld rfl rfl (by first | exact decide_eq_true (by omega) | exact decide_eq_false (by omega)) | exact Y_eql rfl rfl | exact Y_neqd rfl rfl (by first | exact decide_eq_true (by omega) | exact decide_eq_false (by omega)) | exact Y_neq rfl rfl | exact Y_eql_nil rfl rfl | exact Y_neq_nil rfl rfl | exact Y_slice_eq_nil rfl rfl | exact Y_map_eq_nil rfl rfl | exact Y_add' rfl rfl (w64 (by omega) (by omega)) | exact Y_add' rfl rfl (wu64 (by omega) (by omega)) | exact Y_len_slice rfl | exact Y_pick_t rfl rfl | exact Y_pick_f rfl rfl | exact Y_buildp rfl rfl rfl | fail) rfl ?_
          | refine TLg_run rfl rfl ?_ | refine TLg_skipu rfl rfl rfl ?_ | refine TLg_skip rfl rfl rfl rfl ?_ | refine T_store rfl rfl rfl (by (repeat (first | exact .h | apply Pick.t)); done) rfl ?_ | refine T_alloc rfl fun p1 => ?_
          | refine T_box rfl rfl fun p1 => ?_ | refine T_storeAt rfl rfl (by (repeat (first | exact .h | apply Pick.t)); done) (by rfl) (by rfl) (by rfl) ?_
          | (refine TL_y (Y_loadA (cs := opCells x) rfl (by rfl) (fun j v hj w hs => Vl_flat (L := [D]) (f := opCells) (fun _ => rfl) hrd0 hx j v hj w (sat_sub (by (repeat (first | exact .nil | exact .refl _ | exact .h | apply Pick.t | apply Picks.cons)); done) hs))) rfl ?_)
          | refine T_callE rfl rfl (by (repeat (first | exact .nil | exact .refl _ | exact .h | apply Pick.t | apply Picks.cons)); done) (told_ct ok hN) fun y _ => ?_
          | refine T_callA rfl rfl (by (repeat (first | exact .nil | exact .refl _ | exact .h | apply Pick.t | apply Picks.cons)); done) pl_used ?_
          | refine T_callA rfl rfl (by (repeat (first | exact .nil | exact .refl _ | exact .h | apply Pick.t | apply Picks.cons)); done) pl_reserved ?_
          | refine T_callE rfl rfl (by (repeat (first | exact .nil | exact .refl _ | exact .h | apply Pick.t | apply Picks.cons)); done) hd fun FS' hFS => ?_
          | refine T_callA rfl rfl (by (repeat (first | exact .nil | exact .refl _ | exact .h | apply Pick.t | apply Picks.cons)); done) (hs _ _ _) ?_
          | exact E_fin1 (.inl rfl) rfl rfl rfl (by (repeat (first | exact .nil | exact .refl _ | exact .h | apply Pick.t | apply Picks.cons | apply Picks.skip)); done)
          | exact E_fin1 (.inr rfl) rfl rfl rfl (by (repeat (first | exact .nil | exact .refl _ | exact .h | apply Pick.t | apply Picks.cons | apply Picks.skip)); done)
          | exact E_fin2 (.inl rfl) rfl rfl rfl rfl (by (repeat (first | exact .nil | exact .refl _ | exact .h | apply Pick.t | apply Picks.cons | apply Picks.skip)); done)
          | exact E_fin2 (.inr rfl) rfl rfl rfl rfl (by (repeat (first | exact .nil | exact .refl _ | exact .h | apply Pick.t | apply Picks.cons | apply Picks.skip)); done)
          | exact E_fin3 (.inl rfl) rfl rfl rfl rfl rfl (by (repeat (first | exact .nil | exact .refl _ | exact .h | apply Pick.t | apply Picks.cons | apply Picks.skip)); done)
          | exact E_fin3 (.inr rfl) rfl rfl rfl rfl rfl (by (repeat (first | exact .nil | exact .refl _ | exact .h | apply Pick.t | apply Picks.cons | apply Picks.skip)); done)
          | exact E_fin0 (.inl rfl) rfl (by (repeat (first | exact .nil | exact .refl _ | exact .h | apply Pick.t | apply Picks.cons | apply Picks.skip)); done)
          | exact E_fin0 (.inr rfl) rfl (by (repeat (first | exact .nil | exact .refl _ | exact .h | apply Pick.t | apply Picks.cons | apply Picks.skip)); done) | fail)
        rw [← e1]
        exact N_rk (i := (i, FS, r, b, e)) (i + 1, FS', r.does x.1, b, e) ⟨hlt.1, hlt.2, hok2, by show (r.does x.1).next ≤ ((i + 1 : Nat) : Int) + 1; omega, hseen.same (.inr he), by rw [does_cap]; exact hcap2⟩ (by show ops.length - (i + 1) < ops.length - i; omega) ⟨rfl, trivial⟩ ⟨rfl, rfl, rfl, rfl, trivial⟩ fun _ hs => sat_sub (by (repeat (first | exact .nil | exact .refl _ | exact .h | apply Pick.t | apply Picks.cons | apply Picks.skip)); done) hs
    · by_cases hl1 : i < ops.length
      · have hl2 : ¬ i < 80 := fun h => hlt ⟨hl1, h⟩
        repeat (first
          | refine H_seq ?_ | refine H_block ?_ | refine H_region ?_ | refine TL_nil ?_ | refine N_then ?_ | refine N_block ?_ | refine H_skip ?_ | refine H_ret ?_ | refine R_then ?_ | refine R_block ?_
          | refine H_exit ?_ | refine X_then ?_ | refine X_block_eq ?_ | refine X_block_ne rfl ?_ | refine H_cond_t rfl ?_ | refine H_cond_f rfl ?_
          | refine TL_y (by first | exact Y_move rfl | exact Y_assign rfl | exact Y_load rfl (Vl_cl (by (repeat (first | exact .h | apply Pick.t)); done) rfl) | exact Y_load rfl (by assumption) | exact Y_indexAddr rfl rfl (by omega) (by first | omega | (simp only [List.length_cons]; omega)) | exact Y_load rfl (Vl_elem (by (repeat (first | exact .h | apply Pick.t)); done) (by assumption)) | exact Y_loadAt rfl (by (repeat (first | exact .h | apply Pick.t)); done) (by rfl) | exact Y_ext rfl rfl | exact Y_not rfl | exact Y_lssd rfl rfl (by first | exact decide_eq_true (by omega) | exact decide_eq_false (by omega)) | exact Y_lss rfl rfl | exact Y_eqld rfl rfl (by first | exact decide_eq_true (by omega) | exact decide_eq_false (by omega)) | exact Y_eql rfl rfl | exact Y_neqd rfl rfl (by first | exact decide_eq_true (by omega) | exact decide_eq_false (by omega)) | exact Y_neq rfl rfl | exact Y_eql_nil rfl rfl | exact Y_neq_nil rfl rfl | exact Y_slice_eq_nil rfl rfl | exact Y_map_eq_nil rfl rfl | exact Y_add' rfl rfl (w64 (by omega) (by omega)) | exact Y_add' rfl rfl (wu64 (by omega) (by omega)) | exact Y_len_slice rfl | exact Y_pick_t rfl rfl | exact Y_pick_f rfl rfl | exact Y_buildp rfl rfl rfl | fail) rfl ?_
          | refine TLg_run rfl rfl ?_ | refine TLg_skipu rfl rfl rfl ?_ | refine TLg_skip rfl rfl rfl rfl ?_ | refine T_store rfl rfl rfl (by (repeat (first | exact .h | apply Pick.t)); done) rfl ?_ | refine T_alloc rfl fun p1 => ?_
          | refine T_box rfl rfl fun p1 => ?_ | refine T_storeAt rfl rfl (by (repeat (first | exact .h | apply Pick.t)); done) (by rfl) (by rfl) (by rfl) ?_
          | exact E_fin1 (.inl rfl) rfl rfl rfl (by (repeat (first | exact .nil | exact .refl _ | exact .h | apply Pick.t | apply Picks.cons | apply Picks.skip)); done)
          | exact E_fin1 (.inr rfl) rfl rfl rfl (by (repeat (first | exact .nil | exact .refl _ | exact .h | apply Pick.t | apply Picks.cons | apply Picks.skip)); done)
          | exact E_fin2 (.inl rfl) rfl rfl rfl rfl (by (repeat (first | exact .nil | exact .refl _ | exact .h | apply Pick.t | apply Picks.cons | apply Picks.skip)); done)
          | exact E_fin2 (.inr rfl) rfl rfl rfl rfl (by (repeat (first | exact .nil | exact .refl _ | exact .h | apply Pick.t | apply Picks.cons | apply Picks.skip)); done)
          | exact E_fin3 (.inl rfl) rfl rfl rfl rfl rfl (by (repeat (first | exact .nil | exact .refl _ | exact .h | apply Pick.t | apply Picks.cons | apply Picks.skip)); done)
          | exact E_fin3 (.inr rfl) rfl rfl rfl rfl rfl (by (repeat (first | exact .nil | exact .refl _ | exact .h | apply Pick.t | apply Picks.cons | apply Picks.skip)); done)
          | exact E_fin0 (.inl rfl) rfl (by (repeat (first | exact .nil | exact .refl _ | exact .h | apply Pick.t | apply Picks.cons | apply Picks.skip)); done)
          | exact E_fin0 (.inr rfl) rfl (by (repeat (first | exact .nil | exact .refl _ | exact .h | apply Pick.t | apply Picks.cons | apply Picks.skip)); done) | fail)
      · repeat (first
          | refine H_seq ?_ | refine H_block ?_ | refine H_region ?_ | refine TL_nil ?_ | refine N_then ?_ | refine N_block ?_ | refine H_skip ?_ | refine H_ret ?_ | refine R_then ?_ | refine R_block ?_
          | refine H_exit ?_ | refine X_then ?_ | refine X_block_eq ?_ | refine X_block_ne rfl ?_ | refine H_cond_t rfl ?_ | refine H_cond_f rfl ?_
          | refine TL_y (by first | exact Y_move rfl | exact Y_assign rfl | exact Y_load rfl (Vl_cl (by (repeat (first | exact .h | apply Pick.t)); done) rfl) | exact Y_load rfl (by assumption) | exact Y_indexAddr rfl rfl (by omega) (by first | omega | (simp only [List.length_cons]; omega)) | exact Y_load rfl (Vl_elem (by (repeat (first | exact .h | apply Pick.t)); done) (by assumption)) | exact Y_loadAt rfl (by (repeat (first | exact .h | apply Pick.t)); done) (by rfl) | exact Y_ext rfl rfl | exact Y_not rfl | exact Y_lssd rfl rfl (by first | exact decide_eq_true (by omega) | exact decide_eq_false (by omega)) | exact Y_lss rfl rfl | exact Y_eqld rfl rfl (by first | exact decide_eq_true (by omega) | exact decide_eq_false (by omega)) | exact Y_eql rfl rfl | exact Y_neqd rfl rfl (by first | exact decide_eq_true (by omega) | exact decide_eq_false (by omega)) | exact Y_neq rfl rfl | exact Y_eql_nil rfl rfl | exact Y_neq_nil rfl rfl | exact Y_slice_eq_nil rfl rfl | exact Y_map_eq_nil rfl rfl | exact Y_add' rfl rfl (w64 (by omega) (by omega)) | exact Y_add' rfl rfl (wu64 (by omega) (by omega)) | exact Y_len_slice rfl | exact Y_pick_t rfl rfl | exact Y_pick_f rfl rfl | exact Y_buildp rfl rfl rfl | fail) rfl ?_
          | refine TLg_run rfl rfl ?_ | refine TLg_skipu rfl rfl rfl ?_ | refine TLg_skip rfl rfl rfl rfl ?_ | refine T_store rfl rfl rfl (by (repeat (first | exact .h | apply Pick.t)); done) rfl ?_ | refine T_alloc rfl fun p1 => ?_
          | refine T_box rfl rfl fun p1 => ?_ | refine T_storeAt rfl rfl (by (repeat (first | exact .h | apply Pick.t)); done) (by rfl) (by rfl) (by rfl) ?_
          | exact E_fin1 (.inl rfl) rfl rfl rfl (by (repeat (first | exact .nil | exact .refl _ | exact .h | apply Pick.t | apply Picks.cons | apply Picks.skip)); done)
          | exact E_fin1 (.inr rfl) rfl rfl rfl (by (repeat (first | exact .nil | exact .refl _ | exact .h | apply Pick.t | apply Picks.cons | apply Picks.skip)); done)
          | exact E_fin2 (.inl rfl) rfl rfl rfl rfl (by (repeat (first | exact .nil | exact .refl _ | exact .h | apply Pick.t | apply Picks.cons | apply Picks.skip)); done)
          | exact E_fin2 (.inr rfl) rfl rfl rfl rfl (by (repeat (first | exact .nil | exact .refl _ | exact .h | apply Pick.t | apply Picks.cons | apply Picks.skip)); done)
          | exact E_fin3 (.inl rfl) rfl rfl rfl rfl rfl (by (repeat (first | exact .nil | exact .refl _ | exact .h | apply Pick.t | apply Picks.cons | apply Picks.skip)); done)
          | exact E_fin3 (.inr rfl) rfl rfl rfl rfl rfl (by (repeat (first | exact .nil | exact .refl _ | exact .h | apply Pick.t | apply Picks.cons | apply Picks.skip)); done)
          | exact E_fin0 (.inl rfl) rfl (by (repeat (first | exact .nil | exact .refl _ | exact .h | apply Pick.t | apply Picks.cons | apply Picks.skip)); done)
          | exact E_fin0 (.inr rfl) rfl (by (repeat (first | exact .nil | exact .refl _ | exact .h | apply Pick.t | apply Picks.cons | apply Picks.skip)); done) | fail)
end Go.Proofs
namespace Go.SL
theorem kept_of_base {w w' : World} (hs : sat [base w] w') : w.keptBut w' (fun _ => False) := by
  obtain ⟨h1, h2⟩ := sat_base_io hs
  refine ⟨h1, h2, fun i hi => ?_⟩
  rw [sat_base hs hi]
  cases h : w.heap[i]? with
  | none => rfl
  | some o => cases o <;> simp
theorem law_calls {P : Program} {f : FuncId} {args : List Value} {w : World} (h : ∀ F, Ct P f args F fun u L' => u = .bool true ∧ L' = F) :
    Calls P f args.toArray w fun e w' => e = .returned (.bool true) ∧ w.keptBut w' (fun _ => False) := by
  refine (h [base w] w (sat_base_self w)).mono ?_
  rintro e w' ⟨v, L', rfl, ⟨rfl, rfl⟩, hs⟩
  exact ⟨rfl, kept_of_base hs⟩
theorem law_calls_at {P : Program} {f : FuncId} {args : List Value} {w : World} (h : Ct P f args [base w] fun u L' => u = .bool true ∧ L' = [base w]) :
    Calls P f args.toArray w fun e w' => e = .returned (.bool true) ∧ w.keptBut w' (fun _ => False) := by
  refine (h w (sat_base_self w)).mono ?_
  rintro e w' ⟨v, L', rfl, ⟨rfl, rfl⟩, hs⟩
  exact ⟨rfl, kept_of_base hs⟩
open Go.ChangeShapes Go.WideShapes in
theorem post_law {H : Type} {enc : TypeId × Value → H} {P : Program} {f : Func} {s : ChangeSpec} {apart : Bool} {W W' : World} {args : Array Value} {v : Value} {ds gs : List (DataW H)} {before pa pv : List MemPlace}
    (hW : DataW.Whole enc P f.params.toList s.vars apart W args.toList ds gs before)
    (hres : DataW.TrodAll enc P W' W.heap.size (fun _ => false) false f.resultTypes.toList (v.resultList f.resultTypes.size) (s.fn H (ds ++ gs)).results [])
    (hargs : DataW.TrodAll enc P W' 0 (fun b => decide (b < W.heap.size)) true f.params.toList args.toList (s.fn H (ds ++ gs)).args pa)
    (hvars : DataW.TrodVars enc P W' (fun b => decide (b < W.heap.size)) s.vars (s.fn H (ds ++ gs)).vars pv) (hk : W.keptBut W' (fun _ => False)) :
    s.post enc P f apart true false false W args v W' :=
  ⟨ds, gs, before, [], pa, pv, hW, hres, hargs, hvars, World.keptBut_mono (fun _ h => h.elim) hk, nofun⟩
end Go.SL
namespace Go.SL
open Go.ChangeShapes Go.WideShapes
section
variable {H : Type} {enc : TypeId × Value → H} {P : Program} {w : World} {held : Bool}
theorem add0 {a : Addr} (h : a.spot = none) (k : Nat) : a.add k = ⟨a.block, a.off + k, none⟩ := by
  obtain ⟨b, o, s⟩ := a
  simp only at h; subst h
  exact Addr.add_none b o k
/-- a slice that came in, element by element -/
theorem read_slice {t e k : Nat} {cs : List Value} {fuel : Nat} {x : DataW H × List MemPlace} (ht : P.underlying t = some (.slice e)) (hk : P.cellsOf e = k) (hk0 : 0 < k) {β : Type} (f : β → List Value) (R : β → Prop)
    (hel : ∀ n cs y, DataW.trod enc P w 0 (fun _ => true) held n e cs = some y → ∃ b, cs = f b ∧ R b)
    (h : DataW.trod enc P w 0 (fun _ => true) held fuel t cs = some x) :
    ∃ (a : Option Addr) (c : Nat) (bs : List β), cs = [.slice a bs.length c] ∧ bs.length ≤ c ∧ c ≤ maxLen ∧ Sok a c ∧ (∀ b ∈ bs, R b) ∧ rdw w a (bs.flatMap f) := by
  rcases DataW.trod_slice ht h with ⟨rfl, _⟩ | ⟨a, len, cap, elems, rest, n, _, rfl, _, _, hl, hm, hlen, hel1, hsp, _⟩
  · exact ⟨none, 0, [], rfl, Nat.le_refl _, Nat.zero_le _, .inl rfl, by simp, .inl rfl⟩
  · rw [hk] at hel1 hsp
    have hplain : 0 < cap → a.spot = none := fun hc => by
      have h1 : ∃ cs, w.cells? 0 (a.add (0 * k)) k = some cs := by
        by_cases h0 : 0 < len
        · have h1 := hel1 0 h0
          rw [List.getElem?_eq_getElem (by omega), Option.bind_eq_some_iff] at h1
          exact ⟨h1.choose, h1.choose_spec.1⟩
        · obtain ⟨hr, h1⟩ := hsp rfl
          have h1 := h1 0 (by omega)
          rw [List.getElem?_eq_getElem (by omega), Option.bind_eq_some_iff] at h1
          have e0 : len + 0 = 0 := by omega
          rw [e0] at h1
          exact ⟨h1.choose, h1.choose_spec.1⟩
      obtain ⟨cs, hcs⟩ := h1
      obtain ⟨_, h2, h3⟩ := World.cells?_some hcs
      have h4 := h3 0 hk0
      rw [List.getElem?_eq_getElem (by omega)] at h4
      simp only [Nat.zero_mul] at h4
      by_cases hs : a.spot = none
      · exact hs
      · exfalso
        have h5 := World.cell?_spot h4
        have e1 : (a.add 0).add 0 = a := by unfold Addr.add; simp
        rw [e1] at h5
        exact hs h5
    have each : ∀ i, i < len → ∃ b, w.cells? 0 (a.add (i * k)) k = some (f b) ∧ R b := fun i hi => by
      have h1 := hel1 i hi
      rw [List.getElem?_eq_getElem (by omega), Option.bind_eq_some_iff] at h1
      obtain ⟨cs, h2, h3⟩ := h1
      obtain ⟨b, rfl, hR⟩ := hel _ _ _ h3
      exact ⟨b, h2, hR⟩
    have list : ∀ m, m ≤ len → ∃ bs : List β, bs.length = m ∧ (∀ b ∈ bs, R b) ∧ ∀ i b, bs[i]? = some b → w.cells? 0 (a.add (i * k)) k = some (f b) := by
      intro m
      induction m with
      | zero => intro _; exact ⟨[], rfl, by simp, by simp⟩
      | succ m ih =>
        intro hm
        obtain ⟨bs, h1, h2, h3⟩ := ih (by omega)
        obtain ⟨b, h4, h5⟩ := each m (by omega)
        refine ⟨bs ++ [b], by simp [h1], fun c hc => ?_, fun i c hc => ?_⟩
        · rcases List.mem_append.1 hc with h | h
          · exact h2 c h
          · simp at h; subst h; exact h5
        · by_cases hi : i < m
          · rw [List.getElem?_append_left (by omega)] at hc; exact h3 i c hc
          · rw [List.getElem?_append_right (by omega), h1] at hc
            have e : i = m := by
              have := (List.getElem?_eq_some_iff.1 hc).1
              simp at this; omega
            subst e
            simp at hc; subst hc; exact h4
    obtain ⟨bs, h1, h2, h3⟩ := list len (Nat.le_refl _)
    have hfl : ∀ i b, bs[i]? = some b → (f b).length = k := fun i b hb => (World.cells?_some (h3 i b hb)).2.1
    refine ⟨some a, cap, bs, by rw [h1], by omega, hm, ?_, h2, ?_⟩
    · by_cases hc : cap = 0
      · exact .inl hc
      · exact .inr ⟨a.block, a.off, by rw [← hplain (by omega)]⟩
    · by_cases h0 : len = 0
      · left
        have : bs = [] := List.eq_nil_of_length_eq_zero (by omega)
        rw [this]; rfl
      · have hsn := hplain (by omega)
        right
        refine ⟨a.block, a.off, by rw [← hsn], fun j v hj => ?_⟩
        have key : ∀ (l : List β) (s : Nat), (∀ i b, l[i]? = some b → (f b).length = k ∧ w.cells? 0 (a.add ((s + i) * k)) k = some (f b)) → ∀ j v, (l.flatMap f)[j]? = some v → w.cell? ⟨a.block, a.off + s * k + j, none⟩ = some v := by
          intro l
          induction l with
          | nil => intro s _ j v hj; simp at hj
          | cons b l ih =>
            intro s hl j v hj
            obtain ⟨q1, q2⟩ := hl 0 b rfl
            rw [Nat.add_zero] at q2
            rw [List.flatMap_cons] at hj
            by_cases hjk : j < k
            · rw [List.getElem?_append_left (by omega)] at hj
              have := (World.cells?_some q2).2.2 j hjk
              rw [hj, add0 hsn, Addr.add_none] at this
              exact this
            · rw [List.getElem?_append_right (by omega), q1] at hj
              have := ih (s + 1) (fun i c hc => by
                have := hl (i + 1) c (by simpa using hc)
                rw [show s + 1 + i = s + (i + 1) by omega]; exact this) (j - k) v hj
              rw [show a.off + (s + 1) * k + (j - k) = a.off + s * k + j by rw [Nat.add_mul]; omega] at this
              exact this
        have := key bs 0 (fun i b hb => ⟨hfl i b hb, by rw [Nat.zero_add]; exact h3 i b hb⟩) j v hj
        simpa using this
theorem read_int {t : Nat} {k : IntKind} (ht : P.underlying t = some (.int k)) {n : Nat} {cs : List Value} {y : DataW H × List MemPlace} (h : DataW.trod enc P w 0 (fun _ => true) held n t cs = some y) : ∃ x : Int, cs = [.int k x] ∧ (Lit.int k x).wf = true := by
  obtain ⟨x, rfl, _, hw⟩ := DataW.trod_int ht h
  exact ⟨x, rfl, hw⟩
theorem read_ints {t e : Nat} {k : IntKind} {cs : List Value} {fuel : Nat} {x : DataW H × List MemPlace} (ht : P.underlying t = some (.slice e)) (he : P.underlying e = some (.int k)) (hk : P.cellsOf e = 1)
    (h : DataW.trod enc P w 0 (fun _ => true) held fuel t cs = some x) :
    ∃ (a : Option Addr) (c : Nat) (zs : List Int), cs = [.slice a zs.length c] ∧ zs.length ≤ c ∧ c ≤ maxLen ∧ Sok a c ∧ (∀ z ∈ zs, (Lit.int k z).wf = true) ∧ rdw w a (zs.map (.int k)) := by
  obtain ⟨a, c, bs, h1, h2, h3, h4, h5, h6⟩ := read_slice ht hk (by omega) (fun z : Int => [.int k z]) (fun z => (Lit.int k z).wf = true) (fun n cs y hy => read_int he hy) h
  refine ⟨a, c, bs, h1, h2, h3, h4, h5, ?_⟩
  have e : ∀ l : List Int, l.flatMap (fun z : Int => [Value.int k z]) = l.map (.int k) := by
    intro l
    induction l with
    | nil => rfl
    | cons z l ih => rw [List.flatMap_cons, ih]; rfl
  rw [← e]; exact h6
/-- a struct's field -/
theorem read_field {fs : Array Field} {t : Nat} {cs : List Value} {fuel : Nat} {x : DataW H × List MemPlace} (ht : P.underlying t = some (.struct fs)) (h : DataW.trod enc P w 0 (fun _ => true) held fuel t cs = some x) :
    cs.length = P.cellsOf t ∧ ∀ (i : Nat) (f : Field), fs[i]? = some f → ∃ n y, DataW.trod enc P w 0 (fun _ => true) held n f.type ((cs.drop f.offset).take (P.cellsOf f.type)) = some y := by
  obtain ⟨xs, n, _, _, h1, h2, h3⟩ := DataW.trod_struct ht h
  refine ⟨h1, fun i f hf => ?_⟩
  have hi : i < xs.length := by rw [h2]; exact (Array.getElem?_eq_some_iff.1 hf).1
  exact ⟨n, xs[i], by rw [h3 i f hf, List.getElem?_eq_getElem hi]⟩
end
theorem sameAt_base {W W' : World} (hs : sat [base W] W') {p : MemPlace} (hp : p.block < W.heap.size) : W.sameAt W' p := by
  cases p with
  | cell b off =>
    have hb : W'.heap[b]? = W.heap[b]? := sat_base hs hp
    simp only [World.sameAt, World.cell?, hb]
  | map b => exact sat_base hs hp
section
variable {H : Type} {enc : TypeId × Value → H} {P : Program} {T : TypeId → Prop}
theorem trodAll_old (K : Kids P T) (hsz : ∀ {t e : TypeId}, T t → P.underlying t = some (.slice e) → 0 < P.cellsOf e) {W W' : World} (hs : sat [base W] W') : ∀ {ts : List TypeId} {vs : List Value} {ds : List (DataW H)} {ps : List MemPlace}, (∀ t ∈ ts, T t) → DataW.TrodAll enc P W 0 (fun _ => true) true ts vs ds ps →
    (∀ q ∈ ps, q.block < W.heap.size) → DataW.TrodAll enc P W' 0 (fun b => decide (b < W.heap.size)) true ts vs ds ps
  | [], vs, ds, ps, _, h, _ => by
    obtain ⟨rfl, rfl, rfl⟩ := trodAll_nil h
    exact trodAll_mk0
  | t :: ts, vs, ds, ps, ht, h, hp => by
    obtain ⟨v, vs', d, ds', p, q, rfl, rfl, rfl, ⟨n, h1⟩, h2⟩ := trodAll_cons h
    exact trodAll_cons_mk ⟨n, DataW.trod_stays (x := (d, p)) K hsz (fun e => by cases e) (ht t (by simp)) h1 (fun x hx => sameAt_base hs (hp x (List.mem_append_left _ hx))) (fun x hx => by simpa using hp x (List.mem_append_left _ hx))⟩
      (trodAll_old K hsz hs (fun t h => ht t (by simp [h])) h2 (fun x hx => hp x (by simp [hx])))
end
theorem law_calls_sat {P : Program} {f : FuncId} {args : List Value} {w : World} (h : Ct P f args [base w] fun u L' => u = .bool true ∧ L' = [base w]) :
    Calls P f args.toArray w fun e w' => e = .returned (.bool true) ∧ sat [base w] w' := by
  refine (h w (sat_base_self w)).mono ?_
  rintro e w' ⟨v, L', rfl, ⟨rfl, rfl⟩, hs⟩
  exact ⟨rfl, hs⟩
end Go.SL
namespace Go.SL
def szB (P : Program) : Bool := (List.range P.types.size).all fun t => match P.underlying t with | some (.slice e) => decide (0 < P.cellsOf e) | _ => true
theorem szB_spec {P : Program} (h : szB P = true) {t e : TypeId} (ht : t < P.types.size) (hu : P.underlying t = some (.slice e)) : 0 < P.cellsOf e := by
  have := List.all_eq_true.1 h t (List.mem_range.2 ht)
  rw [hu] at this
  simpa using this
end Go.SL
namespace Go.Proofs.Ytgbgccifdbpolaa
open Go.ChangeShapes Go.WideShapes Go.ChangeAt Go.RowKit
theorem own : ownKnob Try.prog.godebug = none := by kernel_rfl
theorem kids : Kids Try.prog (· < Try.prog.types.size) := kids_rows (by kernel_rfl) (by kernel_rfl)
theorem sz : Go.SL.szB Try.prog = true := by kernel_rfl
section
variable {H : Type} {enc : TypeId × Value → H} {w : World} {held : Bool}
theorem len5 {l : List Value} (h : l.length = 5) : ∃ a b c d e, l = [a, b, c, d, e] := by
  match l, h with
  | [a, b, c, d, e], _ => exact ⟨a, b, c, d, e, rfl⟩
theorem read_op {n : Nat} {cs : List Value} {y : DataW H × List MemPlace} (h : DataW.trod enc Try.prog w 0 (fun _ => true) held n 85 cs = some y) :
    ∃ x : Go.Proofs.OpC, cs = Go.Proofs.opCells x ∧ (Go.SL.Sok x.2.1 x.2.2 ∧ x.1.set.length ≤ x.2.2 ∧ x.2.2 ≤ maxLen ∧ Go.SL.rdw w x.2.1 (x.1.set.map Go.SL.i64v)) := by
  obtain ⟨hl, hf⟩ := Go.SL.read_field (P := Try.prog) Try.underlying85 h
  have hl5 : cs.length = 5 := by rw [hl]; kernel_rfl
  obtain ⟨a, b, c, d, e, rfl⟩ := len5 hl5
  obtain ⟨n0, y0, h0⟩ := hf 0 _ rfl
  obtain ⟨n1, y1, h1⟩ := hf 1 _ rfl
  obtain ⟨n2, y2, h2⟩ := hf 2 _ rfl
  obtain ⟨n3, y3, h3⟩ := hf 3 _ rfl
  obtain ⟨n4, y4, h4⟩ := hf 4 _ rfl
  have c3 : Try.prog.cellsOf 3 = 1 := by kernel_rfl
  have c37 : Try.prog.cellsOf 37 = 1 := by kernel_rfl
  have c36 : Try.prog.cellsOf 36 = 1 := by kernel_rfl
  have g0 : DataW.trod enc Try.prog w 0 (fun _ => true) held n0 3 (List.take (Try.prog.cellsOf 3) (List.drop 0 [a, b, c, d, e])) = some y0 := h0
  rw [c3] at g0
  have g1 : DataW.trod enc Try.prog w 0 (fun _ => true) held n1 3 (List.take (Try.prog.cellsOf 3) (List.drop 1 [a, b, c, d, e])) = some y1 := h1
  rw [c3] at g1
  have g2 : DataW.trod enc Try.prog w 0 (fun _ => true) held n2 37 (List.take (Try.prog.cellsOf 37) (List.drop 2 [a, b, c, d, e])) = some y2 := h2
  rw [c37] at g2
  have g3 : DataW.trod enc Try.prog w 0 (fun _ => true) held n3 36 (List.take (Try.prog.cellsOf 36) (List.drop 3 [a, b, c, d, e])) = some y3 := h3
  rw [c36] at g3
  have g4 : DataW.trod enc Try.prog w 0 (fun _ => true) held n4 3 (List.take (Try.prog.cellsOf 3) (List.drop 4 [a, b, c, d, e])) = some y4 := h4
  rw [c3] at g4
  obtain ⟨k, hk, _⟩ := Go.SL.read_int Try.underlying3 (cs := [a]) g0
  obtain ⟨wh, hw, _⟩ := Go.SL.read_int Try.underlying3 (cs := [b]) g1
  obtain ⟨sa, sc, zs, hs, s1, s2, s3, _, s5⟩ := Go.SL.read_ints Try.underlying37 Try.underlying3 c3 (cs := [c]) g2
  obtain ⟨t, ht, _⟩ := Go.SL.read_int Try.underlying36 (cs := [d]) g3
  obtain ⟨m, hm, _⟩ := Go.SL.read_int Try.underlying3 (cs := [e]) g4
  cases hk; cases hw; cases hs; cases ht; cases hm
  exact ⟨(⟨k, wh, zs, t, m⟩, sa, sc), rfl, s3, s1, s2, s5⟩
end
end Go.Proofs.Ytgbgccifdbpolaa
