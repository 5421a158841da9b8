/- Part of the proof of AdmitFairSaid: lemmas and contracts that it uses. -/
import Derived.Test.YtgbgccifdbpolaaX05
set_option linter.all false
set_option linter.unusedVariables false
set_option linter.unusedSimpArgs false
set_option linter.unnecessarySimpa false
namespace Go.Proofs
open Go Go.SL Go.W13
/-- what has been collected: a slice of one's own behind a variable -/
def coll (v p : Nat) (ty e : Nat) (xs : List Value) : Asn := ex fun y : Option Addr × Nat => stars [cl v [.slice y.1 xs.length y.2] ty, slc e 1 y.1 xs.length y.2 xs]
section
variable {n : Nat} {ds : List Deferred} {S : Sp} {L L' : List Asn} {G : Act → World → Prop} {v p ty e : Nat} {xs : List Value} {w : World}
theorem sat_coll : sat (coll v p ty e xs :: L) w ↔ ∃ a c, sat (cl v [.slice a xs.length c] ty :: slc e 1 a xs.length c xs :: L) w := by
  unfold coll; rw [sat_ex]
  exact ⟨fun ⟨y, h⟩ => ⟨y.1, y.2, sat_big.1 h⟩, fun ⟨a, c, h⟩ => ⟨(a, c), sat_big.2 h⟩⟩
theorem H_coll (pk : Pick (coll v p ty e xs) L L') (h : ∀ a c, H n ds S (cl v [.slice a xs.length c] ty :: slc e 1 a xs.length c xs :: L') G) : H n ds S L G :=
  H_pick pk fun a w hk hs => let ⟨x, c, h2⟩ := sat_coll.1 hs; h x c a w hk h2
end
theorem take_succ_map {α β : Type} {f : α → β} {q : List α} {i : Nat} {x : α} (h : q[i]? = some x) : (q.take (i + 1)).map f = (q.take i).map f ++ [f x] := by
  rw [List.take_add_one, h]; simp
theorem coll_put {α : Type} {f : α → Value} {L : List Asn} {w : World} {v ty e c k : Nat} {a : Option Addr} {q : List α} {i : Nat} {x : α} (h : q[i]? = some x) (hk : k = ((q.take i).map f).length + 1) (hs : sat (cl v [.slice a k c] ty :: slc e 1 a k c ((q.take i).map f ++ [f x]) :: L) w) : sat (coll v 0 ty e ((q.take (i + 1)).map f) :: L) w := by
  rw [take_succ_map h]
  subst hk
  exact sat_coll.2 ⟨a, c, by simpa using hs⟩
attribute [local irreducible] H W TL XL Y cl mp slc ro tq line pool coll
set_option maxRecDepth 20000
set_option maxHeartbeats 1000000
section
variable {FS : List (Option Addr × List Int)} {p : Nat} {s : LS}
theorem ln_waiting (hq : s.q.length ≤ 100000) : CtE Try.prog 25 [ptrv p] [line FS p s] (fun _ : Option Addr × Nat => True) (fun y => .slice y.1 s.q.length y.2) fun y F => slc 36 1 y.1 s.q.length y.2 (s.q.map u64v) :: line FS p s :: F := by
  intro F; simp only [List.cons_append, List.nil_append]; refine Ct_of Try.func25 rfl (n := 18) rfl rfl ?_
  refine H_line .h fun o hfm => ?_
  unfold lineC
  repeat (first
    | refine H_seq ?_ | refine H_block ?_ | refine H_region ?_ | refine TL_nil ?_ | refine N_then ?_ | refine N_block ?_ | refine H_skip ?_ | refine H_ret ?_ | refine R_then ?_ | refine R_block ?_ | refine H_exit ?_
    | refine X_then ?_ | refine X_block_eq ?_ | refine X_block_ne rfl ?_ | refine H_cond_t rfl ?_ | refine H_cond_f rfl ?_
    | refine TL_y (by first | exact Y_move rfl | exact Y_assign rfl | exact Y_nilCheck rfl | exact Y_nilCheckF rfl | exact Y_fieldAddr rfl | exact Y_load rfl (Vl_cl (by (repeat (first | exact .h | apply Pick.t)); done) rfl) | exact Y_load rfl (by assumption) | exact Y_loadAt rfl (by (repeat (first | exact .h | apply Pick.t)); done) (by rfl) | exact Y_eqld rfl rfl (by first | exact decide_eq_true (by omega) | exact decide_eq_false (by omega)) | exact Y_eql rfl rfl | exact Y_eql_nil rfl rfl | exact Y_slice_eq_nil rfl rfl | exact Y_map_eq_nil rfl rfl | fail) rfl ?_
    | refine T_store rfl rfl rfl (by (repeat (first | exact .h | apply Pick.t)); done) rfl ?_ | refine T_alloc rfl fun p1 => ?_ | refine T_bs0 rfl fun b1 => ?_ | refine T_bs1 rfl rfl rfl fun b1 => ?_
    | refine T_bsn rfl rfl rfl rfl rfl rfl fun b1 => ?_ | refine T_storeAt rfl rfl (by (repeat (first | exact .h | apply Pick.t)); done) (by rfl) (by rfl) (by rfl) ?_
    | refine T_callE rfl rfl (by (repeat (first | exact .nil | exact .refl _ | exact .h | apply Pick.t | apply Picks.cons)); done) (tq_all (p := o.pq)) fun y _ => ?_
    | exact E_fin1 (.inl rfl) rfl rfl rfl (by (repeat (first | exact .nil | exact .refl _ | exact .h | apply Pick.t | apply Picks.cons | apply Picks.skip)); done)
    | exact E_fin1 (.inr rfl) rfl rfl rfl (by (repeat (first | exact .nil | exact .refl _ | exact .h | apply Pick.t | apply Picks.cons | apply Picks.skip)); done)
    | exact E_fin2 (.inl rfl) rfl rfl rfl rfl (by (repeat (first | exact .nil | exact .refl _ | exact .h | apply Pick.t | apply Picks.cons | apply Picks.skip)); done)
    | exact E_fin2 (.inr rfl) rfl rfl rfl rfl (by (repeat (first | exact .nil | exact .refl _ | exact .h | apply Pick.t | apply Picks.cons | apply Picks.skip)); done)
    | exact E_fin3 (.inl rfl) rfl rfl rfl rfl rfl (by (repeat (first | exact .nil | exact .refl _ | exact .h | apply Pick.t | apply Picks.cons | apply Picks.skip)); done)
    | exact E_fin3 (.inr rfl) rfl rfl rfl rfl rfl (by (repeat (first | exact .nil | exact .refl _ | exact .h | apply Pick.t | apply Picks.cons | apply Picks.skip)); done)
    | exact E_fin0 (.inl rfl) rfl (by (repeat (first | exact .nil | exact .refl _ | exact .h | apply Pick.t | apply Picks.cons | apply Picks.skip)); done)
    | exact E_fin0 (.inr rfl) rfl (by (repeat (first | exact .nil | exact .refl _ | exact .h | apply Pick.t | apply Picks.cons | apply Picks.skip)); done) | fail)
  refine H_to (L' := coll p1 0 54 36 [] :: cl y [ptrv o.pq] 103 :: lineC p s o :: tq o.pq s.q (s.next - 1) :: mp o.mb .u64 o.M :: slc 36 1 o.a s.ins.length o.c (s.ins.map u64v) :: ledC o.pl o.ml s.cap s.hi s.used s.res :: mp o.ml .u64 (intsV s.left) :: F) ?_ fun _ hs => sat_coll.2 ⟨none, 0, sat_unpick (.t .h) (slc_nil (sat_pick (.t .h) hs))⟩
  refine H_rf (pz := [12]) (lb := [ptrv y]) (xs := s.q.map fun x => [u64v x]) (fun i => coll p1 0 54 36 ((s.q.take i).map u64v)) (fun _ => pu False)
    (fun i args (_ : Unit) => [(3, ptrv p1), (4, args.getD 0 (.bool false))]) (fun i args _ => coll p1 0 54 36 ((s.q.take i).map u64v)) rfl (tq_iter (y := y) (p := o.pq) (last := s.next - 1) hq) ?_ rfl (by (repeat (first | exact .nil | exact .refl _ | exact .h | apply Pick.t | apply Picks.cons)); done) ?_ ?_ ?_ ?_
  · intro x hx; obtain ⟨y, _, rfl⟩ := List.mem_map.1 hx; rfl
  · intro l i args hx M'
    obtain ⟨x, hx', rfl⟩ : ∃ x, s.q[i]? = some x ∧ args = [u64v x] := by rw [List.getElem?_map] at hx; cases h : s.q[i]? with
      | none => rw [h] at hx; cases hx
      | some x => rw [h] at hx; cases hx; exact ⟨x, rfl, rfl⟩
    repeat (first
      | refine H_seq ?_ | refine H_block ?_ | refine H_region ?_ | refine TL_nil ?_ | refine N_then ?_ | refine N_block ?_ | refine H_skip ?_ | refine H_ret ?_ | refine R_then ?_ | refine R_block ?_ | refine H_exit ?_
      | refine X_then ?_ | refine X_block_eq ?_ | refine X_block_ne rfl ?_ | refine H_cond_t rfl ?_ | refine H_cond_f rfl ?_
      | refine TL_y (by first | exact Y_move rfl | exact Y_assign rfl | exact Y_nilCheck rfl | exact Y_nilCheckF rfl | exact Y_fieldAddr rfl | exact Y_load rfl (Vl_cl (by (repeat (first | exact .h | apply Pick.t)); done) rfl) | exact Y_load rfl (by assumption) | exact Y_loadAt rfl (by (repeat (first | exact .h | apply Pick.t)); done) (by rfl) | exact Y_eqld rfl rfl (by first | exact decide_eq_true (by omega) | exact decide_eq_false (by omega)) | exact Y_eql rfl rfl | exact Y_eql_nil rfl rfl | exact Y_slice_eq_nil rfl rfl | exact Y_map_eq_nil rfl rfl | fail) rfl ?_
      | refine T_store rfl rfl rfl (by (repeat (first | exact .h | apply Pick.t)); done) rfl ?_ | refine T_alloc rfl fun p1 => ?_ | refine T_bs0 rfl fun b1 => ?_ | refine T_bs1 rfl rfl rfl fun b1 => ?_
      | refine T_bsn rfl rfl rfl rfl rfl rfl fun b1 => ?_ | refine T_storeAt rfl rfl (by (repeat (first | exact .h | apply Pick.t)); done) (by rfl) (by rfl) (by rfl) ?_
      | exact E_fin1 (.inl rfl) rfl rfl rfl (by (repeat (first | exact .nil | exact .refl _ | exact .h | apply Pick.t | apply Picks.cons | apply Picks.skip)); done)
      | exact E_fin1 (.inr rfl) rfl rfl rfl (by (repeat (first | exact .nil | exact .refl _ | exact .h | apply Pick.t | apply Picks.cons | apply Picks.skip)); done)
      | exact E_fin2 (.inl rfl) rfl rfl rfl rfl (by (repeat (first | exact .nil | exact .refl _ | exact .h | apply Pick.t | apply Picks.cons | apply Picks.skip)); done)
      | exact E_fin2 (.inr rfl) rfl rfl rfl rfl (by (repeat (first | exact .nil | exact .refl _ | exact .h | apply Pick.t | apply Picks.cons | apply Picks.skip)); done)
      | exact E_fin3 (.inl rfl) rfl rfl rfl rfl rfl (by (repeat (first | exact .nil | exact .refl _ | exact .h | apply Pick.t | apply Picks.cons | apply Picks.skip)); done)
      | exact E_fin3 (.inr rfl) rfl rfl rfl rfl rfl (by (repeat (first | exact .nil | exact .refl _ | exact .h | apply Pick.t | apply Picks.cons | apply Picks.skip)); done)
      | exact E_fin0 (.inl rfl) rfl (by (repeat (first | exact .nil | exact .refl _ | exact .h | apply Pick.t | apply Picks.cons | apply Picks.skip)); done)
      | exact E_fin0 (.inr rfl) rfl (by (repeat (first | exact .nil | exact .refl _ | exact .h | apply Pick.t | apply Picks.cons | apply Picks.skip)); done) | fail)
    exact N_as () ⟨rfl, rfl, trivial⟩ fun _ hs => hs
  · intro l i args hx _ M'
    obtain ⟨x, hx', rfl⟩ : ∃ x, s.q[i]? = some x ∧ args = [u64v x] := by rw [List.getElem?_map] at hx; cases h : s.q[i]? with
      | none => rw [h] at hx; cases hx
      | some x => rw [h] at hx; cases hx; exact ⟨x, rfl, rfl⟩
    have hi : i < s.q.length := (List.getElem?_eq_some_iff.1 hx').1
    have hlen : ((s.q.take i).map u64v).length ≤ 100000 := by simp; omega
    refine H_coll .h fun a c => ?_
    generalize hL : ((s.q.take i).map u64v).length = k at *
    repeat (first
      | refine H_seq ?_ | refine H_block ?_ | refine H_region ?_ | refine TL_nil ?_ | refine N_then ?_ | refine N_block ?_ | refine H_skip ?_ | refine H_ret ?_ | refine R_then ?_ | refine R_block ?_ | refine H_exit ?_
      | refine X_then ?_ | refine X_block_eq ?_ | refine X_block_ne rfl ?_ | refine H_cond_t rfl ?_ | refine H_cond_f rfl ?_
      | refine TL_y (by first | exact Y_move rfl | exact Y_assign rfl | exact Y_nilCheck rfl | exact Y_nilCheckF rfl | exact Y_fieldAddr rfl | exact Y_load rfl (Vl_cl (by (repeat (first | exact .h | apply Pick.t)); done) rfl) | exact Y_load rfl (by assumption) | exact Y_loadAt rfl (by (repeat (first | exact .h | apply Pick.t)); done) (by rfl) | exact Y_eqld rfl rfl (by first | exact decide_eq_true (by omega) | exact decide_eq_false (by omega)) | exact Y_eql rfl rfl | exact Y_eql_nil rfl rfl | exact Y_slice_eq_nil rfl rfl | exact Y_map_eq_nil rfl rfl | fail) rfl ?_
      | refine T_store rfl rfl rfl (by (repeat (first | exact .h | apply Pick.t)); done) rfl ?_ | refine T_alloc rfl fun p1 => ?_ | refine T_bs0 rfl fun b1 => ?_ | refine T_bs1 rfl rfl rfl fun b1 => ?_
      | refine T_bsn rfl rfl rfl rfl rfl rfl fun b1 => ?_ | refine T_storeAt rfl rfl (by (repeat (first | exact .h | apply Pick.t)); done) (by rfl) (by rfl) (by rfl) ?_
      | refine T_append rfl rfl (by (repeat (first | exact .h | apply Pick.t)); done) (Rd_cl (by (repeat (first | exact .h | apply Pick.t)); done)) rfl (one_map (fun _ => rfl) [x]) (by omega) (by simp only [maxLen]; omega) rfl fun a' c' => ?_
      | exact E_fin1 (.inl rfl) rfl rfl rfl (by (repeat (first | exact .nil | exact .refl _ | exact .h | apply Pick.t | apply Picks.cons | apply Picks.skip)); done)
      | exact E_fin1 (.inr rfl) rfl rfl rfl (by (repeat (first | exact .nil | exact .refl _ | exact .h | apply Pick.t | apply Picks.cons | apply Picks.skip)); done)
      | exact E_fin2 (.inl rfl) rfl rfl rfl rfl (by (repeat (first | exact .nil | exact .refl _ | exact .h | apply Pick.t | apply Picks.cons | apply Picks.skip)); done)
      | exact E_fin2 (.inr rfl) rfl rfl rfl rfl (by (repeat (first | exact .nil | exact .refl _ | exact .h | apply Pick.t | apply Picks.cons | apply Picks.skip)); done)
      | exact E_fin3 (.inl rfl) rfl rfl rfl rfl rfl (by (repeat (first | exact .nil | exact .refl _ | exact .h | apply Pick.t | apply Picks.cons | apply Picks.skip)); done)
      | exact E_fin3 (.inr rfl) rfl rfl rfl rfl rfl (by (repeat (first | exact .nil | exact .refl _ | exact .h | apply Pick.t | apply Picks.cons | apply Picks.skip)); done)
      | exact E_fin0 (.inl rfl) rfl (by (repeat (first | exact .nil | exact .refl _ | exact .h | apply Pick.t | apply Picks.cons | apply Picks.skip)); done)
      | exact E_fin0 (.inr rfl) rfl (by (repeat (first | exact .nil | exact .refl _ | exact .h | apply Pick.t | apply Picks.cons | apply Picks.skip)); done) | fail)
    exact R_rn fun _ hs => coll_put (a := a') (c := c') (k := k + 1) hx' (by omega) (sat_sub (by (repeat (first | exact .nil | exact .refl _ | exact .h | apply Pick.t | apply Picks.cons | apply Picks.skip)); done) hs)
  · intro D
    rw [List.length_map, List.take_of_length_le (Nat.le_refl _)]
    refine H_coll .h fun a c => ?_
    rw [List.length_map]
    repeat (first
      | refine H_seq ?_ | refine H_block ?_ | refine H_region ?_ | refine TL_nil ?_ | refine N_then ?_ | refine N_block ?_ | refine H_skip ?_ | refine H_ret ?_ | refine R_then ?_ | refine R_block ?_ | refine H_exit ?_
      | refine X_then ?_ | refine X_block_eq ?_ | refine X_block_ne rfl ?_ | refine H_cond_t rfl ?_ | refine H_cond_f rfl ?_
      | refine TL_y (by first | exact Y_move rfl | exact Y_assign rfl | exact Y_nilCheck rfl | exact Y_nilCheckF rfl | exact Y_fieldAddr rfl | exact Y_load rfl (Vl_cl (by (repeat (first | exact .h | apply Pick.t)); done) rfl) | exact Y_load rfl (by assumption) | exact Y_loadAt rfl (by (repeat (first | exact .h | apply Pick.t)); done) (by rfl) | exact Y_eqld rfl rfl (by first | exact decide_eq_true (by omega) | exact decide_eq_false (by omega)) | exact Y_eql rfl rfl | exact Y_eql_nil rfl rfl | exact Y_slice_eq_nil rfl rfl | exact Y_map_eq_nil rfl rfl | fail) rfl ?_
      | refine T_store rfl rfl rfl (by (repeat (first | exact .h | apply Pick.t)); done) rfl ?_ | refine T_alloc rfl fun p1 => ?_ | refine T_bs0 rfl fun b1 => ?_ | refine T_bs1 rfl rfl rfl fun b1 => ?_
      | refine T_bsn rfl rfl rfl rfl rfl rfl fun b1 => ?_ | refine T_storeAt rfl rfl (by (repeat (first | exact .h | apply Pick.t)); done) (by rfl) (by rfl) (by rfl) ?_
      | exact E_fin1 (.inl rfl) rfl rfl rfl (by (repeat (first | exact .nil | exact .refl _ | exact .h | apply Pick.t | apply Picks.cons | apply Picks.skip)); done)
      | exact E_fin1 (.inr rfl) rfl rfl rfl (by (repeat (first | exact .nil | exact .refl _ | exact .h | apply Pick.t | apply Picks.cons | apply Picks.skip)); done)
      | exact E_fin2 (.inl rfl) rfl rfl rfl rfl (by (repeat (first | exact .nil | exact .refl _ | exact .h | apply Pick.t | apply Picks.cons | apply Picks.skip)); done)
      | exact E_fin2 (.inr rfl) rfl rfl rfl rfl (by (repeat (first | exact .nil | exact .refl _ | exact .h | apply Pick.t | apply Picks.cons | apply Picks.skip)); done)
      | exact E_fin3 (.inl rfl) rfl rfl rfl rfl rfl (by (repeat (first | exact .nil | exact .refl _ | exact .h | apply Pick.t | apply Picks.cons | apply Picks.skip)); done)
      | exact E_fin3 (.inr rfl) rfl rfl rfl rfl rfl (by (repeat (first | exact .nil | exact .refl _ | exact .h | apply Pick.t | apply Picks.cons | apply Picks.skip)); done)
      | exact E_fin0 (.inl rfl) rfl (by (repeat (first | exact .nil | exact .refl _ | exact .h | apply Pick.t | apply Picks.cons | apply Picks.skip)); done)
      | exact E_fin0 (.inr rfl) rfl (by (repeat (first | exact .nil | exact .refl _ | exact .h | apply Pick.t | apply Picks.cons | apply Picks.skip)); done) | fail)
    refine H_linec s o hfm (by (repeat (first | exact .nil | exact .refl _ | exact .h | apply Pick.t | apply Picks.cons)); done) ?_
    exact XM_fin1 (a, c) (by trivial) (by first | exact .inl rfl | exact .inr rfl) (by rfl) (by rfl) (by rfl) (by (repeat (first | exact .h | apply Pick.t)); done) (by (repeat (first | exact .nil | exact .refl _ | exact .h | apply Pick.t | apply Picks.cons | apply Picks.skip)); done)
  · intro D c
    exact H_pu fun h => h.elim
end
end Go.Proofs
namespace Go.SL
variable {n : Nat} {ds : List Deferred} {S : Sp} {L : List Asn} {P : Program} {ty : TypeId} {ps : String} {af : Array Edge} {dst : Option Tmp}
theorem Y_min3 {t : Array TypeId} {x y z : Operand} {k : IntKind} {i j l m : Int} (hx : ev S x = some (.int k i)) (hy : ev S y = some (.int k j)) (hz : ev S z = some (.int k l)) (hm : min (min i j) l = m) :
    Y P S L ⟨dst, .call ⟨.builtin .min, #[x, y, z], t⟩, ty, ps, af, none⟩ (.int k m) := by
  subst hm
  refine ⟨nofun, fun _ _ a w hk _ => ?_⟩
  by_cases h1 : j < i <;> by_cases h2 : l < (min i j)
  all_goals
    have e1 : min i j = if j < i then j else i := by split <;> omega
    have e2 : min (min i j) l = if l < min i j then l else min i j := by split <;> omega
    rw [e2, e1]
    rw [e1] at h2
    simp only [h1, if_true, if_false] at h2 ⊢
    simp [execOp, resolve, invoke, builtin, Builtin.min_, Builtin.min2, hk.ev hx, hk.ev hy, hk.ev hz, h1, h2]
theorem T_callv0A {r : Option Nat} {Q : Exit → Act → World → Prop} {l0 rest : List Oper} {d : Nat} {f : FuncId} [hf : FnT P f] {g : Operand} {xs : List Operand} {tys : Array TypeId} {vs : List Value} {A F : List Asn} {v : Value} {B : List Asn → List Asn} (hg : ev S g = some (.func (.func f) #[] #[]))
    (hx : evs S xs = some vs) (hlt : Nat.blt d n = true) (hp : Picks A L F) (hc : CtA P f vs A v B) {ds : List Deferred} (h : H n ds ((d, v) :: S) (B F) (TL r P l0 Q rest)) :
    H n ds S L (TL r P l0 Q (⟨some d, .call ⟨.value g, xs.toArray, tys⟩, ty, ps, af, none⟩ :: rest)) :=
  T_callvA (cs := []) hg hx hlt hp (by rw [List.append_nil]; exact hc) h
end Go.SL
namespace Go.Proofs
open Go Go.SL Go.W13
attribute [local irreducible] H W TL XL Y cl mp slc ro tq line pool coll
set_option maxRecDepth 20000
set_option maxHeartbeats 1000000
theorem within_t {n a b : Int} (h1 : a ≤ n) (h2 : n ≤ b) : CtA Try.prog 119 [i64v n, i64v a, i64v b] [] (.bool true) fun F => F := by
  intro F; simp only [List.cons_append, List.nil_append]; refine Ct_of Try.func119 rfl (n := 15) rfl rfl ?_
  repeat (first
    | refine H_seq ?_ | refine H_block ?_ | refine H_region ?_ | refine TL_nil ?_ | refine N_then ?_ | refine N_block ?_ | refine H_skip ?_ | refine H_ret ?_ | refine R_then ?_ | refine R_block ?_ | refine H_exit ?_
    | refine X_then ?_ | refine X_block_eq ?_ | refine X_block_ne rfl ?_ | refine H_cond_t rfl ?_ | refine H_cond_f rfl ?_
    | refine TL_y (by first | exact Y_move rfl | exact Y_assign rfl | exact Y_leqd rfl rfl (by first | exact decide_eq_true (by omega) | exact decide_eq_false (by omega)) | exact Y_leq rfl rfl | exact Y_geqd rfl rfl (by first | exact decide_eq_true (by omega) | exact decide_eq_false (by omega)) | exact Y_geq rfl rfl | exact Y_pick_t rfl rfl | exact Y_pick_f rfl rfl | fail) rfl ?_
    | refine TLg_run rfl rfl ?_ | refine TLg_skip rfl rfl rfl rfl ?_
    | exact E_fin1 (.inl rfl) rfl rfl rfl (by (repeat (first | exact .nil | exact .refl _ | exact .h | apply Pick.t | apply Picks.cons | apply Picks.skip)); done)
    | exact E_fin1 (.inr rfl) rfl rfl rfl (by (repeat (first | exact .nil | exact .refl _ | exact .h | apply Pick.t | apply Picks.cons | apply Picks.skip)); done)
    | exact E_fin2 (.inl rfl) rfl rfl rfl rfl (by (repeat (first | exact .nil | exact .refl _ | exact .h | apply Pick.t | apply Picks.cons | apply Picks.skip)); done)
    | exact E_fin2 (.inr rfl) rfl rfl rfl rfl (by (repeat (first | exact .nil | exact .refl _ | exact .h | apply Pick.t | apply Picks.cons | apply Picks.skip)); done)
    | exact E_fin3 (.inl rfl) rfl rfl rfl rfl rfl (by (repeat (first | exact .nil | exact .refl _ | exact .h | apply Pick.t | apply Picks.cons | apply Picks.skip)); done)
    | exact E_fin3 (.inr rfl) rfl rfl rfl rfl rfl (by (repeat (first | exact .nil | exact .refl _ | exact .h | apply Pick.t | apply Picks.cons | apply Picks.skip)); done)
    | exact E_fin0 (.inl rfl) rfl (by (repeat (first | exact .nil | exact .refl _ | exact .h | apply Pick.t | apply Picks.cons | apply Picks.skip)); done)
    | exact E_fin0 (.inr rfl) rfl (by (repeat (first | exact .nil | exact .refl _ | exact .h | apply Pick.t | apply Picks.cons | apply Picks.skip)); done) | fail)
theorem within_f {n a b : Int} (h1 : n < a ∨ b < n) : CtA Try.prog 119 [i64v n, i64v a, i64v b] [] (.bool false) fun F => F := by
  intro F; simp only [List.cons_append, List.nil_append]; refine Ct_of Try.func119 rfl (n := 15) rfl rfl ?_
  by_cases h : a ≤ n
  · repeat (first
      | refine H_seq ?_ | refine H_block ?_ | refine H_region ?_ | refine TL_nil ?_ | refine N_then ?_ | refine N_block ?_ | refine H_skip ?_ | refine H_ret ?_ | refine R_then ?_ | refine R_block ?_ | refine H_exit ?_
      | refine X_then ?_ | refine X_block_eq ?_ | refine X_block_ne rfl ?_ | refine H_cond_t rfl ?_ | refine H_cond_f rfl ?_
      | refine TL_y (by first | exact Y_move rfl | exact Y_assign rfl | exact Y_leqd rfl rfl (by first | exact decide_eq_true (by omega) | exact decide_eq_false (by omega)) | exact Y_leq rfl rfl | exact Y_geqd rfl rfl (by first | exact decide_eq_true (by omega) | exact decide_eq_false (by omega)) | exact Y_geq rfl rfl | exact Y_pick_t rfl rfl | exact Y_pick_f rfl rfl | fail) rfl ?_
      | refine TLg_run rfl rfl ?_ | refine TLg_skip rfl rfl rfl rfl ?_
      | exact E_fin1 (.inl rfl) rfl rfl rfl (by (repeat (first | exact .nil | exact .refl _ | exact .h | apply Pick.t | apply Picks.cons | apply Picks.skip)); done)
      | exact E_fin1 (.inr rfl) rfl rfl rfl (by (repeat (first | exact .nil | exact .refl _ | exact .h | apply Pick.t | apply Picks.cons | apply Picks.skip)); done)
      | exact E_fin2 (.inl rfl) rfl rfl rfl rfl (by (repeat (first | exact .nil | exact .refl _ | exact .h | apply Pick.t | apply Picks.cons | apply Picks.skip)); done)
      | exact E_fin2 (.inr rfl) rfl rfl rfl rfl (by (repeat (first | exact .nil | exact .refl _ | exact .h | apply Pick.t | apply Picks.cons | apply Picks.skip)); done)
      | exact E_fin3 (.inl rfl) rfl rfl rfl rfl rfl (by (repeat (first | exact .nil | exact .refl _ | exact .h | apply Pick.t | apply Picks.cons | apply Picks.skip)); done)
      | exact E_fin3 (.inr rfl) rfl rfl rfl rfl rfl (by (repeat (first | exact .nil | exact .refl _ | exact .h | apply Pick.t | apply Picks.cons | apply Picks.skip)); done)
      | exact E_fin0 (.inl rfl) rfl (by (repeat (first | exact .nil | exact .refl _ | exact .h | apply Pick.t | apply Picks.cons | apply Picks.skip)); done)
      | exact E_fin0 (.inr rfl) rfl (by (repeat (first | exact .nil | exact .refl _ | exact .h | apply Pick.t | apply Picks.cons | apply Picks.skip)); done) | fail)
  · repeat (first
      | refine H_seq ?_ | refine H_block ?_ | refine H_region ?_ | refine TL_nil ?_ | refine N_then ?_ | refine N_block ?_ | refine H_skip ?_ | refine H_ret ?_ | refine R_then ?_ | refine R_block ?_ | refine H_exit ?_
      | refine X_then ?_ | refine X_block_eq ?_ | refine X_block_ne rfl ?_ | refine H_cond_t rfl ?_ | refine H_cond_f rfl ?_
      | refine TL_y (by first | exact Y_move rfl | exact Y_assign rfl | exact Y_leqd rfl rfl (by first | exact decide_eq_true (by omega) | exact decide_eq_false (by omega)) | exact Y_leq rfl rfl | exact Y_geqd rfl rfl (by first | exact decide_eq_true (by omega) | exact decide_eq_false (by omega)) | exact Y_geq rfl rfl | exact Y_pick_t rfl rfl | exact Y_pick_f rfl rfl | fail) rfl ?_
      | refine TLg_run rfl rfl ?_ | refine TLg_skip rfl rfl rfl rfl ?_
      | exact E_fin1 (.inl rfl) rfl rfl rfl (by (repeat (first | exact .nil | exact .refl _ | exact .h | apply Pick.t | apply Picks.cons | apply Picks.skip)); done)
      | exact E_fin1 (.inr rfl) rfl rfl rfl (by (repeat (first | exact .nil | exact .refl _ | exact .h | apply Pick.t | apply Picks.cons | apply Picks.skip)); done)
      | exact E_fin2 (.inl rfl) rfl rfl rfl rfl (by (repeat (first | exact .nil | exact .refl _ | exact .h | apply Pick.t | apply Picks.cons | apply Picks.skip)); done)
      | exact E_fin2 (.inr rfl) rfl rfl rfl rfl (by (repeat (first | exact .nil | exact .refl _ | exact .h | apply Pick.t | apply Picks.cons | apply Picks.skip)); done)
      | exact E_fin3 (.inl rfl) rfl rfl rfl rfl rfl (by (repeat (first | exact .nil | exact .refl _ | exact .h | apply Pick.t | apply Picks.cons | apply Picks.skip)); done)
      | exact E_fin3 (.inr rfl) rfl rfl rfl rfl rfl (by (repeat (first | exact .nil | exact .refl _ | exact .h | apply Pick.t | apply Picks.cons | apply Picks.skip)); done)
      | exact E_fin0 (.inl rfl) rfl (by (repeat (first | exact .nil | exact .refl _ | exact .h | apply Pick.t | apply Picks.cons | apply Picks.skip)); done)
      | exact E_fin0 (.inr rfl) rfl (by (repeat (first | exact .nil | exact .refl _ | exact .h | apply Pick.t | apply Picks.cons | apply Picks.skip)); done) | fail)
def cfgV (bl cap mr hi cl : Int) : Value := .agg (List.toArray [i64v bl, i64v cap, i64v mr, i64v hi, i64v cl])
theorem may_t {bl cap mr hi cl : Int} (h : W13.may bl cap mr hi cl = true) : CtA Try.prog 60 [cfgV bl cap mr hi cl] [] (.bool true) fun F => F := by
  simp only [W13.may, decide_eq_true_eq] at h
  unfold cfgV
  intro F; simp only [List.cons_append, List.nil_append]; refine Ct_of Try.func60 rfl (n := 40) rfl rfl ?_
  repeat (first
    | refine H_seq ?_ | refine H_block ?_ | refine H_region ?_ | refine TL_nil ?_ | refine N_then ?_ | refine N_block ?_ | refine H_skip ?_ | refine H_ret ?_ | refine R_then ?_ | refine R_block ?_ | refine H_exit ?_
    | refine X_then ?_ | refine X_block_eq ?_ | refine X_block_ne rfl ?_ | refine H_cond_t rfl ?_ | refine H_cond_f rfl ?_
    | refine TL_y (by first | exact Y_move rfl | exact Y_assign rfl | exact Y_fieldAddr rfl | exact Y_load rfl (Vl_cl (by (repeat (first | exact .h | apply Pick.t)); done) rfl) | exact Y_load rfl (by assumption) | exact Y_loadAt rfl (by (repeat (first | exact .h | apply Pick.t)); done) (by rfl) | exact Y_sub' rfl rfl (w64 (by omega) (by omega)) | exact Y_sub' rfl rfl (wu64 (by omega) (by omega)) | exact Y_pick_t rfl rfl | exact Y_pick_f rfl rfl | exact Y_min2 rfl rfl | fail) rfl ?_
    | refine TLg_run rfl rfl ?_ | refine TLg_skip rfl rfl rfl rfl ?_ | refine T_box rfl rfl fun p1 => ?_ | refine T_callv0A rfl rfl rfl .nil (within_t (by omega) (by omega)) ?_
    | (refine TL_y (Y_min3 rfl rfl rfl rfl) rfl ?_) | exact E_fin1 (.inl rfl) rfl rfl rfl (by (repeat (first | exact .nil | exact .refl _ | exact .h | apply Pick.t | apply Picks.cons | apply Picks.skip)); done)
    | exact E_fin1 (.inr rfl) rfl rfl rfl (by (repeat (first | exact .nil | exact .refl _ | exact .h | apply Pick.t | apply Picks.cons | apply Picks.skip)); done)
    | exact E_fin2 (.inl rfl) rfl rfl rfl rfl (by (repeat (first | exact .nil | exact .refl _ | exact .h | apply Pick.t | apply Picks.cons | apply Picks.skip)); done)
    | exact E_fin2 (.inr rfl) rfl rfl rfl rfl (by (repeat (first | exact .nil | exact .refl _ | exact .h | apply Pick.t | apply Picks.cons | apply Picks.skip)); done)
    | exact E_fin3 (.inl rfl) rfl rfl rfl rfl rfl (by (repeat (first | exact .nil | exact .refl _ | exact .h | apply Pick.t | apply Picks.cons | apply Picks.skip)); done)
    | exact E_fin3 (.inr rfl) rfl rfl rfl rfl rfl (by (repeat (first | exact .nil | exact .refl _ | exact .h | apply Pick.t | apply Picks.cons | apply Picks.skip)); done)
    | exact E_fin0 (.inl rfl) rfl (by (repeat (first | exact .nil | exact .refl _ | exact .h | apply Pick.t | apply Picks.cons | apply Picks.skip)); done)
    | exact E_fin0 (.inr rfl) rfl (by (repeat (first | exact .nil | exact .refl _ | exact .h | apply Pick.t | apply Picks.cons | apply Picks.skip)); done) | fail)
theorem may_f {bl cap mr hi cl : Int} (hr : ∀ x ∈ [bl, cap, mr, hi, cl], -9223372036854775808 ≤ x ∧ x ≤ 9223372036854775807) (h : W13.may bl cap mr hi cl = false) : CtA Try.prog 60 [cfgV bl cap mr hi cl] [] (.bool false) fun F => F := by
  simp only [W13.may, decide_eq_false_iff_not] at h
  have hr2 := hr cap (by simp)
  unfold cfgV
  intro F; simp only [List.cons_append, List.nil_append]; refine Ct_of Try.func60 rfl (n := 40) rfl rfl ?_
  by_cases h1 : 1 ≤ bl ∧ bl ≤ 64
  · by_cases h2 : 2 ≤ cap ∧ cap ≤ 64
    · by_cases h3 : 1 ≤ mr ∧ mr ≤ min (min 16 bl) (cap - 1)
      · by_cases h4 : 1 ≤ hi ∧ hi ≤ cap
        · repeat (first
            | refine H_seq ?_ | refine H_block ?_ | refine H_region ?_ | refine TL_nil ?_ | refine N_then ?_ | refine N_block ?_ | refine H_skip ?_ | refine H_ret ?_ | refine R_then ?_ | refine R_block ?_
            | refine H_exit ?_ | refine X_then ?_ | refine X_block_eq ?_ | refine X_block_ne rfl ?_ | refine H_cond_t rfl ?_ | refine H_cond_f rfl ?_
            | refine TL_y (by first | exact Y_move rfl | exact Y_assign rfl | exact Y_fieldAddr rfl | exact Y_load rfl (Vl_cl (by (repeat (first | exact .h | apply Pick.t)); done) rfl) | exact Y_load rfl (by assumption) | exact Y_loadAt rfl (by (repeat (first | exact .h | apply Pick.t)); done) (by rfl) | exact Y_sub' rfl rfl (w64 (by omega) (by omega)) | exact Y_sub' rfl rfl (wu64 (by omega) (by omega)) | exact Y_pick_t rfl rfl | exact Y_pick_f rfl rfl | exact Y_min2 rfl rfl | fail) rfl ?_
            | refine TLg_run rfl rfl ?_ | refine TLg_skip rfl rfl rfl rfl ?_ | refine T_box rfl rfl fun p1 => ?_ | refine T_callv0A rfl rfl rfl .nil (within_t (by omega) (by omega)) ?_
            | refine T_callv0A rfl rfl rfl .nil (within_f (by omega)) ?_ | (refine TL_y (Y_min3 rfl rfl rfl rfl) rfl ?_)
            | exact E_fin1 (.inl rfl) rfl rfl rfl (by (repeat (first | exact .nil | exact .refl _ | exact .h | apply Pick.t | apply Picks.cons | apply Picks.skip)); done)
            | exact E_fin1 (.inr rfl) rfl rfl rfl (by (repeat (first | exact .nil | exact .refl _ | exact .h | apply Pick.t | apply Picks.cons | apply Picks.skip)); done)
            | exact E_fin2 (.inl rfl) rfl rfl rfl rfl (by (repeat (first | exact .nil | exact .refl _ | exact .h | apply Pick.t | apply Picks.cons | apply Picks.skip)); done)
            | exact E_fin2 (.inr rfl) rfl rfl rfl rfl (by (repeat (first | exact .nil | exact .refl _ | exact .h | apply Pick.t | apply Picks.cons | apply Picks.skip)); done)
            | exact E_fin3 (.inl rfl) rfl rfl rfl rfl rfl (by (repeat (first | exact .nil | exact .refl _ | exact .h | apply Pick.t | apply Picks.cons | apply Picks.skip)); done)
            | exact E_fin3 (.inr rfl) rfl rfl rfl rfl rfl (by (repeat (first | exact .nil | exact .refl _ | exact .h | apply Pick.t | apply Picks.cons | apply Picks.skip)); done)
            | exact E_fin0 (.inl rfl) rfl (by (repeat (first | exact .nil | exact .refl _ | exact .h | apply Pick.t | apply Picks.cons | apply Picks.skip)); done)
            | exact E_fin0 (.inr rfl) rfl (by (repeat (first | exact .nil | exact .refl _ | exact .h | apply Pick.t | apply Picks.cons | apply Picks.skip)); done) | fail)
        · repeat (first
            | refine H_seq ?_ | refine H_block ?_ | refine H_region ?_ | refine TL_nil ?_ | refine N_then ?_ | refine N_block ?_ | refine H_skip ?_ | refine H_ret ?_ | refine R_then ?_ | refine R_block ?_
            | refine H_exit ?_ | refine X_then ?_ | refine X_block_eq ?_ | refine X_block_ne rfl ?_ | refine H_cond_t rfl ?_ | refine H_cond_f rfl ?_
            | refine TL_y (by first | exact Y_move rfl | exact Y_assign rfl | exact Y_fieldAddr rfl | exact Y_load rfl (Vl_cl (by (repeat (first | exact .h | apply Pick.t)); done) rfl) | exact Y_load rfl (by assumption) | exact Y_loadAt rfl (by (repeat (first | exact .h | apply Pick.t)); done) (by rfl) | exact Y_sub' rfl rfl (w64 (by omega) (by omega)) | exact Y_sub' rfl rfl (wu64 (by omega) (by omega)) | exact Y_pick_t rfl rfl | exact Y_pick_f rfl rfl | exact Y_min2 rfl rfl | fail) rfl ?_
            | refine TLg_run rfl rfl ?_ | refine TLg_skip rfl rfl rfl rfl ?_ | refine T_box rfl rfl fun p1 => ?_ | refine T_callv0A rfl rfl rfl .nil (within_t (by omega) (by omega)) ?_
            | refine T_callv0A rfl rfl rfl .nil (within_f (by omega)) ?_ | (refine TL_y (Y_min3 rfl rfl rfl rfl) rfl ?_)
            | exact E_fin1 (.inl rfl) rfl rfl rfl (by (repeat (first | exact .nil | exact .refl _ | exact .h | apply Pick.t | apply Picks.cons | apply Picks.skip)); done)
            | exact E_fin1 (.inr rfl) rfl rfl rfl (by (repeat (first | exact .nil | exact .refl _ | exact .h | apply Pick.t | apply Picks.cons | apply Picks.skip)); done)
            | exact E_fin2 (.inl rfl) rfl rfl rfl rfl (by (repeat (first | exact .nil | exact .refl _ | exact .h | apply Pick.t | apply Picks.cons | apply Picks.skip)); done)
            | exact E_fin2 (.inr rfl) rfl rfl rfl rfl (by (repeat (first | exact .nil | exact .refl _ | exact .h | apply Pick.t | apply Picks.cons | apply Picks.skip)); done)
            | exact E_fin3 (.inl rfl) rfl rfl rfl rfl rfl (by (repeat (first | exact .nil | exact .refl _ | exact .h | apply Pick.t | apply Picks.cons | apply Picks.skip)); done)
            | exact E_fin3 (.inr rfl) rfl rfl rfl rfl rfl (by (repeat (first | exact .nil | exact .refl _ | exact .h | apply Pick.t | apply Picks.cons | apply Picks.skip)); done)
            | exact E_fin0 (.inl rfl) rfl (by (repeat (first | exact .nil | exact .refl _ | exact .h | apply Pick.t | apply Picks.cons | apply Picks.skip)); done)
            | exact E_fin0 (.inr rfl) rfl (by (repeat (first | exact .nil | exact .refl _ | exact .h | apply Pick.t | apply Picks.cons | apply Picks.skip)); done) | fail)
      · repeat (first
          | refine H_seq ?_ | refine H_block ?_ | refine H_region ?_ | refine TL_nil ?_ | refine N_then ?_ | refine N_block ?_ | refine H_skip ?_ | refine H_ret ?_ | refine R_then ?_ | refine R_block ?_
          | refine H_exit ?_ | refine X_then ?_ | refine X_block_eq ?_ | refine X_block_ne rfl ?_ | refine H_cond_t rfl ?_ | refine H_cond_f rfl ?_
          | refine TL_y (by first | exact Y_move rfl | exact Y_assign rfl | exact Y_fieldAddr rfl | exact Y_load rfl (Vl_cl (by (repeat (first | exact .h | apply Pick.t)); done) rfl) | exact Y_load rfl (by assumption) | exact Y_loadAt rfl (by (repeat (first | exact .h | apply Pick.t)); done) (by rfl) | exact Y_sub' rfl rfl (w64 (by omega) (by omega)) | exact Y_sub' rfl rfl (wu64 (by omega) (by omega)) | exact Y_pick_t rfl rfl | exact Y_pick_f rfl rfl | exact Y_min2 rfl rfl | fail) rfl ?_
          | refine TLg_run rfl rfl ?_ | refine TLg_skip rfl rfl rfl rfl ?_ | refine T_box rfl rfl fun p1 => ?_ | refine T_callv0A rfl rfl rfl .nil (within_t (by omega) (by omega)) ?_
          | refine T_callv0A rfl rfl rfl .nil (within_f (by omega)) ?_ | (refine TL_y (Y_min3 rfl rfl rfl rfl) rfl ?_)
          | exact E_fin1 (.inl rfl) rfl rfl rfl (by (repeat (first | exact .nil | exact .refl _ | exact .h | apply Pick.t | apply Picks.cons | apply Picks.skip)); done)
          | exact E_fin1 (.inr rfl) rfl rfl rfl (by (repeat (first | exact .nil | exact .refl _ | exact .h | apply Pick.t | apply Picks.cons | apply Picks.skip)); done)
          | exact E_fin2 (.inl rfl) rfl rfl rfl rfl (by (repeat (first | exact .nil | exact .refl _ | exact .h | apply Pick.t | apply Picks.cons | apply Picks.skip)); done)
          | exact E_fin2 (.inr rfl) rfl rfl rfl rfl (by (repeat (first | exact .nil | exact .refl _ | exact .h | apply Pick.t | apply Picks.cons | apply Picks.skip)); done)
          | exact E_fin3 (.inl rfl) rfl rfl rfl rfl rfl (by (repeat (first | exact .nil | exact .refl _ | exact .h | apply Pick.t | apply Picks.cons | apply Picks.skip)); done)
          | exact E_fin3 (.inr rfl) rfl rfl rfl rfl rfl (by (repeat (first | exact .nil | exact .refl _ | exact .h | apply Pick.t | apply Picks.cons | apply Picks.skip)); done)
          | exact E_fin0 (.inl rfl) rfl (by (repeat (first | exact .nil | exact .refl _ | exact .h | apply Pick.t | apply Picks.cons | apply Picks.skip)); done)
          | exact E_fin0 (.inr rfl) rfl (by (repeat (first | exact .nil | exact .refl _ | exact .h | apply Pick.t | apply Picks.cons | apply Picks.skip)); done) | fail)
    · repeat (first
        | refine H_seq ?_ | refine H_block ?_ | refine H_region ?_ | refine TL_nil ?_ | refine N_then ?_ | refine N_block ?_ | refine H_skip ?_ | refine H_ret ?_ | refine R_then ?_ | refine R_block ?_ | refine H_exit ?_
        | refine X_then ?_ | refine X_block_eq ?_ | refine X_block_ne rfl ?_ | refine H_cond_t rfl ?_ | refine H_cond_f rfl ?_
        | refine TL_y (by first | exact Y_move rfl | exact Y_assign rfl | exact Y_fieldAddr rfl | exact Y_load rfl (Vl_cl (by (repeat (first | exact .h | apply Pick.t)); done) rfl) | exact Y_load rfl (by assumption) | exact Y_loadAt rfl (by (repeat (first | exact .h | apply Pick.t)); done) (by rfl) | exact Y_sub' rfl rfl (w64 (by omega) (by omega)) | exact Y_sub' rfl rfl (wu64 (by omega) (by omega)) | exact Y_pick_t rfl rfl | exact Y_pick_f rfl rfl | exact Y_min2 rfl rfl | fail) rfl ?_
        | refine TLg_run rfl rfl ?_ | refine TLg_skip rfl rfl rfl rfl ?_ | refine T_box rfl rfl fun p1 => ?_ | refine T_callv0A rfl rfl rfl .nil (within_t (by omega) (by omega)) ?_
        | refine T_callv0A rfl rfl rfl .nil (within_f (by omega)) ?_ | (refine TL_y (Y_min3 rfl rfl rfl rfl) rfl ?_)
        | exact E_fin1 (.inl rfl) rfl rfl rfl (by (repeat (first | exact .nil | exact .refl _ | exact .h | apply Pick.t | apply Picks.cons | apply Picks.skip)); done)
        | exact E_fin1 (.inr rfl) rfl rfl rfl (by (repeat (first | exact .nil | exact .refl _ | exact .h | apply Pick.t | apply Picks.cons | apply Picks.skip)); done)
        | exact E_fin2 (.inl rfl) rfl rfl rfl rfl (by (repeat (first | exact .nil | exact .refl _ | exact .h | apply Pick.t | apply Picks.cons | apply Picks.skip)); done)
        | exact E_fin2 (.inr rfl) rfl rfl rfl rfl (by (repeat (first | exact .nil | exact .refl _ | exact .h | apply Pick.t | apply Picks.cons | apply Picks.skip)); done)
        | exact E_fin3 (.inl rfl) rfl rfl rfl rfl rfl (by (repeat (first | exact .nil | exact .refl _ | exact .h | apply Pick.t | apply Picks.cons | apply Picks.skip)); done)
        | exact E_fin3 (.inr rfl) rfl rfl rfl rfl rfl (by (repeat (first | exact .nil | exact .refl _ | exact .h | apply Pick.t | apply Picks.cons | apply Picks.skip)); done)
        | exact E_fin0 (.inl rfl) rfl (by (repeat (first | exact .nil | exact .refl _ | exact .h | apply Pick.t | apply Picks.cons | apply Picks.skip)); done)
        | exact E_fin0 (.inr rfl) rfl (by (repeat (first | exact .nil | exact .refl _ | exact .h | apply Pick.t | apply Picks.cons | apply Picks.skip)); done) | fail)
  · repeat (first
      | refine H_seq ?_ | refine H_block ?_ | refine H_region ?_ | refine TL_nil ?_ | refine N_then ?_ | refine N_block ?_ | refine H_skip ?_ | refine H_ret ?_ | refine R_then ?_ | refine R_block ?_ | refine H_exit ?_
      | refine X_then ?_ | refine X_block_eq ?_ | refine X_block_ne rfl ?_ | refine H_cond_t rfl ?_ | refine H_cond_f rfl ?_
      | refine TL_y (by first | exact Y_move rfl | exact Y_assign rfl | exact Y_fieldAddr rfl | exact Y_load rfl (Vl_cl (by (repeat (first | exact .h | apply Pick.t)); done) rfl) | exact Y_load rfl (by assumption) | exact Y_loadAt rfl (by (repeat (first | exact .h | apply Pick.t)); done) (by rfl) | exact Y_sub' rfl rfl (w64 (by omega) (by omega)) | exact Y_sub' rfl rfl (wu64 (by omega) (by omega)) | exact Y_pick_t rfl rfl | exact Y_pick_f rfl rfl | exact Y_min2 rfl rfl | fail) rfl ?_
      | refine TLg_run rfl rfl ?_ | refine TLg_skip rfl rfl rfl rfl ?_ | refine T_box rfl rfl fun p1 => ?_ | refine T_callv0A rfl rfl rfl .nil (within_t (by omega) (by omega)) ?_
      | refine T_callv0A rfl rfl rfl .nil (within_f (by omega)) ?_ | (refine TL_y (Y_min3 rfl rfl rfl rfl) rfl ?_)
      | exact E_fin1 (.inl rfl) rfl rfl rfl (by (repeat (first | exact .nil | exact .refl _ | exact .h | apply Pick.t | apply Picks.cons | apply Picks.skip)); done)
      | exact E_fin1 (.inr rfl) rfl rfl rfl (by (repeat (first | exact .nil | exact .refl _ | exact .h | apply Pick.t | apply Picks.cons | apply Picks.skip)); done)
      | exact E_fin2 (.inl rfl) rfl rfl rfl rfl (by (repeat (first | exact .nil | exact .refl _ | exact .h | apply Pick.t | apply Picks.cons | apply Picks.skip)); done)
      | exact E_fin2 (.inr rfl) rfl rfl rfl rfl (by (repeat (first | exact .nil | exact .refl _ | exact .h | apply Pick.t | apply Picks.cons | apply Picks.skip)); done)
      | exact E_fin3 (.inl rfl) rfl rfl rfl rfl rfl (by (repeat (first | exact .nil | exact .refl _ | exact .h | apply Pick.t | apply Picks.cons | apply Picks.skip)); done)
      | exact E_fin3 (.inr rfl) rfl rfl rfl rfl rfl (by (repeat (first | exact .nil | exact .refl _ | exact .h | apply Pick.t | apply Picks.cons | apply Picks.skip)); done)
      | exact E_fin0 (.inl rfl) rfl (by (repeat (first | exact .nil | exact .refl _ | exact .h | apply Pick.t | apply Picks.cons | apply Picks.skip)); done)
      | exact E_fin0 (.inr rfl) rfl (by (repeat (first | exact .nil | exact .refl _ | exact .h | apply Pick.t | apply Picks.cons | apply Picks.skip)); done) | fail)
section
variable {FS : List (Option Addr × List Int)} {bl cap mr hi cl : Int}
theorem new_f (hr : ∀ x ∈ [bl, cap, mr, hi, cl], -9223372036854775808 ≤ x ∧ x ≤ 9223372036854775807) (h : W13.may bl cap mr hi cl = false) : CtA Try.prog 16 [cfgV bl cap mr hi cl] [] (.tuple #[.pointer none, i64v 3]) fun F => F := by
  have hmf := may_f hr h
  unfold cfgV at *
  intro F; simp only [List.cons_append, List.nil_append]; refine Ct_of Try.func16 rfl (n := 27) rfl rfl ?_
  repeat (first
    | refine H_seq ?_ | refine H_block ?_ | refine H_region ?_ | refine TL_nil ?_ | refine N_then ?_ | refine N_block ?_ | refine H_skip ?_ | refine H_ret ?_ | refine R_then ?_ | refine R_block ?_ | refine H_exit ?_
    | refine X_then ?_ | refine X_block_eq ?_ | refine X_block_ne rfl ?_ | refine H_cond_t rfl ?_ | refine H_cond_f rfl ?_
    | refine TL_y (by first | exact Y_move rfl | exact Y_assign rfl | exact Y_fieldAddr rfl | exact Y_load rfl (Vl_cl (by (repeat (first | exact .h | apply Pick.t)); done) rfl) | exact Y_load rfl (by assumption) | exact Y_loadAt rfl (by (repeat (first | exact .h | apply Pick.t)); done) (by rfl) | exact Y_ext rfl rfl | exact Y_not rfl | exact Y_neqd rfl rfl (by first | exact decide_eq_true (by omega) | exact decide_eq_false (by omega)) | exact Y_neq rfl rfl | exact Y_neq_nil rfl rfl | exact Y_buildp rfl rfl rfl | fail) rfl ?_
    | refine T_box rfl rfl fun p1 => ?_ | refine T_makeMapp rfl fun b1 => ?_ | refine T_callA rfl rfl .nil hmf ?_
    | exact E_fin1 (.inl rfl) rfl rfl rfl (by (repeat (first | exact .nil | exact .refl _ | exact .h | apply Pick.t | apply Picks.cons | apply Picks.skip)); done)
    | exact E_fin1 (.inr rfl) rfl rfl rfl (by (repeat (first | exact .nil | exact .refl _ | exact .h | apply Pick.t | apply Picks.cons | apply Picks.skip)); done)
    | exact E_fin2 (.inl rfl) rfl rfl rfl rfl (by (repeat (first | exact .nil | exact .refl _ | exact .h | apply Pick.t | apply Picks.cons | apply Picks.skip)); done)
    | exact E_fin2 (.inr rfl) rfl rfl rfl rfl (by (repeat (first | exact .nil | exact .refl _ | exact .h | apply Pick.t | apply Picks.cons | apply Picks.skip)); done)
    | exact E_fin3 (.inl rfl) rfl rfl rfl rfl rfl (by (repeat (first | exact .nil | exact .refl _ | exact .h | apply Pick.t | apply Picks.cons | apply Picks.skip)); done)
    | exact E_fin3 (.inr rfl) rfl rfl rfl rfl rfl (by (repeat (first | exact .nil | exact .refl _ | exact .h | apply Pick.t | apply Picks.cons | apply Picks.skip)); done)
    | exact E_fin0 (.inl rfl) rfl (by (repeat (first | exact .nil | exact .refl _ | exact .h | apply Pick.t | apply Picks.cons | apply Picks.skip)); done)
    | exact E_fin0 (.inr rfl) rfl (by (repeat (first | exact .nil | exact .refl _ | exact .h | apply Pick.t | apply Picks.cons | apply Picks.skip)); done) | fail)
def ls0 (bl cap mr hi cl : Int) : LS := ⟨bl, cap, mr, hi, cl, 1, [], [], [], 0, 0, []⟩
theorem Rel.zero : Rel (ls0 bl cap mr hi cl) (W13.new bl cap mr hi cl) :=
  ⟨rfl, rfl, rfl, rfl, rfl, rfl, rfl, rfl, rfl, rfl, fun _ => rfl, fun _ => rfl, List.nodup_nil⟩
theorem new_t (h : W13.may bl cap mr hi cl = true) : CtE Try.prog 16 [cfgV bl cap mr hi cl] [] (fun _ : Nat => True) (fun y => .tuple #[ptrv y, i64v 0]) fun y F => pline FS y (W13.new bl cap mr hi cl) :: F := by
  have hmt := may_t h
  simp only [W13.may, decide_eq_true_eq] at h
  unfold cfgV at *
  intro F; simp only [List.cons_append, List.nil_append]; refine Ct_of Try.func16 rfl (n := 27) rfl rfl ?_
  repeat (first
    | refine H_seq ?_ | refine H_block ?_ | refine H_region ?_ | refine TL_nil ?_ | refine N_then ?_ | refine N_block ?_ | refine H_skip ?_ | refine H_ret ?_ | refine R_then ?_ | refine R_block ?_ | refine H_exit ?_
    | refine X_then ?_ | refine X_block_eq ?_ | refine X_block_ne rfl ?_ | refine H_cond_t rfl ?_ | refine H_cond_f rfl ?_
    | refine TL_y (by first | exact Y_move rfl | exact Y_assign rfl | exact Y_fieldAddr rfl | exact Y_load rfl (Vl_cl (by (repeat (first | exact .h | apply Pick.t)); done) rfl) | exact Y_load rfl (by assumption) | exact Y_loadAt rfl (by (repeat (first | exact .h | apply Pick.t)); done) (by rfl) | exact Y_ext rfl rfl | exact Y_not rfl | exact Y_neqd rfl rfl (by first | exact decide_eq_true (by omega) | exact decide_eq_false (by omega)) | exact Y_neq rfl rfl | exact Y_neq_nil rfl rfl | exact Y_buildp rfl rfl rfl | fail) rfl ?_
    | refine T_box rfl rfl fun p1 => ?_ | refine T_makeMapp rfl fun b1 => ?_ | refine T_callA rfl rfl .nil hmt ?_ | refine T_callE rfl rfl .nil (led_new (c := cap) (m := hi) (by omega) (by omega)) fun y _ => ?_
    | exact E_fin1 (.inl rfl) rfl rfl rfl (by (repeat (first | exact .nil | exact .refl _ | exact .h | apply Pick.t | apply Picks.cons | apply Picks.skip)); done)
    | exact E_fin1 (.inr rfl) rfl rfl rfl (by (repeat (first | exact .nil | exact .refl _ | exact .h | apply Pick.t | apply Picks.cons | apply Picks.skip)); done)
    | exact E_fin2 (.inl rfl) rfl rfl rfl rfl (by (repeat (first | exact .nil | exact .refl _ | exact .h | apply Pick.t | apply Picks.cons | apply Picks.skip)); done)
    | exact E_fin2 (.inr rfl) rfl rfl rfl rfl (by (repeat (first | exact .nil | exact .refl _ | exact .h | apply Pick.t | apply Picks.cons | apply Picks.skip)); done)
    | exact E_fin3 (.inl rfl) rfl rfl rfl rfl rfl (by (repeat (first | exact .nil | exact .refl _ | exact .h | apply Pick.t | apply Picks.cons | apply Picks.skip)); done)
    | exact E_fin3 (.inr rfl) rfl rfl rfl rfl rfl (by (repeat (first | exact .nil | exact .refl _ | exact .h | apply Pick.t | apply Picks.cons | apply Picks.skip)); done)
    | exact E_fin0 (.inl rfl) rfl (by (repeat (first | exact .nil | exact .refl _ | exact .h | apply Pick.t | apply Picks.cons | apply Picks.skip)); done)
    | exact E_fin0 (.inr rfl) rfl (by (repeat (first | exact .nil | exact .refl _ | exact .h | apply Pick.t | apply Picks.cons | apply Picks.skip)); done) | fail)
  rename_i pc pq
  refine H_to (L' := line FS p1 (ls0 bl cap mr hi cl) :: F) ?_ fun w hs => ?_
  · refine H_plinec Rel.zero .h ?_
    exact X_fin2 p1 (by trivial) (by first | exact .inl rfl | exact .inr rfl) (by rfl) (by rfl) (by rfl) (by rfl) (by (repeat (first | exact .nil | exact .refl _ | exact .h | apply Pick.t | apply Picks.cons | apply Picks.skip)); done)
  · have h1 := slc_nil (e := 36) (sz := 1) (slc_nil (e := 36) (sz := 1) hs)
    have h2 := sat_tqc (p := pq) (xs := []) (last := 1 - 1) (k := 0) (a := none) (c := 0) rfl (by (repeat (first | exact .nil | exact .refl _ | exact .h | apply Pick.t | apply Picks.cons)); done) h1
    exact sat_linec ⟨pq, b1, [], none, 0, y.1, y.2⟩ (fun t => .inl ⟨rfl, rfl⟩) (sat_sub (by (repeat (first | exact .nil | exact .refl _ | exact .h | apply Pick.t | apply Picks.cons | apply Picks.skip)); done) h2)
end
end Go.Proofs
namespace Go.Proofs
open Go Go.SL Go.W13
theorem mset_new {m : List (Int × Value)} {t : Int} {v : Value} (h : t ∉ m.map (·.1)) : mset m t v = m ++ [(t, v)] := by
  unfold mset
  have : m.findIdx? (·.1 == t) = none := by
    rw [List.findIdx?_eq_none_iff]
    intro x hx
    simp only [beq_eq_false_iff_ne, ne_eq]
    exact fun e => h (List.mem_map.2 ⟨x, hx, e⟩)
  rw [this]
theorem lookup_mem {β : Type} : ∀ {m : List (Int × β)} {t : Int} {v : β}, m.lookup t = some v → (t, v) ∈ m
  | [], _, _, h => by cases h
  | y :: m, t, v, h => by
    rw [lookup_cons] at h
    split at h
    · rename_i e; cases h; subst e; simp
    · exact List.mem_cons_of_mem _ (lookup_mem h)
theorem mem_lookup {β : Type} : ∀ {m : List (Int × β)} {t : Int} {v : β}, (m.map (·.1)).Nodup → (t, v) ∈ m → m.lookup t = some v
  | [], _, _, _, h => by cases h
  | y :: m, t, v, hn, h => by
    simp only [List.map_cons, List.nodup_cons] at hn
    rw [lookup_cons]
    rcases List.mem_cons.1 h with rfl | h
    · simp
    · rw [if_neg]
      · exact mem_lookup hn.2 h
      · rintro rfl; exact hn.1 (List.mem_map.2 ⟨_, h, rfl⟩)
theorem lookup_perm {β : Type} {m m' : List (Int × β)} (hp : m'.Perm m) (hn : (m.map (·.1)).Nodup) (t : Int) : m'.lookup t = m.lookup t := by
  have hn' : (m'.map (·.1)).Nodup := (hp.map (·.1)).nodup_iff.2 hn
  cases h : m'.lookup t with
  | some v => exact (mem_lookup hn (hp.mem_iff.1 (lookup_mem h))).symm
  | none =>
    cases h2 : m.lookup t with
    | none => rfl
    | some v => rw [mem_lookup hn' (hp.mem_iff.2 (lookup_mem h2))] at h; cases h
theorem Forms.perm {FS : List (Option Addr × List Int)} {fs : List (Int × List Int)} {M M' : List (Int × Value)} (h : Forms FS fs M) (hp : M'.Perm M) (hn : (M.map (·.1)).Nodup) : Forms FS fs M' := fun t => by
  rw [lookup_perm hp hn]; exact h t
theorem perm_step {α : Type} {M M' A B : List α} {c : α} (h : (M' ++ (A ++ c :: B)).Perm M) : ((M' ++ [c]) ++ (A ++ B)).Perm M := by
  refine List.Perm.trans ?_ h
  rw [List.append_assoc]
  refine List.Perm.append_left M' ?_
  exact (List.perm_middle (a := c) (l₁ := A) (l₂ := B)).symm
attribute [local irreducible] H W TL XL Y cl mp slc ro tq line pool coll rng
set_option maxRecDepth 20000
set_option maxHeartbeats 1000000
section
variable {FS : List (Option Addr × List Int)} {p : Nat} {s : LS}
theorem ln_copy (hq : s.q.length ≤ 100000) (hi : s.ins.length ≤ 100000) : CtE Try.prog 38 [ptrv p] [line FS p s] (fun _ : Nat => True) (fun y => ptrv y) fun y F => line FS p s :: line FS y s :: F := by
  intro F; simp only [List.cons_append, List.nil_append]; refine Ct_of Try.func38 rfl (n := 45) rfl rfl ?_
  refine H_line .h fun o hfm => ?_
  unfold lineC
  refine H_mpkeys (.t (.t .h)) fun hnd => ?_
  repeat (first
    | refine H_seq ?_ | refine H_block ?_ | refine H_region ?_ | refine TL_nil ?_ | refine N_then ?_ | refine N_block ?_ | refine H_skip ?_ | refine H_ret ?_ | refine R_then ?_ | refine R_block ?_ | refine H_exit ?_
    | refine X_then ?_ | refine X_block_eq ?_ | refine X_block_ne rfl ?_ | refine H_cond_t rfl ?_ | refine H_cond_f rfl ?_
    | refine TL_y (by first | exact Y_move rfl | exact Y_assign rfl | exact Y_nilCheck rfl | exact Y_nilCheckF rfl | exact Y_fieldAddr rfl | exact Y_load rfl (Vl_cl (by (repeat (first | exact .h | apply Pick.t)); done) rfl) | exact Y_load rfl (by assumption) | exact Y_loadAt rfl (by (repeat (first | exact .h | apply Pick.t)); done) (by rfl) | exact Y_ext rfl rfl | exact Y_eqld rfl rfl (by first | exact decide_eq_true (by omega) | exact decide_eq_false (by omega)) | exact Y_eql rfl rfl | exact Y_eql_nil rfl rfl | exact Y_slice_eq_nil rfl rfl | exact Y_map_eq_nil rfl rfl | exact Y_entry rfl (by (repeat (first | exact .h | apply Pick.t)); done) | fail) rfl ?_
    | refine T_store rfl rfl rfl (by (repeat (first | exact .h | apply Pick.t)); done) rfl ?_ | refine T_alloc rfl fun p1 => ?_ | refine T_makeMapp rfl fun b1 => ?_
    | refine T_mapUpdate rfl rfl rfl (by (repeat (first | exact .h | apply Pick.t)); done) ?_ | refine T_storeAt rfl rfl (by (repeat (first | exact .h | apply Pick.t)); done) (by rfl) (by rfl) (by rfl) ?_
    | refine T_callE rfl rfl (by (repeat (first | exact .nil | exact .refl _ | exact .h | apply Pick.t | apply Picks.cons)); done) (tq_copy hq) fun y1 _ => ?_
    | refine T_callE rfl rfl (by (repeat (first | exact .nil | exact .refl _ | exact .h | apply Pick.t | apply Picks.cons)); done) led_copy fun y2 _ => ?_
    | refine T_callE rfl rfl (by (repeat (first | exact .nil | exact .refl _ | exact .h | apply Pick.t | apply Picks.cons)); done) (clone_64 (by omega)) fun y3 _ => ?_
    | refine T_range rfl (by (repeat (first | exact .h | apply Pick.t)); done) rfl fun it => ?_
    | refine X_y rfl (by first | exact Y_move rfl | exact Y_assign rfl | exact Y_nilCheck rfl | exact Y_nilCheckF rfl | exact Y_fieldAddr rfl | exact Y_load rfl (Vl_cl (by (repeat (first | exact .h | apply Pick.t)); done) rfl) | exact Y_load rfl (by assumption) | exact Y_loadAt rfl (by (repeat (first | exact .h | apply Pick.t)); done) (by rfl) | exact Y_ext rfl rfl | exact Y_eqld rfl rfl (by first | exact decide_eq_true (by omega) | exact decide_eq_false (by omega)) | exact Y_eql rfl rfl | exact Y_eql_nil rfl rfl | exact Y_slice_eq_nil rfl rfl | exact Y_map_eq_nil rfl rfl | exact Y_entry rfl (by (repeat (first | exact .h | apply Pick.t)); done) | fail) rfl ?_
    | refine X_loud rfl rfl ?_ | refine X_bar rfl ?_ | refine X_next (fun _ h => h) ?_
    | (refine X_next ?_ ?_; · exact fun _ h => sat_sub (by (repeat (first | exact .nil | exact .refl _ | exact .h | apply Pick.t | apply Picks.cons | apply Picks.skip)); done) h) | refine X_next (fun _ _ => sat_nil') ?_
    | refine X_nil ?_
    | refine H_draw (id := 4) 16 _ [(0, false), (1, false), (2, false), (3, false), (5, false), (6, false), (7, false), (8, false), (10, false), (11, false), (12, false), (13, false), (4, true), (9, true), (14, true), (15, false), (16, true), (17, false), (18, true), (19, false), (20, true)] (by kernel_rfl) (fun _ h => h) ?_
    | exact E_fin1 (.inl rfl) rfl rfl rfl (by (repeat (first | exact .nil | exact .refl _ | exact .h | apply Pick.t | apply Picks.cons | apply Picks.skip)); done)
    | exact E_fin1 (.inr rfl) rfl rfl rfl (by (repeat (first | exact .nil | exact .refl _ | exact .h | apply Pick.t | apply Picks.cons | apply Picks.skip)); done)
    | exact E_fin2 (.inl rfl) rfl rfl rfl rfl (by (repeat (first | exact .nil | exact .refl _ | exact .h | apply Pick.t | apply Picks.cons | apply Picks.skip)); done)
    | exact E_fin2 (.inr rfl) rfl rfl rfl rfl (by (repeat (first | exact .nil | exact .refl _ | exact .h | apply Pick.t | apply Picks.cons | apply Picks.skip)); done)
    | exact E_fin3 (.inl rfl) rfl rfl rfl rfl rfl (by (repeat (first | exact .nil | exact .refl _ | exact .h | apply Pick.t | apply Picks.cons | apply Picks.skip)); done)
    | exact E_fin3 (.inr rfl) rfl rfl rfl rfl rfl (by (repeat (first | exact .nil | exact .refl _ | exact .h | apply Pick.t | apply Picks.cons | apply Picks.skip)); done)
    | exact E_fin0 (.inl rfl) rfl (by (repeat (first | exact .nil | exact .refl _ | exact .h | apply Pick.t | apply Picks.cons | apply Picks.skip)); done)
    | exact E_fin0 (.inr rfl) rfl (by (repeat (first | exact .nil | exact .refl _ | exact .h | apply Pick.t | apply Picks.cons | apply Picks.skip)); done) | fail)
  refine H_loopk [0, 3, 35] (ι := List (Int × Value) × List (Int × Value) × Option (Int × Value)) (fun _ => [])
    (fun i => rng it o.mb .u64 o.M i.2.1 i.2.2 :: mp b1 .u64 i.1 :: lineC p1 s ⟨y1, b1, o.M, y3.1, y3.2, y2.1, y2.2⟩ :: tq y1 s.q (s.next - 1) :: slc 36 1 y3.1 s.ins.length y3.2 (s.ins.map u64v) :: ledC y2.1 y2.2 s.cap s.hi s.used s.res :: mp y2.2 .u64 (intsV s.left) ::
      lineC p s o :: tq o.pq s.q (s.next - 1) :: slc 36 1 o.a s.ins.length o.c (s.ins.map u64v) :: ledC o.pl o.ml s.cap s.hi s.used s.res :: mp o.ml .u64 (intsV s.left) :: F)
    (fun i => (i.1 ++ i.2.1).Perm o.M) (fun i => i.2.1.length) ([], o.M, none) (List.Perm.refl _) trivial (fun _ hs => sat_ord (by (repeat (first | exact .nil | exact .refl _ | exact .h | apply Pick.t | apply Picks.cons)); done) hs) ?_
  rintro ⟨M', left, cur⟩ hperm
  simp only at hperm ⊢
  repeat (first
    | refine H_seq ?_ | refine H_block ?_ | refine H_region ?_ | refine TL_nil ?_ | refine N_then ?_ | refine N_block ?_ | refine H_skip ?_ | refine H_ret ?_ | refine R_then ?_ | refine R_block ?_ | refine H_exit ?_
    | refine X_then ?_ | refine X_block_eq ?_ | refine X_block_ne rfl ?_ | refine H_cond_t rfl ?_ | refine H_cond_f rfl ?_
    | refine TL_y (by first | exact Y_move rfl | exact Y_assign rfl | exact Y_nilCheck rfl | exact Y_nilCheckF rfl | exact Y_fieldAddr rfl | exact Y_load rfl (Vl_cl (by (repeat (first | exact .h | apply Pick.t)); done) rfl) | exact Y_load rfl (by assumption) | exact Y_loadAt rfl (by (repeat (first | exact .h | apply Pick.t)); done) (by rfl) | exact Y_ext rfl rfl | exact Y_eqld rfl rfl (by first | exact decide_eq_true (by omega) | exact decide_eq_false (by omega)) | exact Y_eql rfl rfl | exact Y_eql_nil rfl rfl | exact Y_slice_eq_nil rfl rfl | exact Y_map_eq_nil rfl rfl | exact Y_entry rfl (by (repeat (first | exact .h | apply Pick.t)); done) | fail) rfl ?_
    | refine T_store rfl rfl rfl (by (repeat (first | exact .h | apply Pick.t)); done) rfl ?_ | refine T_alloc rfl fun p1 => ?_ | refine T_makeMapp rfl fun b1 => ?_
    | refine T_mapUpdate rfl rfl rfl (by (repeat (first | exact .h | apply Pick.t)); done) ?_ | refine T_storeAt rfl rfl (by (repeat (first | exact .h | apply Pick.t)); done) (by rfl) (by rfl) (by rfl) ?_
    | refine T_next rfl (by (repeat (first | exact .h | apply Pick.t)); done) rfl (fun h0 => ?_) (fun A c B h0 => ?_)
    | refine X_y rfl (by first | exact Y_move rfl | exact Y_assign rfl | exact Y_nilCheck rfl | exact Y_nilCheckF rfl | exact Y_fieldAddr rfl | exact Y_load rfl (Vl_cl (by (repeat (first | exact .h | apply Pick.t)); done) rfl) | exact Y_load rfl (by assumption) | exact Y_loadAt rfl (by (repeat (first | exact .h | apply Pick.t)); done) (by rfl) | exact Y_ext rfl rfl | exact Y_eqld rfl rfl (by first | exact decide_eq_true (by omega) | exact decide_eq_false (by omega)) | exact Y_eql rfl rfl | exact Y_eql_nil rfl rfl | exact Y_slice_eq_nil rfl rfl | exact Y_map_eq_nil rfl rfl | exact Y_entry rfl (by (repeat (first | exact .h | apply Pick.t)); done) | fail) rfl ?_
    | refine X_loud rfl rfl ?_ | refine X_bar rfl ?_ | refine X_next (fun _ h => h) ?_
    | (refine X_next ?_ ?_; · exact fun _ h => sat_sub (by (repeat (first | exact .nil | exact .refl _ | exact .h | apply Pick.t | apply Picks.cons | apply Picks.skip)); done) h) | refine X_next (fun _ _ => sat_nil') ?_
    | refine X_nil ?_
    | refine H_draw (id := 4) 16 _ [(0, false), (1, false), (2, false), (3, false), (5, false), (6, false), (7, false), (8, false), (10, false), (11, false), (12, false), (13, false), (4, true), (9, true), (14, true), (15, false), (16, true), (17, false), (18, true), (19, false), (20, true)] (by kernel_rfl) (fun _ h => h) ?_
    | exact E_fin1 (.inl rfl) rfl rfl rfl (by (repeat (first | exact .nil | exact .refl _ | exact .h | apply Pick.t | apply Picks.cons | apply Picks.skip)); done)
    | exact E_fin1 (.inr rfl) rfl rfl rfl (by (repeat (first | exact .nil | exact .refl _ | exact .h | apply Pick.t | apply Picks.cons | apply Picks.skip)); done)
    | exact E_fin2 (.inl rfl) rfl rfl rfl rfl (by (repeat (first | exact .nil | exact .refl _ | exact .h | apply Pick.t | apply Picks.cons | apply Picks.skip)); done)
    | exact E_fin2 (.inr rfl) rfl rfl rfl rfl (by (repeat (first | exact .nil | exact .refl _ | exact .h | apply Pick.t | apply Picks.cons | apply Picks.skip)); done)
    | exact E_fin3 (.inl rfl) rfl rfl rfl rfl rfl (by (repeat (first | exact .nil | exact .refl _ | exact .h | apply Pick.t | apply Picks.cons | apply Picks.skip)); done)
    | exact E_fin3 (.inr rfl) rfl rfl rfl rfl rfl (by (repeat (first | exact .nil | exact .refl _ | exact .h | apply Pick.t | apply Picks.cons | apply Picks.skip)); done)
    | exact E_fin0 (.inl rfl) rfl (by (repeat (first | exact .nil | exact .refl _ | exact .h | apply Pick.t | apply Picks.cons | apply Picks.skip)); done)
    | exact E_fin0 (.inr rfl) rfl (by (repeat (first | exact .nil | exact .refl _ | exact .h | apply Pick.t | apply Picks.cons | apply Picks.skip)); done) | fail)
  · subst h0
    rw [List.append_nil] at hperm
    repeat (first
      | refine H_seq ?_ | refine H_block ?_ | refine H_region ?_ | refine TL_nil ?_ | refine N_then ?_ | refine N_block ?_ | refine H_skip ?_ | refine H_ret ?_ | refine R_then ?_ | refine R_block ?_ | refine H_exit ?_
      | refine X_then ?_ | refine X_block_eq ?_ | refine X_block_ne rfl ?_ | refine H_cond_t rfl ?_ | refine H_cond_f rfl ?_
      | refine TL_y (by first | exact Y_move rfl | exact Y_assign rfl | exact Y_nilCheck rfl | exact Y_nilCheckF rfl | exact Y_fieldAddr rfl | exact Y_load rfl (Vl_cl (by (repeat (first | exact .h | apply Pick.t)); done) rfl) | exact Y_load rfl (by assumption) | exact Y_loadAt rfl (by (repeat (first | exact .h | apply Pick.t)); done) (by rfl) | exact Y_ext rfl rfl | exact Y_eqld rfl rfl (by first | exact decide_eq_true (by omega) | exact decide_eq_false (by omega)) | exact Y_eql rfl rfl | exact Y_eql_nil rfl rfl | exact Y_slice_eq_nil rfl rfl | exact Y_map_eq_nil rfl rfl | exact Y_entry rfl (by (repeat (first | exact .h | apply Pick.t)); done) | fail) rfl ?_
      | refine T_store rfl rfl rfl (by (repeat (first | exact .h | apply Pick.t)); done) rfl ?_ | refine T_alloc rfl fun p1 => ?_ | refine T_makeMapp rfl fun b1 => ?_
      | refine T_mapUpdate rfl rfl rfl (by (repeat (first | exact .h | apply Pick.t)); done) ?_ | refine T_storeAt rfl rfl (by (repeat (first | exact .h | apply Pick.t)); done) (by rfl) (by rfl) (by rfl) ?_
      | refine X_y rfl (by first | exact Y_move rfl | exact Y_assign rfl | exact Y_nilCheck rfl | exact Y_nilCheckF rfl | exact Y_fieldAddr rfl | exact Y_load rfl (Vl_cl (by (repeat (first | exact .h | apply Pick.t)); done) rfl) | exact Y_load rfl (by assumption) | exact Y_loadAt rfl (by (repeat (first | exact .h | apply Pick.t)); done) (by rfl) | exact Y_ext rfl rfl | exact Y_eqld rfl rfl (by first | exact decide_eq_true (by omega) | exact decide_eq_false (by omega)) | exact Y_eql rfl rfl | exact Y_eql_nil rfl rfl | exact Y_slice_eq_nil rfl rfl | exact Y_map_eq_nil rfl rfl | exact Y_entry rfl (by (repeat (first | exact .h | apply Pick.t)); done) | fail) rfl ?_
      | refine X_loud rfl rfl ?_ | refine X_bar rfl ?_ | refine X_next (fun _ h => h) ?_
      | (refine X_next ?_ ?_; · exact fun _ h => sat_sub (by (repeat (first | exact .nil | exact .refl _ | exact .h | apply Pick.t | apply Picks.cons | apply Picks.skip)); done) h)
      | refine X_next (fun _ _ => sat_nil') ?_ | refine X_nil ?_
      | refine H_draw (id := 4) 16 _ [(0, false), (1, false), (2, false), (3, false), (5, false), (6, false), (7, false), (8, false), (10, false), (11, false), (12, false), (13, false), (4, true), (9, true), (14, true), (15, false), (16, true), (17, false), (18, true), (19, false), (20, true)] (by kernel_rfl) (fun _ h => h) ?_
      | exact E_fin1 (.inl rfl) rfl rfl rfl (by (repeat (first | exact .nil | exact .refl _ | exact .h | apply Pick.t | apply Picks.cons | apply Picks.skip)); done)
      | exact E_fin1 (.inr rfl) rfl rfl rfl (by (repeat (first | exact .nil | exact .refl _ | exact .h | apply Pick.t | apply Picks.cons | apply Picks.skip)); done)
      | exact E_fin2 (.inl rfl) rfl rfl rfl rfl (by (repeat (first | exact .nil | exact .refl _ | exact .h | apply Pick.t | apply Picks.cons | apply Picks.skip)); done)
      | exact E_fin2 (.inr rfl) rfl rfl rfl rfl (by (repeat (first | exact .nil | exact .refl _ | exact .h | apply Pick.t | apply Picks.cons | apply Picks.skip)); done)
      | exact E_fin3 (.inl rfl) rfl rfl rfl rfl rfl (by (repeat (first | exact .nil | exact .refl _ | exact .h | apply Pick.t | apply Picks.cons | apply Picks.skip)); done)
      | exact E_fin3 (.inr rfl) rfl rfl rfl rfl rfl (by (repeat (first | exact .nil | exact .refl _ | exact .h | apply Pick.t | apply Picks.cons | apply Picks.skip)); done)
      | exact E_fin0 (.inl rfl) rfl (by (repeat (first | exact .nil | exact .refl _ | exact .h | apply Pick.t | apply Picks.cons | apply Picks.skip)); done)
      | exact E_fin0 (.inr rfl) rfl (by (repeat (first | exact .nil | exact .refl _ | exact .h | apply Pick.t | apply Picks.cons | apply Picks.skip)); done) | fail)
    refine H_to (L' := line FS p s :: line FS p1 s :: F) ?_ fun w hs => ?_
    · exact X_fin1 p1 (by trivial) (by first | exact .inl rfl | exact .inr rfl) (by rfl) (by rfl) (by rfl) (by (repeat (first | exact .nil | exact .refl _ | exact .h | apply Pick.t | apply Picks.cons | apply Picks.skip)); done)
    · have h1 : sat (mp o.mb .u64 o.M :: _) w := rng_end hs
      have h2 := sat_linec (FS := FS) (p := p) (s := s) o hfm (sat_ord (by (repeat (first | exact .nil | exact .refl _ | exact .h | apply Pick.t | apply Picks.cons)); done) h1)
      exact sat_pick (.t .h) (sat_linec (FS := FS) (p := p1) (s := s) ⟨y1, b1, M', y3.1, y3.2, y2.1, y2.2⟩ (hfm.perm hperm hnd) (sat_ord (by (repeat (first | exact .nil | exact .refl _ | exact .h | apply Pick.t | apply Picks.cons)); done) h2))
  · subst h0
    have hnew : c.1 ∉ M'.map (·.1) := by
      have h1 : ((M' ++ (A ++ c :: B)).map (·.1)).Nodup := (hperm.map (·.1)).nodup_iff.2 hnd
      rw [List.map_append, List.nodup_append] at h1
      intro h2
      exact h1.2.2 c.1 h2 c.1 (by simp) rfl
    have hp2 := perm_step hperm
    unfold lineC
    repeat (first
      | refine H_seq ?_ | refine H_block ?_ | refine H_region ?_ | refine TL_nil ?_ | refine N_then ?_ | refine N_block ?_ | refine H_skip ?_ | refine H_ret ?_ | refine R_then ?_ | refine R_block ?_ | refine H_exit ?_
      | refine X_then ?_ | refine X_block_eq ?_ | refine X_block_ne rfl ?_ | refine H_cond_t rfl ?_ | refine H_cond_f rfl ?_
      | refine TL_y (by first | exact Y_move rfl | exact Y_assign rfl | exact Y_nilCheck rfl | exact Y_nilCheckF rfl | exact Y_fieldAddr rfl | exact Y_load rfl (Vl_cl (by (repeat (first | exact .h | apply Pick.t)); done) rfl) | exact Y_load rfl (by assumption) | exact Y_loadAt rfl (by (repeat (first | exact .h | apply Pick.t)); done) (by rfl) | exact Y_ext rfl rfl | exact Y_eqld rfl rfl (by first | exact decide_eq_true (by omega) | exact decide_eq_false (by omega)) | exact Y_eql rfl rfl | exact Y_eql_nil rfl rfl | exact Y_slice_eq_nil rfl rfl | exact Y_map_eq_nil rfl rfl | exact Y_entry rfl (by (repeat (first | exact .h | apply Pick.t)); done) | fail) rfl ?_
      | refine T_store rfl rfl rfl (by (repeat (first | exact .h | apply Pick.t)); done) rfl ?_ | refine T_alloc rfl fun p1 => ?_ | refine T_makeMapp rfl fun b1 => ?_
      | refine T_mapUpdate rfl rfl rfl (by (repeat (first | exact .h | apply Pick.t)); done) ?_ | refine T_storeAt rfl rfl (by (repeat (first | exact .h | apply Pick.t)); done) (by rfl) (by rfl) (by rfl) ?_
      | refine X_y rfl (by first | exact Y_move rfl | exact Y_assign rfl | exact Y_nilCheck rfl | exact Y_nilCheckF rfl | exact Y_fieldAddr rfl | exact Y_load rfl (Vl_cl (by (repeat (first | exact .h | apply Pick.t)); done) rfl) | exact Y_load rfl (by assumption) | exact Y_loadAt rfl (by (repeat (first | exact .h | apply Pick.t)); done) (by rfl) | exact Y_ext rfl rfl | exact Y_eqld rfl rfl (by first | exact decide_eq_true (by omega) | exact decide_eq_false (by omega)) | exact Y_eql rfl rfl | exact Y_eql_nil rfl rfl | exact Y_slice_eq_nil rfl rfl | exact Y_map_eq_nil rfl rfl | exact Y_entry rfl (by (repeat (first | exact .h | apply Pick.t)); done) | fail) rfl ?_
      | refine X_loud rfl rfl ?_ | refine X_bar rfl ?_ | refine X_next (fun _ h => h) ?_
      | (refine X_next ?_ ?_; · exact fun _ h => sat_sub (by (repeat (first | exact .nil | exact .refl _ | exact .h | apply Pick.t | apply Picks.cons | apply Picks.skip)); done) h)
      | refine X_next (fun _ _ => sat_nil') ?_ | refine X_nil ?_
      | refine H_draw (id := 4) 16 _ [(0, false), (1, false), (2, false), (3, false), (5, false), (6, false), (7, false), (8, false), (10, false), (11, false), (12, false), (13, false), (4, true), (9, true), (14, true), (15, false), (16, true), (17, false), (18, true), (19, false), (20, true)] (by kernel_rfl) (fun _ h => h) ?_
      | exact E_fin1 (.inl rfl) rfl rfl rfl (by (repeat (first | exact .nil | exact .refl _ | exact .h | apply Pick.t | apply Picks.cons | apply Picks.skip)); done)
      | exact E_fin1 (.inr rfl) rfl rfl rfl (by (repeat (first | exact .nil | exact .refl _ | exact .h | apply Pick.t | apply Picks.cons | apply Picks.skip)); done)
      | exact E_fin2 (.inl rfl) rfl rfl rfl rfl (by (repeat (first | exact .nil | exact .refl _ | exact .h | apply Pick.t | apply Picks.cons | apply Picks.skip)); done)
      | exact E_fin2 (.inr rfl) rfl rfl rfl rfl (by (repeat (first | exact .nil | exact .refl _ | exact .h | apply Pick.t | apply Picks.cons | apply Picks.skip)); done)
      | exact E_fin3 (.inl rfl) rfl rfl rfl rfl rfl (by (repeat (first | exact .nil | exact .refl _ | exact .h | apply Pick.t | apply Picks.cons | apply Picks.skip)); done)
      | exact E_fin3 (.inr rfl) rfl rfl rfl rfl rfl (by (repeat (first | exact .nil | exact .refl _ | exact .h | apply Pick.t | apply Picks.cons | apply Picks.skip)); done)
      | exact E_fin0 (.inl rfl) rfl (by (repeat (first | exact .nil | exact .refl _ | exact .h | apply Pick.t | apply Picks.cons | apply Picks.skip)); done)
      | exact E_fin0 (.inr rfl) rfl (by (repeat (first | exact .nil | exact .refl _ | exact .h | apply Pick.t | apply Picks.cons | apply Picks.skip)); done) | fail)
    rw [mset_new hnew]
    exact N_rk (i := (M', A ++ c :: B, cur)) (M' ++ [c], A ++ B, some c) hp2 (by simp) trivial ⟨rfl, rfl, rfl, trivial⟩ fun _ hs => sat_ord (by (repeat (first | exact .nil | exact .refl _ | exact .h | apply Pick.t | apply Picks.cons)); done) hs
end
end Go.Proofs
namespace Go.SL
variable {P : Program}
theorem CtE.of0 {α : Type} {f : FuncId} {args : List Value} {A : List Asn} {v : Value} {B : List Asn → List Asn} {φ : α → Prop} {v' : α → Value} {B' : α → List Asn → List Asn} (x : α) (h : CtA P f args A v B) (hφ : φ x) (hv : v = v' x) (hB : ∀ F w, sat (B F) w → sat (B' x F) w) : CtE P f args A φ v' B' := fun F w hs => by
  refine (h F w hs).mono ?_
  rintro e w' ⟨u, L', e1, ⟨e2, e3⟩, e4⟩
  subst e3
  exact ⟨u, _, e1, ⟨x, hφ, e2.trans hv, rfl⟩, hB F w' e4⟩
theorem CtE.post {α β : Type} {f : FuncId} {args : List Value} {A : List Asn} {φ : α → Prop} {v : α → Value} {B : α → List Asn → List Asn} {φ' : β → Prop} {v' : β → Value} {B' : β → List Asn → List Asn} (k : α → β) (h : CtE P f args A φ v B) (hφ : ∀ x, φ x → φ' (k x)) (hv : ∀ x, φ x → v x = v' (k x)) (hB : ∀ x F w, φ x → sat (B x F) w → sat (B' (k x) F) w) : CtE P f args A φ' v' B' := fun F w hs => by
  refine (h F w hs).mono ?_
  rintro e w' ⟨u, L', e1, ⟨x, hx, e2, e3⟩, e4⟩
  subst e3
  exact ⟨u, _, e1, ⟨k x, hφ x hx, e2.trans (hv x hx), rfl⟩, hB x F w' hx e4⟩
theorem CtA.frame {f : FuncId} {args : List Value} {A : List Asn} {v : Value} {B : List Asn → List Asn} (h : CtA P f args A v B) (C : List Asn) : CtA P f args (A ++ C) v fun F => B (C ++ F) := fun F => by
  rw [List.append_assoc]; exact h (C ++ F)
end Go.SL
namespace Go.Proofs
open Go Go.SL Go.W13
section
variable {s : LS} {r : RS}
theorem Rel.insLen (h : Rel s r) (ok : Ok r) : s.ins.length ≤ 64 := by
  have := ok.insLen; rw [h.ins]; simp only [RS.inn, List.length_map]; omega
theorem Rel.qLen (h : Rel s r) (ok : Ok r) : (s.q.length : Int) < r.next := by
  have := ok.waitsLen; rw [h.q]; simp only [RS.waiting, List.length_map]; omega
theorem Rel.inn (h : Rel s r) {t : Int} : t ∈ s.ins ↔ ∃ w, r.find t = some w := by rw [h.ins]; exact find_inn
theorem Rel.notin (h : Rel s r) {t : Int} (hf : r.find t = none) : t ∉ s.ins := by
  rw [h.inn, hf]; rintro ⟨w, hw⟩; cases hw
theorem Rel.lft (h : Rel s r) {t : Int} {w : Who} (hf : r.find t = some w) : s.left.lookup t = some w.left := by rw [h.left, hf]; rfl
theorem Rel.lft0 (h : Rel s r) {t : Int} (hf : r.find t = none) : s.left.lookup t = none := by rw [h.left, hf]; rfl
theorem Rel.frm (h : Rel s r) {t : Int} {w : Who} (hf : r.find t = some w) : s.fs.lookup t = some w.form := by
  rw [h.fs, find_append]; unfold RS.find at hf; rw [hf]; rfl
theorem find_self {l : List Who} {w : Who} (hn : (l.map (·.t)).Nodup) (hw : w ∈ l) : l.find? (fun x => decide (x.t = w.t)) = some w := by
  cases h : l.find? (fun x => decide (x.t = w.t)) with
  | none => have := List.find?_eq_none.1 h w hw; simp at this
  | some x =>
    have h1 := List.find?_some h
    have h2 := List.mem_of_find?_eq_some h
    rw [uniq hn h2 hw (by simpa using h1)]
theorem Rel.frm' (h : Rel s r) (ok : Ok r) {w : Who} (hw : w ∈ r.ins ++ r.waits) : s.fs.lookup w.t = some w.form := by
  rw [h.fs, find_self ok.nodup hw]; rfl
theorem Rel.frm0 (h : Rel s r) (ok : Ok r) : s.fs.lookup 0 = none := by
  rw [h.fs]
  have : (r.ins ++ r.waits).find? (fun w => decide (w.t = 0)) = none := by
    rw [List.find?_eq_none]; intro w hw; have := ok.rng w hw; simp; omega
  rw [this]; rfl
theorem Ok.bound {w : Who} (ok : Ok r) (hw : w ∈ r.ins) : 1 ≤ w.left ∧ w.left ≤ 64 ∧ w.left ≤ r.resv ∧ r.resv ≤ 64 ∧ 0 ≤ r.used ∧ r.used ≤ 64 := by
  have h1 := (ok.left w hw).1
  have h2 := sum_mem r.ins (fun w hw => (ok.left w hw).1) w hw
  have h3 := ok.used; have h4 := ok.cfg
  unfold RS.resv at *; omega
theorem Rel.done (h : Rel s r) (ok : Ok r) {t : Int} {w : Who} (hf : r.find t = some w) : Rel ((s.app t w.left).out t (w.left - 1)) (r.done t) := by
  have he : r.doneE t = 0 := by unfold RS.doneE; rw [hf]
  have ho := h.out ok hf
  unfold RS.done; rw [if_pos he]
  refine ⟨h.bl, h.cap, h.mr, h.hi, h.cl, h.next, h.q, ho.ins, by show s.used + 1 = r.used + 1; rw [h.used], ?_, ho.fs, ?_, ?_⟩
  · have := ho.res
    show s.res - 1 - (w.left - 1) = _
    have e : s.res - 1 - (w.left - 1) = s.res - w.left := by omega
    rw [e]; exact this
  · intro u
    have := ho.left u
    show (delI (setI s.left t (w.left - 1)) t).lookup u = _
    rw [lookup_delI (keys_setI h.nd).1, lookup_setI]
    have e2 : (s.out t w.left).left.lookup u = (delI s.left t).lookup u := rfl
    rw [e2, lookup_delI h.nd] at this
    by_cases hu : u = t
    · rw [if_pos hu] at this ⊢; exact this
    · rw [if_neg hu] at this ⊢; rw [if_neg hu]; exact this
  · exact (keys_delI (keys_setI h.nd).1).1
theorem Rel.leave (h : Rel s r) (ok : Ok r) {t : Int} {w : Who} (hf : r.find t = some w) (hw : w.told = false) : Rel (s.out t w.left) (r.leave t) := by
  have he : r.leaveE t = 0 := by unfold RS.leaveE; rw [hf]; simp [hw]
  unfold RS.leave; rw [if_pos he]
  exact h.out ok hf
theorem Rel.ent (h : Rel s r) (ok : Ok r) {w : Who} {ws : List Who} (hw : r.waits = w :: ws) (hf : r.fits = true) : Rel (s.ent w.t (ws.map (·.t)) (w.form.length + 1)) r.ent := by
  have hx : r.ent = { r with waits := ws, ins := r.ins ++ [({ w with left := (w.form.length : Int) + 1 } : Who)] } := by unfold RS.ent; rw [hw]; simp only [hf, if_true]
  have hn := ok.nodup
  rw [hw] at hn
  have hni : ∀ x ∈ r.ins, x.t ≠ w.t := by
    rw [List.map_append, List.nodup_append] at hn
    intro x hx e
    exact hn.2.2 x.t (List.mem_map.2 ⟨x, hx, rfl⟩) w.t (by simp) e
  have hfi : r.ins.find? (fun x => decide (x.t = w.t)) = none := by
    rw [List.find?_eq_none]; intro x hx; simpa using hni x hx
  rw [hx]
  refine ⟨h.bl, h.cap, h.mr, h.hi, h.cl, h.next, rfl, ?_, h.used, ?_, ?_, ?_, ?_⟩
  · show s.ins ++ [w.t] = (r.ins ++ [_]).map (fun x : Who => x.t)
    rw [h.ins]; simp [RS.inn]
  · show s.res + _ = ((r.ins ++ [_]).map (fun x : Who => x.left)).sum
    rw [h.res]; simp [RS.resv]
  · intro u
    show s.fs.lookup u = _
    rw [h.fs, hw]
    simp only
    rw [List.append_assoc, find_append, find_append]
    cases r.ins.find? (fun x => decide (x.t = u)) with
    | some x => rfl
    | none =>
      simp only [List.cons_append, List.nil_append, List.find?_cons]
      by_cases hu : w.t = u
      · simp [hu]
      · simp [hu]
  · intro u
    show (setI s.left w.t _).lookup u = _
    rw [lookup_setI]
    unfold RS.find
    simp only
    rw [find_append]
    by_cases hu : u = w.t
    · subst hu; rw [if_pos rfl, hfi]; simp
    · rw [if_neg hu, h.left]
      unfold RS.find
      cases r.ins.find? (fun x => decide (x.t = u)) with
      | some x => rfl
      | none => simp only [List.find?_cons, List.find?_nil]; have : ¬ w.t = u := fun e => hu e.symm
                simp [this]
  · exact (keys_setI h.nd).1
theorem Rel.bgn (h : Rel s r) (ok : Ok r) {set : List Int} (he : formE set r.bl r.mr = 0) : Rel (s.bgn (formOut set r.bl)) (r.bgn set) := by
  have he' : r.bgnE set = 0 := he
  unfold RS.bgn; rw [if_pos he']
  refine ⟨h.bl, h.cap, h.mr, h.hi, h.cl, by show s.next + 1 = r.next + 1; rw [h.next], ?_, h.ins, h.used, h.res, ?_, h.left, h.nd⟩
  · show s.q ++ [s.next] = (r.waits ++ [_]).map (fun x : Who => x.t)
    rw [h.q, h.next]; simp [RS.waiting]
  · intro u
    show ((s.next, _) :: s.fs).lookup u = _
    rw [lookup_cons, h.fs]
    simp only
    rw [← List.append_assoc, find_append (l := r.ins ++ r.waits)]
    by_cases hu : u = s.next
    · rw [if_pos hu]
      have : (r.ins ++ r.waits).find? (fun w => decide (w.t = u)) = none := by
        rw [List.find?_eq_none]; intro w hw; have := ok.rng w hw; have := h.next; simp; omega
      rw [this]
      have e : r.next = u := by rw [hu, h.next]
      simp [e]
    · rw [if_neg hu]
      cases (r.ins ++ r.waits).find? (fun w => decide (w.t = u)) with
      | some x => rfl
      | none => have e : ¬ r.next = u := by rw [← h.next]; exact fun e => hu e.symm
                simp [e]
end
end Go.Proofs
namespace Go.Proofs
open Go Go.SL Go.W13
attribute [local irreducible] H W TL XL Y cl mp slc ro tq line pool coll pline
set_option maxHeartbeats 1000000
section
variable {FS : List (Option Addr × List Int)} {p : Nat} {r : RS}
theorem pl_used : CtA Try.prog 34 [ptrv p] [pline FS p r] (i64v r.used) fun F => pline FS p r :: F :=
  CtA.pl (g := id) (fun s h => by rw [← h.used]; exact ln_used) fun _ h => h
theorem pl_reserved : CtA Try.prog 30 [ptrv p] [pline FS p r] (i64v r.resv) fun F => pline FS p r :: F :=
  CtA.pl (g := id) (fun s h => by rw [← h.res]; exact ln_reserved) fun _ h => h
theorem pl_left {t : Int} : CtA Try.prog 37 [ptrv p, u64v t] [pline FS p r] (.tuple #[i64v (r.leftN t), .bool (r.leftB t)]) fun F => pline FS p r :: F := by
  refine CtA.pl (g := id) (fun s h => ?_) fun _ h => h
  unfold RS.leftN RS.leftB
  cases hf : r.find t with
  | none => exact ln_left_f (h.lft0 hf)
  | some w => exact ln_left_t (h.lft hf)
theorem pl_in (ok : Ok r) : CtE Try.prog 29 [ptrv p] [pline FS p r] (fun _ : Option Addr × Nat => True) (fun y => .slice y.1 r.inn.length y.2) fun y F => slc 36 1 y.1 r.inn.length y.2 (r.inn.map u64v) :: pline FS p r :: F :=
  CtE.pl (g := id) (fun s h => by rw [← h.ins]; exact ln_in (by have := h.insLen ok; omega)) fun _ h => h
theorem pl_freed {k : Int} (ok : Ok r) : CtA Try.prog 35 [ptrv p, i64v k] [pline FS p r] (i64v (r.freedE k)) fun F => pline FS p (r.freed k) :: F := by
  have h1 := ok.used; have h2 := ok.cfg; have h3 := ok.resv
  unfold RS.freed RS.freedE
  by_cases h : k < 0 ∨ r.used < k
  · rw [if_pos h]
    exact CtA.pl (g := id) (fun s hs => ln_freed_no (by rw [hs.used]; exact h)) fun _ h => h
  · rw [if_neg h]
    refine CtA.pl (g := fun s => { s with used := s.used - k }) (fun s hs => ln_freed_ok (by omega) (by rw [hs.used]; omega) (by rw [hs.used]; omega)) fun s hs => ?_
    exact ⟨hs.bl, hs.cap, hs.mr, hs.hi, hs.cl, hs.next, hs.q, hs.ins, by show s.used - k = r.used - k; rw [hs.used], hs.res, hs.fs, hs.left, hs.nd⟩
theorem pl_append {t : Int} (ok : Ok r) : CtA Try.prog 31 [ptrv p, u64v t] [pline FS p r] (i64v (r.appE t)) fun F => pline FS p (r.app t) :: F := by
  rcases appE_cases ok t with ⟨hf, he⟩ | ⟨w, hf, hl, he⟩ | ⟨w, hf, hl, he⟩
  · rw [he, show r.app t = r by unfold RS.app; rw [he]; rfl]
    exact CtA.pl (g := id) (fun s h => ln_append_no (by have := h.insLen ok; omega) (h.notin hf)) fun _ h => h
  · rw [he, show r.app t = r by unfold RS.app; rw [he]; rfl]
    exact CtA.pl (g := id) (fun s h => ln_append_room (by have := h.insLen ok; omega) (h.inn.2 ⟨w, hf⟩) (h.lft hf) (by omega)) fun _ h => h
  · rw [he]
    have hb := Ok.bound ok (find_mem hf).1
    exact CtA.pl (g := fun s => s.app t w.left) (fun s h => ln_append_ok (by have := h.insLen ok; omega) (h.inn.2 ⟨w, hf⟩) (h.lft hf) (by omega) (by rw [h.used]; omega) (by rw [h.res]; omega)) fun _ h => h.app ok hf hl
theorem pl_done {t : Int} (ok : Ok r) : CtA Try.prog 33 [ptrv p, u64v t] [pline FS p r] (i64v (r.doneE t)) fun F => pline FS p (r.done t) :: F := by
  cases hf : r.find t with
  | none =>
    have he : r.doneE t = 110 := by unfold RS.doneE; rw [hf]
    rw [he, show r.done t = r by unfold RS.done; rw [he]; rfl]
    exact CtA.pl (g := id) (fun s h => ln_done_no (by have := h.insLen ok; omega) (h.notin hf)) fun _ h => h
  | some w =>
    have he : r.doneE t = 0 := by unfold RS.doneE; rw [hf]
    rw [he]
    have hb := Ok.bound ok (find_mem hf).1
    exact CtA.pl (g := fun s => (s.app t w.left).out t (w.left - 1)) (fun s h => ln_done_ok (by have := h.insLen ok; omega) (h.inn.2 ⟨w, hf⟩) (h.lft hf) (by omega) (by rw [h.used]; omega) (by rw [h.res]; omega)) fun _ h => h.done ok hf
theorem pl_leave {t : Int} (ok : Ok r) : CtA Try.prog 32 [ptrv p, u64v t] [pline FS p r] (i64v (r.leaveE t)) fun F => pline FS p (r.leave t) :: F := by
  cases hf : r.find t with
  | none =>
    have he : r.leaveE t = 110 := by unfold RS.leaveE; rw [hf]
    rw [he, show r.leave t = r by unfold RS.leave; rw [he]; rfl]
    exact CtA.pl (g := id) (fun s h => ln_leave_no (by have := h.insLen ok; omega) (h.notin hf)) fun _ h => h
  | some w =>
    have hm := (find_mem hf).1
    have hb := Ok.bound ok hm
    have hfm := ok.form w (by simp [hm])
    have hcf := ok.cfg
    have hl := ok.left w hm
    cases hw : w.told with
    | true =>
      have he : r.leaveE t = 180 := by unfold RS.leaveE; rw [hf]; simp [hw]
      rw [he, show r.leave t = r by unfold RS.leave; rw [he]; rfl]
      have hne : w.left ≠ w.form.length + 1 := fun e => by have := hl.2.2.2 e; rw [hw] at this; cases this
      exact CtA.pl (g := id) (fun s h => ln_leave_state (by have := h.insLen ok; omega) (h.inn.2 ⟨w, hf⟩) (h.lft hf) (h.frm hf) (by omega) hne) fun _ h => h
    | false =>
      have he : r.leaveE t = 0 := by unfold RS.leaveE; rw [hf]; simp [hw]
      rw [he]
      exact CtA.pl (g := fun s => s.out t w.left) (fun s h => ln_leave_ok (by have := h.insLen ok; omega) (h.inn.2 ⟨w, hf⟩) (h.lft hf) (h.frm hf) (by omega) (hl.2.2.1 hw) (by rw [h.res]; omega)) fun _ h => h.leave ok hf hw
theorem pl_waiting (ok : Ok r) (hN : r.next ≤ 90000) : CtE Try.prog 25 [ptrv p] [pline FS p r] (fun _ : Option Addr × Nat => True) (fun y => .slice y.1 r.waiting.length y.2) fun y F => slc 36 1 y.1 r.waiting.length y.2 (r.waiting.map u64v) :: pline FS p r :: F :=
  CtE.pl (g := id) (fun s h => by rw [← h.q]; exact ln_waiting (by have := h.qLen ok; omega)) fun _ h => h
theorem pl_first (ok : Ok r) (hN : r.next ≤ 90000) : CtE Try.prog 36 [ptrv p] [pline FS p r, pool FS] (fun _ : Option Addr × Nat => True) (fun y => .tuple #[u64v r.firstT, .slice y.1 r.firstF.length y.2, .bool r.firstB])
    fun y F => slc 3 1 y.1 r.firstF.length y.2 (r.firstF.map i64v) :: pline FS p r :: pool FS :: F := by
  unfold RS.firstT RS.firstF RS.firstB
  cases hw : r.waits with
  | nil =>
    have h0 : CtA Try.prog 36 [ptrv p] [pline FS p r] (.tuple #[u64v 0, .slice none 0 0, .bool false]) fun F => pline FS p r :: F :=
      CtA.pl (g := id) (fun s h => ln_first0 (by rw [h.q]; simp [RS.waiting, hw]) (h.frm0 ok)) fun _ h => h
    exact CtE.of0 (none, 0) (h0.frame [pool FS]) trivial rfl fun F w hs => slc_nil hs
  | cons x xs =>
    dsimp only
    have hm : x ∈ r.ins ++ r.waits := by rw [hw]; simp
    have hfm := ok.form x hm
    have hcf := ok.cfg
    exact CtE.pl (g := id) (fun s h => ln_first (xs := xs.map (·.t)) (by rw [h.q]; simp [RS.waiting, hw]) (by have := h.qLen ok; omega) (h.frm' ok hm) hfm.1 (by omega)) fun _ h => h
theorem pl_fits (ok : Ok r) (hN : r.next ≤ 90000) : CtA Try.prog 28 [ptrv p] [pline FS p r, pool FS] (.bool r.fits) fun F => pline FS p r :: pool FS :: F := by
  unfold RS.fits
  cases hw : r.waits with
  | nil =>
    have h0 : CtA Try.prog 28 [ptrv p] [pline FS p r] (.bool false) fun F => pline FS p r :: F :=
      CtA.pl (g := id) (fun s h => ln_fits0 (by rw [h.q]; simp [RS.waiting, hw]) (h.frm0 ok)) fun _ h => h
    exact h0.frame [pool FS]
  | cons x xs =>
    have hm : x ∈ r.ins ++ r.waits := by rw [hw]; simp
    have hfm := ok.form x hm
    have hcf := ok.cfg; have hu := ok.used; have hrs := ok.resv
    refine CtA.pl (g := id) (B := fun F => pool FS :: F) (fun s h => ?_) fun _ h => h
    rw [← h.used, ← h.res, ← h.cap]
    exact ln_fits (xs := xs.map (·.t)) (by rw [h.q]; simp [RS.waiting, hw]) (by have := h.qLen ok; omega) (h.frm' ok hm) hfm.1 (by omega) (by rw [h.cap]; omega) (by rw [h.used]; omega) (by rw [h.res]; omega) (by rw [h.used, h.res, h.cap]; omega)
theorem pl_enter (ok : Ok r) (hN : r.next ≤ 90000) : CtE Try.prog 27 [ptrv p] [pline FS p r, pool FS] (fun _ : Option Addr × Nat => True) (fun y => .tuple #[u64v r.entT, .slice y.1 r.entF.length y.2, i64v r.entE])
    fun y F => slc 3 1 y.1 r.entF.length y.2 (r.entF.map i64v) :: pline FS p r.ent :: pool FS :: F := by
  cases hw : r.waits with
  | nil =>
    have hb : r.firstB = false := by unfold RS.firstB; rw [hw]
    have he : r.entE = 110 := by unfold RS.entE; rw [hb]; rfl
    have h1 : r.entT = 0 := by unfold RS.entT; rw [he]; rfl
    have h2 : r.entF = [] := by unfold RS.entF; rw [he]; rfl
    have h3 : r.ent = r := by unfold RS.ent; rw [hw]
    rw [h1, h2, h3, he]
    have h0 : CtA Try.prog 27 [ptrv p] [pline FS p r] (.tuple #[u64v 0, .slice none 0 0, i64v 110]) fun F => pline FS p r :: F :=
      CtA.pl (g := id) (fun s h => ln_enter_none (by rw [h.q]; simp [RS.waiting, hw]) (h.frm0 ok)) fun _ h => h
    exact CtE.of0 (none, 0) (h0.frame [pool FS]) trivial rfl fun F w hs => slc_nil hs
  | cons x xs =>
    have hm : x ∈ r.ins ++ r.waits := by rw [hw]; simp
    have hfm := ok.form x hm
    have hcf := ok.cfg; have hu := ok.used; have hrs := ok.resv
    have hrg := ok.rng x hm
    have hb : r.firstB = true := by unfold RS.firstB; rw [hw]
    have hfi : r.find x.t = none := by
      unfold RS.find
      rw [List.find?_eq_none]
      have hn := ok.nodup
      rw [hw, List.map_append, List.nodup_append] at hn
      intro y hy
      have := hn.2.2 y.t (List.mem_map.2 ⟨y, hy, rfl⟩) x.t (by simp)
      simpa using this
    cases hf : r.fits with
    | false =>
      have he : r.entE = 120 := by unfold RS.entE; rw [hb, hf]; rfl
      have h1 : r.entT = 0 := by unfold RS.entT; rw [he]; rfl
      have h2 : r.entF = [] := by unfold RS.entF; rw [he]; rfl
      have h3 : r.ent = r := by unfold RS.ent; rw [hw]; simp [hf]
      rw [h1, h2, h3, he]
      unfold RS.fits at hf
      rw [hw] at hf
      simp only [decide_eq_false_iff_not] at hf
      have h0 : CtA Try.prog 27 [ptrv p] [pline FS p r, pool FS] (.tuple #[u64v 0, .slice none 0 0, i64v 120]) fun F => pline FS p r :: pool FS :: F :=
        CtA.pl (g := id) (B := fun F => pool FS :: F) (fun s h => ln_enter_room (xs := xs.map (·.t)) (form := x.form) (by rw [h.q]; simp [RS.waiting, hw]) (by omega) (by have := h.qLen ok; omega) (h.frm' ok hm) hfm.1 (by omega) (h.lft0 hfi)
          (by rw [h.cap]; omega) (by rw [h.used]; omega) (by rw [h.res]; omega) (by rw [h.used, h.res, h.cap]; omega) (by rw [h.used, h.res, h.cap]; omega)) fun _ h => h
      exact CtE.of0 (none, 0) h0 trivial rfl fun F w hs => slc_nil hs
    | true =>
      have he : r.entE = 0 := by unfold RS.entE; rw [hb, hf]; rfl
      have h1 : r.entT = x.t := by unfold RS.entT RS.firstT; rw [he, hw]; rfl
      have h2 : r.entF = x.form := by unfold RS.entF RS.firstF; rw [he, hw]; rfl
      rw [h1, h2, he]
      have hf' := hf
      unfold RS.fits at hf'
      rw [hw] at hf'
      simp only [decide_eq_true_eq] at hf'
      exact CtE.pl (g := fun s => s.ent x.t (xs.map (·.t)) (x.form.length + 1)) (B := fun _ F => pool FS :: F) (fun s h => ln_enter_ok (xs := xs.map (·.t)) (form := x.form) (by rw [h.q]; simp [RS.waiting, hw]) (by omega) (by have := h.qLen ok; omega) (by have := h.insLen ok; omega) (h.frm' ok hm) hfm.1 (by omega) (h.lft0 hfi)
          (by rw [h.cap]; omega) (by rw [h.used]; omega) (by rw [h.res]; omega) (by rw [h.used, h.res, h.cap]; omega) (by rw [h.used, h.res, h.cap]; omega)) fun _ h => h.ent ok hw hf
theorem formOut_len (set : List Int) {bl : Int} (h : bl ≤ 64) : (formOut set bl).length ≤ 64 := by
  unfold formOut
  refine Nat.le_trans (List.length_filter_le _ _) ?_
  simp; omega
theorem pl_begin {a : Option Addr} {c : Nat} {zs : List Int} {D : Asn} (ok : Ok r) (hN : r.next ≤ 90000) (hk : zs.length ≤ 1000000) (hd : ∀ L, Rd (D :: L) a (zs.map i64v)) :
    CtE Try.prog 24 [ptrv p, .slice a zs.length c] [pline FS p r, pool FS, D] (fun y : (Option Addr × Nat) × List (Option Addr × List Int) => ∀ x ∈ FS, x ∈ y.2) (fun y => .tuple #[u64v (r.bgnT zs), .slice y.1.1 (r.bgnF zs).length y.1.2, i64v (r.bgnE zs)])
    fun y F => slc 3 1 y.1.1 (r.bgnF zs).length y.1.2 ((r.bgnF zs).map i64v) :: pline y.2 p (r.bgn zs) :: pool y.2 :: D :: F := by
  have hcf := ok.cfg
  by_cases he : r.bgnE zs = 0
  · have h1 : r.bgnT zs = r.next := by unfold RS.bgnT; rw [if_pos he]
    have h2 : r.bgnF zs = formOut zs r.bl := by unfold RS.bgnF formF; exact if_pos he
    rw [h1, h2, he]
    have hl := formOut_len zs hcf.1.2
    intro F w hs
    obtain ⟨s, h, hs'⟩ := sat_pline.1 hs
    have := ln_begin_ok (FS := FS) (p := p) (s := s) (a := a) (c := c) (zs := zs) (D := D) (by rw [h.bl]; exact hcf.1) (by rw [h.mr, h.bl]; omega) hk (by rw [h.bl, h.mr]; exact he) (by rw [h.next]; exact ⟨ok.next, by omega⟩) (by have := h.qLen ok; omega) (by rw [h.bl]; omega) hd F w hs'
    rw [h.bl, h.next] at this
    refine this.mono ?_
    rintro e w' ⟨u, L', e1, ⟨y, _, e2, e3⟩, e4⟩
    subst e3
    exact ⟨u, _, e1, ⟨(y.1, (y.2, formOut zs r.bl) :: FS), fun x hx => List.mem_cons_of_mem _ hx, e2, rfl⟩, sat_unpick (.t .h) (sat_pline.2 ⟨_, h.bgn ok he, sat_pick (.t .h) e4⟩)⟩
  · have h1 : r.bgnT zs = 0 := by unfold RS.bgnT; rw [if_neg he]
    have h2 : r.bgnF zs = [] := by unfold RS.bgnF formF; exact if_neg he
    have h3 : r.bgn zs = r := by unfold RS.bgn; rw [if_neg he]
    rw [h1, h2, h3]
    have h0 : CtA Try.prog 24 [ptrv p, .slice a zs.length c] [pline FS p r, D] (.tuple #[u64v 0, .slice none 0 0, i64v (r.bgnE zs)]) fun F => pline FS p r :: D :: F := by
      refine CtA.pl (g := id) (B := fun F => D :: F) (fun s h => ?_) fun _ h => h
      have := ln_begin_err (FS := FS) (p := p) (s := s) (a := a) (c := c) (zs := zs) (D := D) (by rw [h.bl]; exact hcf.1) (by rw [h.mr, h.bl]; omega) hk (by rw [h.bl, h.mr]; exact he) hd
      rw [h.bl, h.mr] at this
      exact this
    intro F w hs
    refine (h0 (pool FS :: F) w (sat_ord (by (repeat (first | exact .nil | exact .refl _ | exact .h | apply Pick.t | apply Picks.cons)); done) hs)).mono ?_
    rintro e w' ⟨u, L', e1, ⟨e2, e3⟩, e4⟩
    subst e3
    exact ⟨u, _, e1, ⟨((none, 0), FS), fun x hx => hx, e2, rfl⟩, slc_nil (sat_ord (by (repeat (first | exact .nil | exact .refl _ | exact .h | apply Pick.t | apply Picks.cons)); done) e4)⟩
theorem pl_copy (ok : Ok r) (hN : r.next ≤ 90000) : CtE Try.prog 38 [ptrv p] [pline FS p r] (fun _ : Nat => True) (fun y => ptrv y) fun y F => pline FS p r :: pline FS y r :: F := fun F w hs => by
  obtain ⟨s, h, hs'⟩ := sat_pline.1 hs
  refine (ln_copy (FS := FS) (p := p) (s := s) (by have := h.qLen ok; omega) (by have := h.insLen ok; omega) F w hs').mono ?_
  rintro e w' ⟨u, L', e1, ⟨y, hy, e2, e3⟩, e4⟩
  subst e3
  exact ⟨u, _, e1, ⟨y, hy, e2, rfl⟩, sat_pline.2 ⟨s, h, sat_unpick (.t .h) (sat_pline.2 ⟨s, h, sat_pick (.t .h) e4⟩)⟩⟩
end
end Go.Proofs
namespace Go.Proofs
open Go Go.SL Go.W13
attribute [local irreducible] H W TL XL Y cl mp slc ro tq line pool coll pline
set_option maxRecDepth 20000
set_option maxHeartbeats 1000000
theorem nl_used : CtA Try.prog 34 [.pointer none] [] (i64v 0) fun F => F := by
  intro F; simp only [List.cons_append, List.nil_append]; refine Ct_of Try.func34 rfl (n := 10) rfl rfl ?_
  repeat (first
    | refine H_seq ?_ | refine H_block ?_ | refine H_region ?_ | refine TL_nil ?_ | refine N_then ?_ | refine N_block ?_ | refine H_skip ?_ | refine H_ret ?_ | refine R_then ?_ | refine R_block ?_ | refine H_exit ?_
    | refine X_then ?_ | refine X_block_eq ?_ | refine X_block_ne rfl ?_ | refine H_cond_t rfl ?_ | refine H_cond_f rfl ?_
    | refine TL_y (by first | exact Y_move rfl | exact Y_assign rfl | exact Y_nilCheck rfl | exact Y_nilCheckF rfl | exact Y_fieldAddr rfl | exact Y_load rfl (Vl_cl (by (repeat (first | exact .h | apply Pick.t)); done) rfl) | exact Y_load rfl (by assumption) | exact Y_loadAt rfl (by (repeat (first | exact .h | apply Pick.t)); done) (by rfl) | exact Y_eqld rfl rfl (by first | exact decide_eq_true (by omega) | exact decide_eq_false (by omega)) | exact Y_eql rfl rfl | exact Y_eql_nil rfl rfl | exact Y_slice_eq_nil rfl rfl | exact Y_map_eq_nil rfl rfl | fail) rfl ?_
    | exact E_fin1 (.inl rfl) rfl rfl rfl (by (repeat (first | exact .nil | exact .refl _ | exact .h | apply Pick.t | apply Picks.cons | apply Picks.skip)); done)
    | exact E_fin1 (.inr rfl) rfl rfl rfl (by (repeat (first | exact .nil | exact .refl _ | exact .h | apply Pick.t | apply Picks.cons | apply Picks.skip)); done)
    | exact E_fin2 (.inl rfl) rfl rfl rfl rfl (by (repeat (first | exact .nil | exact .refl _ | exact .h | apply Pick.t | apply Picks.cons | apply Picks.skip)); done)
    | exact E_fin2 (.inr rfl) rfl rfl rfl rfl (by (repeat (first | exact .nil | exact .refl _ | exact .h | apply Pick.t | apply Picks.cons | apply Picks.skip)); done)
    | exact E_fin3 (.inl rfl) rfl rfl rfl rfl rfl (by (repeat (first | exact .nil | exact .refl _ | exact .h | apply Pick.t | apply Picks.cons | apply Picks.skip)); done)
    | exact E_fin3 (.inr rfl) rfl rfl rfl rfl rfl (by (repeat (first | exact .nil | exact .refl _ | exact .h | apply Pick.t | apply Picks.cons | apply Picks.skip)); done)
    | exact E_fin0 (.inl rfl) rfl (by (repeat (first | exact .nil | exact .refl _ | exact .h | apply Pick.t | apply Picks.cons | apply Picks.skip)); done)
    | exact E_fin0 (.inr rfl) rfl (by (repeat (first | exact .nil | exact .refl _ | exact .h | apply Pick.t | apply Picks.cons | apply Picks.skip)); done) | fail)
theorem nl_reserved : CtA Try.prog 30 [.pointer none] [] (i64v 0) fun F => F := by
  intro F; simp only [List.cons_append, List.nil_append]; refine Ct_of Try.func30 rfl (n := 10) rfl rfl ?_
  repeat (first
    | refine H_seq ?_ | refine H_block ?_ | refine H_region ?_ | refine TL_nil ?_ | refine N_then ?_ | refine N_block ?_ | refine H_skip ?_ | refine H_ret ?_ | refine R_then ?_ | refine R_block ?_ | refine H_exit ?_
    | refine X_then ?_ | refine X_block_eq ?_ | refine X_block_ne rfl ?_ | refine H_cond_t rfl ?_ | refine H_cond_f rfl ?_
    | refine TL_y (by first | exact Y_move rfl | exact Y_assign rfl | exact Y_nilCheck rfl | exact Y_nilCheckF rfl | exact Y_fieldAddr rfl | exact Y_load rfl (Vl_cl (by (repeat (first | exact .h | apply Pick.t)); done) rfl) | exact Y_load rfl (by assumption) | exact Y_loadAt rfl (by (repeat (first | exact .h | apply Pick.t)); done) (by rfl) | exact Y_eqld rfl rfl (by first | exact decide_eq_true (by omega) | exact decide_eq_false (by omega)) | exact Y_eql rfl rfl | exact Y_eql_nil rfl rfl | exact Y_slice_eq_nil rfl rfl | exact Y_map_eq_nil rfl rfl | fail) rfl ?_
    | exact E_fin1 (.inl rfl) rfl rfl rfl (by (repeat (first | exact .nil | exact .refl _ | exact .h | apply Pick.t | apply Picks.cons | apply Picks.skip)); done)
    | exact E_fin1 (.inr rfl) rfl rfl rfl (by (repeat (first | exact .nil | exact .refl _ | exact .h | apply Pick.t | apply Picks.cons | apply Picks.skip)); done)
    | exact E_fin2 (.inl rfl) rfl rfl rfl rfl (by (repeat (first | exact .nil | exact .refl _ | exact .h | apply Pick.t | apply Picks.cons | apply Picks.skip)); done)
    | exact E_fin2 (.inr rfl) rfl rfl rfl rfl (by (repeat (first | exact .nil | exact .refl _ | exact .h | apply Pick.t | apply Picks.cons | apply Picks.skip)); done)
    | exact E_fin3 (.inl rfl) rfl rfl rfl rfl rfl (by (repeat (first | exact .nil | exact .refl _ | exact .h | apply Pick.t | apply Picks.cons | apply Picks.skip)); done)
    | exact E_fin3 (.inr rfl) rfl rfl rfl rfl rfl (by (repeat (first | exact .nil | exact .refl _ | exact .h | apply Pick.t | apply Picks.cons | apply Picks.skip)); done)
    | exact E_fin0 (.inl rfl) rfl (by (repeat (first | exact .nil | exact .refl _ | exact .h | apply Pick.t | apply Picks.cons | apply Picks.skip)); done)
    | exact E_fin0 (.inr rfl) rfl (by (repeat (first | exact .nil | exact .refl _ | exact .h | apply Pick.t | apply Picks.cons | apply Picks.skip)); done) | fail)
theorem nl_left {t : Int} : CtA Try.prog 37 [.pointer none, u64v t] [] (.tuple #[i64v 0, .bool false]) fun F => F := by
  intro F; simp only [List.cons_append, List.nil_append]; refine Ct_of Try.func37 rfl (n := 16) rfl rfl ?_
  repeat (first
    | refine H_seq ?_ | refine H_block ?_ | refine H_region ?_ | refine TL_nil ?_ | refine N_then ?_ | refine N_block ?_ | refine H_skip ?_ | refine H_ret ?_ | refine R_then ?_ | refine R_block ?_ | refine H_exit ?_
    | refine X_then ?_ | refine X_block_eq ?_ | refine X_block_ne rfl ?_ | refine H_cond_t rfl ?_ | refine H_cond_f rfl ?_
    | refine TL_y (by first | exact Y_move rfl | exact Y_assign rfl | exact Y_nilCheck rfl | exact Y_nilCheckF rfl | exact Y_fieldAddr rfl | exact Y_load rfl (Vl_cl (by (repeat (first | exact .h | apply Pick.t)); done) rfl) | exact Y_load rfl (by assumption) | exact Y_loadAt rfl (by (repeat (first | exact .h | apply Pick.t)); done) (by rfl) | exact Y_ext rfl rfl | exact Y_eqld rfl rfl (by first | exact decide_eq_true (by omega) | exact decide_eq_false (by omega)) | exact Y_eql rfl rfl | exact Y_eql_nil rfl rfl | exact Y_slice_eq_nil rfl rfl | exact Y_map_eq_nil rfl rfl | fail) rfl ?_
    | exact E_fin1 (.inl rfl) rfl rfl rfl (by (repeat (first | exact .nil | exact .refl _ | exact .h | apply Pick.t | apply Picks.cons | apply Picks.skip)); done)
    | exact E_fin1 (.inr rfl) rfl rfl rfl (by (repeat (first | exact .nil | exact .refl _ | exact .h | apply Pick.t | apply Picks.cons | apply Picks.skip)); done)
    | exact E_fin2 (.inl rfl) rfl rfl rfl rfl (by (repeat (first | exact .nil | exact .refl _ | exact .h | apply Pick.t | apply Picks.cons | apply Picks.skip)); done)
    | exact E_fin2 (.inr rfl) rfl rfl rfl rfl (by (repeat (first | exact .nil | exact .refl _ | exact .h | apply Pick.t | apply Picks.cons | apply Picks.skip)); done)
    | exact E_fin3 (.inl rfl) rfl rfl rfl rfl rfl (by (repeat (first | exact .nil | exact .refl _ | exact .h | apply Pick.t | apply Picks.cons | apply Picks.skip)); done)
    | exact E_fin3 (.inr rfl) rfl rfl rfl rfl rfl (by (repeat (first | exact .nil | exact .refl _ | exact .h | apply Pick.t | apply Picks.cons | apply Picks.skip)); done)
    | exact E_fin0 (.inl rfl) rfl (by (repeat (first | exact .nil | exact .refl _ | exact .h | apply Pick.t | apply Picks.cons | apply Picks.skip)); done)
    | exact E_fin0 (.inr rfl) rfl (by (repeat (first | exact .nil | exact .refl _ | exact .h | apply Pick.t | apply Picks.cons | apply Picks.skip)); done) | fail)
theorem nl_in : CtA Try.prog 29 [.pointer none] [] (.slice none 0 0) fun F => F := by
  intro F; simp only [List.cons_append, List.nil_append]; refine Ct_of Try.func29 rfl (n := 10) rfl rfl ?_
  repeat (first
    | refine H_seq ?_ | refine H_block ?_ | refine H_region ?_ | refine TL_nil ?_ | refine N_then ?_ | refine N_block ?_ | refine H_skip ?_ | refine H_ret ?_ | refine R_then ?_ | refine R_block ?_ | refine H_exit ?_
    | refine X_then ?_ | refine X_block_eq ?_ | refine X_block_ne rfl ?_ | refine H_cond_t rfl ?_ | refine H_cond_f rfl ?_
    | refine TL_y (by first | exact Y_move rfl | exact Y_assign rfl | exact Y_nilCheck rfl | exact Y_nilCheckF rfl | exact Y_fieldAddr rfl | exact Y_load rfl (Vl_cl (by (repeat (first | exact .h | apply Pick.t)); done) rfl) | exact Y_load rfl (by assumption) | exact Y_loadAt rfl (by (repeat (first | exact .h | apply Pick.t)); done) (by rfl) | exact Y_eqld rfl rfl (by first | exact decide_eq_true (by omega) | exact decide_eq_false (by omega)) | exact Y_eql rfl rfl | exact Y_eql_nil rfl rfl | exact Y_slice_eq_nil rfl rfl | exact Y_map_eq_nil rfl rfl | fail) rfl ?_
    | exact E_fin1 (.inl rfl) rfl rfl rfl (by (repeat (first | exact .nil | exact .refl _ | exact .h | apply Pick.t | apply Picks.cons | apply Picks.skip)); done)
    | exact E_fin1 (.inr rfl) rfl rfl rfl (by (repeat (first | exact .nil | exact .refl _ | exact .h | apply Pick.t | apply Picks.cons | apply Picks.skip)); done)
    | exact E_fin2 (.inl rfl) rfl rfl rfl rfl (by (repeat (first | exact .nil | exact .refl _ | exact .h | apply Pick.t | apply Picks.cons | apply Picks.skip)); done)
    | exact E_fin2 (.inr rfl) rfl rfl rfl rfl (by (repeat (first | exact .nil | exact .refl _ | exact .h | apply Pick.t | apply Picks.cons | apply Picks.skip)); done)
    | exact E_fin3 (.inl rfl) rfl rfl rfl rfl rfl (by (repeat (first | exact .nil | exact .refl _ | exact .h | apply Pick.t | apply Picks.cons | apply Picks.skip)); done)
    | exact E_fin3 (.inr rfl) rfl rfl rfl rfl rfl (by (repeat (first | exact .nil | exact .refl _ | exact .h | apply Pick.t | apply Picks.cons | apply Picks.skip)); done)
    | exact E_fin0 (.inl rfl) rfl (by (repeat (first | exact .nil | exact .refl _ | exact .h | apply Pick.t | apply Picks.cons | apply Picks.skip)); done)
    | exact E_fin0 (.inr rfl) rfl (by (repeat (first | exact .nil | exact .refl _ | exact .h | apply Pick.t | apply Picks.cons | apply Picks.skip)); done) | fail)
theorem nl_waiting : CtA Try.prog 25 [.pointer none] [] (.slice none 0 0) fun F => F := by
  intro F; simp only [List.cons_append, List.nil_append]; refine Ct_of Try.func25 rfl (n := 18) rfl rfl ?_
  repeat (first
    | refine H_seq ?_ | refine H_block ?_ | refine H_region ?_ | refine TL_nil ?_ | refine N_then ?_ | refine N_block ?_ | refine H_skip ?_ | refine H_ret ?_ | refine R_then ?_ | refine R_block ?_ | refine H_exit ?_
    | refine X_then ?_ | refine X_block_eq ?_ | refine X_block_ne rfl ?_ | refine H_cond_t rfl ?_ | refine H_cond_f rfl ?_
    | refine TL_y (by first | exact Y_move rfl | exact Y_assign rfl | exact Y_nilCheck rfl | exact Y_nilCheckF rfl | exact Y_fieldAddr rfl | exact Y_load rfl (Vl_cl (by (repeat (first | exact .h | apply Pick.t)); done) rfl) | exact Y_load rfl (by assumption) | exact Y_loadAt rfl (by (repeat (first | exact .h | apply Pick.t)); done) (by rfl) | exact Y_eqld rfl rfl (by first | exact decide_eq_true (by omega) | exact decide_eq_false (by omega)) | exact Y_eql rfl rfl | exact Y_eql_nil rfl rfl | exact Y_slice_eq_nil rfl rfl | exact Y_map_eq_nil rfl rfl | fail) rfl ?_
    | refine T_store rfl rfl rfl (by (repeat (first | exact .h | apply Pick.t)); done) rfl ?_ | refine T_alloc rfl fun p1 => ?_ | refine T_bs0 rfl fun b1 => ?_ | refine T_bs1 rfl rfl rfl fun b1 => ?_
    | refine T_bsn rfl rfl rfl rfl rfl rfl fun b1 => ?_ | refine T_storeAt rfl rfl (by (repeat (first | exact .h | apply Pick.t)); done) (by rfl) (by rfl) (by rfl) ?_
    | exact E_fin1 (.inl rfl) rfl rfl rfl (by (repeat (first | exact .nil | exact .refl _ | exact .h | apply Pick.t | apply Picks.cons | apply Picks.skip)); done)
    | exact E_fin1 (.inr rfl) rfl rfl rfl (by (repeat (first | exact .nil | exact .refl _ | exact .h | apply Pick.t | apply Picks.cons | apply Picks.skip)); done)
    | exact E_fin2 (.inl rfl) rfl rfl rfl rfl (by (repeat (first | exact .nil | exact .refl _ | exact .h | apply Pick.t | apply Picks.cons | apply Picks.skip)); done)
    | exact E_fin2 (.inr rfl) rfl rfl rfl rfl (by (repeat (first | exact .nil | exact .refl _ | exact .h | apply Pick.t | apply Picks.cons | apply Picks.skip)); done)
    | exact E_fin3 (.inl rfl) rfl rfl rfl rfl rfl (by (repeat (first | exact .nil | exact .refl _ | exact .h | apply Pick.t | apply Picks.cons | apply Picks.skip)); done)
    | exact E_fin3 (.inr rfl) rfl rfl rfl rfl rfl (by (repeat (first | exact .nil | exact .refl _ | exact .h | apply Pick.t | apply Picks.cons | apply Picks.skip)); done)
    | exact E_fin0 (.inl rfl) rfl (by (repeat (first | exact .nil | exact .refl _ | exact .h | apply Pick.t | apply Picks.cons | apply Picks.skip)); done)
    | exact E_fin0 (.inr rfl) rfl (by (repeat (first | exact .nil | exact .refl _ | exact .h | apply Pick.t | apply Picks.cons | apply Picks.skip)); done) | fail)
theorem nl_copy : CtA Try.prog 38 [.pointer none] [] (.pointer none) fun F => F := by
  intro F; simp only [List.cons_append, List.nil_append]; refine Ct_of Try.func38 rfl (n := 45) rfl rfl ?_
  repeat (first
    | refine H_seq ?_ | refine H_block ?_ | refine H_region ?_ | refine TL_nil ?_ | refine N_then ?_ | refine N_block ?_ | refine H_skip ?_ | refine H_ret ?_ | refine R_then ?_ | refine R_block ?_ | refine H_exit ?_
    | refine X_then ?_ | refine X_block_eq ?_ | refine X_block_ne rfl ?_ | refine H_cond_t rfl ?_ | refine H_cond_f rfl ?_
    | refine TL_y (by first | exact Y_move rfl | exact Y_assign rfl | exact Y_nilCheck rfl | exact Y_nilCheckF rfl | exact Y_fieldAddr rfl | exact Y_load rfl (Vl_cl (by (repeat (first | exact .h | apply Pick.t)); done) rfl) | exact Y_load rfl (by assumption) | exact Y_loadAt rfl (by (repeat (first | exact .h | apply Pick.t)); done) (by rfl) | exact Y_ext rfl rfl | exact Y_eqld rfl rfl (by first | exact decide_eq_true (by omega) | exact decide_eq_false (by omega)) | exact Y_eql rfl rfl | exact Y_eql_nil rfl rfl | exact Y_slice_eq_nil rfl rfl | exact Y_map_eq_nil rfl rfl | exact Y_entry rfl (by (repeat (first | exact .h | apply Pick.t)); done) | fail) rfl ?_
    | refine T_store rfl rfl rfl (by (repeat (first | exact .h | apply Pick.t)); done) rfl ?_ | refine T_alloc rfl fun p1 => ?_ | refine T_makeMapp rfl fun b1 => ?_
    | refine T_mapUpdate rfl rfl rfl (by (repeat (first | exact .h | apply Pick.t)); done) ?_ | refine T_storeAt rfl rfl (by (repeat (first | exact .h | apply Pick.t)); done) (by rfl) (by rfl) (by rfl) ?_
    | refine X_y rfl (by first | exact Y_move rfl | exact Y_assign rfl | exact Y_nilCheck rfl | exact Y_nilCheckF rfl | exact Y_fieldAddr rfl | exact Y_load rfl (Vl_cl (by (repeat (first | exact .h | apply Pick.t)); done) rfl) | exact Y_load rfl (by assumption) | exact Y_loadAt rfl (by (repeat (first | exact .h | apply Pick.t)); done) (by rfl) | exact Y_ext rfl rfl | exact Y_eqld rfl rfl (by first | exact decide_eq_true (by omega) | exact decide_eq_false (by omega)) | exact Y_eql rfl rfl | exact Y_eql_nil rfl rfl | exact Y_slice_eq_nil rfl rfl | exact Y_map_eq_nil rfl rfl | exact Y_entry rfl (by (repeat (first | exact .h | apply Pick.t)); done) | fail) rfl ?_
    | refine X_loud rfl rfl ?_ | refine X_bar rfl ?_ | refine X_next (fun _ h => h) ?_
    | (refine X_next ?_ ?_; · exact fun _ h => sat_sub (by (repeat (first | exact .nil | exact .refl _ | exact .h | apply Pick.t | apply Picks.cons | apply Picks.skip)); done) h) | refine X_next (fun _ _ => sat_nil') ?_
    | refine X_nil ?_
    | refine H_draw (id := 4) 16 _ [(0, false), (1, false), (2, false), (3, false), (5, false), (6, false), (7, false), (8, false), (10, false), (11, false), (12, false), (13, false), (4, true), (9, true), (14, true), (15, false), (16, true), (17, false), (18, true), (19, false), (20, true)] (by kernel_rfl) (fun _ h => h) ?_
    | exact E_fin1 (.inl rfl) rfl rfl rfl (by (repeat (first | exact .nil | exact .refl _ | exact .h | apply Pick.t | apply Picks.cons | apply Picks.skip)); done)
    | exact E_fin1 (.inr rfl) rfl rfl rfl (by (repeat (first | exact .nil | exact .refl _ | exact .h | apply Pick.t | apply Picks.cons | apply Picks.skip)); done)
    | exact E_fin2 (.inl rfl) rfl rfl rfl rfl (by (repeat (first | exact .nil | exact .refl _ | exact .h | apply Pick.t | apply Picks.cons | apply Picks.skip)); done)
    | exact E_fin2 (.inr rfl) rfl rfl rfl rfl (by (repeat (first | exact .nil | exact .refl _ | exact .h | apply Pick.t | apply Picks.cons | apply Picks.skip)); done)
    | exact E_fin3 (.inl rfl) rfl rfl rfl rfl rfl (by (repeat (first | exact .nil | exact .refl _ | exact .h | apply Pick.t | apply Picks.cons | apply Picks.skip)); done)
    | exact E_fin3 (.inr rfl) rfl rfl rfl rfl rfl (by (repeat (first | exact .nil | exact .refl _ | exact .h | apply Pick.t | apply Picks.cons | apply Picks.skip)); done)
    | exact E_fin0 (.inl rfl) rfl (by (repeat (first | exact .nil | exact .refl _ | exact .h | apply Pick.t | apply Picks.cons | apply Picks.skip)); done)
    | exact E_fin0 (.inr rfl) rfl (by (repeat (first | exact .nil | exact .refl _ | exact .h | apply Pick.t | apply Picks.cons | apply Picks.skip)); done) | fail)
theorem nl_freed {k : Int} : CtA Try.prog 35 [.pointer none, i64v k] [] (i64v 1) fun F => F := by
  intro F; simp only [List.cons_append, List.nil_append]; refine Ct_of Try.func35 rfl (n := 13) rfl rfl ?_
  repeat (first
    | refine H_seq ?_ | refine H_block ?_ | refine H_region ?_ | refine TL_nil ?_ | refine N_then ?_ | refine N_block ?_ | refine H_skip ?_ | refine H_ret ?_ | refine R_then ?_ | refine R_block ?_ | refine H_exit ?_
    | refine X_then ?_ | refine X_block_eq ?_ | refine X_block_ne rfl ?_ | refine H_cond_t rfl ?_ | refine H_cond_f rfl ?_
    | refine TL_y (by first | exact Y_move rfl | exact Y_assign rfl | exact Y_nilCheck rfl | exact Y_nilCheckF rfl | exact Y_fieldAddr rfl | exact Y_load rfl (Vl_cl (by (repeat (first | exact .h | apply Pick.t)); done) rfl) | exact Y_load rfl (by assumption) | exact Y_loadAt rfl (by (repeat (first | exact .h | apply Pick.t)); done) (by rfl) | exact Y_eqld rfl rfl (by first | exact decide_eq_true (by omega) | exact decide_eq_false (by omega)) | exact Y_eql rfl rfl | exact Y_eql_nil rfl rfl | exact Y_slice_eq_nil rfl rfl | exact Y_map_eq_nil rfl rfl | fail) rfl ?_
    | exact E_fin1 (.inl rfl) rfl rfl rfl (by (repeat (first | exact .nil | exact .refl _ | exact .h | apply Pick.t | apply Picks.cons | apply Picks.skip)); done)
    | exact E_fin1 (.inr rfl) rfl rfl rfl (by (repeat (first | exact .nil | exact .refl _ | exact .h | apply Pick.t | apply Picks.cons | apply Picks.skip)); done)
    | exact E_fin2 (.inl rfl) rfl rfl rfl rfl (by (repeat (first | exact .nil | exact .refl _ | exact .h | apply Pick.t | apply Picks.cons | apply Picks.skip)); done)
    | exact E_fin2 (.inr rfl) rfl rfl rfl rfl (by (repeat (first | exact .nil | exact .refl _ | exact .h | apply Pick.t | apply Picks.cons | apply Picks.skip)); done)
    | exact E_fin3 (.inl rfl) rfl rfl rfl rfl rfl (by (repeat (first | exact .nil | exact .refl _ | exact .h | apply Pick.t | apply Picks.cons | apply Picks.skip)); done)
    | exact E_fin3 (.inr rfl) rfl rfl rfl rfl rfl (by (repeat (first | exact .nil | exact .refl _ | exact .h | apply Pick.t | apply Picks.cons | apply Picks.skip)); done)
    | exact E_fin0 (.inl rfl) rfl (by (repeat (first | exact .nil | exact .refl _ | exact .h | apply Pick.t | apply Picks.cons | apply Picks.skip)); done)
    | exact E_fin0 (.inr rfl) rfl (by (repeat (first | exact .nil | exact .refl _ | exact .h | apply Pick.t | apply Picks.cons | apply Picks.skip)); done) | fail)
theorem nl_inside {t : Int} : CtA Try.prog 80 [.pointer none, u64v t] [] (i64v 1) fun F => F := by
  intro F; simp only [List.cons_append, List.nil_append]; refine Ct_of Try.func80 rfl (n := 14) rfl rfl ?_
  repeat (first
    | refine H_seq ?_ | refine H_block ?_ | refine H_region ?_ | refine TL_nil ?_ | refine N_then ?_ | refine N_block ?_ | refine H_skip ?_ | refine H_ret ?_ | refine R_then ?_ | refine R_block ?_ | refine H_exit ?_
    | refine X_then ?_ | refine X_block_eq ?_ | refine X_block_ne rfl ?_ | refine H_cond_t rfl ?_ | refine H_cond_f rfl ?_
    | refine TL_y (by first | exact Y_move rfl | exact Y_assign rfl | exact Y_nilCheck rfl | exact Y_nilCheckF rfl | exact Y_fieldAddr rfl | exact Y_load rfl (Vl_cl (by (repeat (first | exact .h | apply Pick.t)); done) rfl) | exact Y_load rfl (by assumption) | exact Y_loadAt rfl (by (repeat (first | exact .h | apply Pick.t)); done) (by rfl) | exact Y_not rfl | exact Y_eqld rfl rfl (by first | exact decide_eq_true (by omega) | exact decide_eq_false (by omega)) | exact Y_eql rfl rfl | exact Y_eql_nil rfl rfl | exact Y_slice_eq_nil rfl rfl | exact Y_map_eq_nil rfl rfl | fail) rfl ?_
    | exact E_fin1 (.inl rfl) rfl rfl rfl (by (repeat (first | exact .nil | exact .refl _ | exact .h | apply Pick.t | apply Picks.cons | apply Picks.skip)); done)
    | exact E_fin1 (.inr rfl) rfl rfl rfl (by (repeat (first | exact .nil | exact .refl _ | exact .h | apply Pick.t | apply Picks.cons | apply Picks.skip)); done)
    | exact E_fin2 (.inl rfl) rfl rfl rfl rfl (by (repeat (first | exact .nil | exact .refl _ | exact .h | apply Pick.t | apply Picks.cons | apply Picks.skip)); done)
    | exact E_fin2 (.inr rfl) rfl rfl rfl rfl (by (repeat (first | exact .nil | exact .refl _ | exact .h | apply Pick.t | apply Picks.cons | apply Picks.skip)); done)
    | exact E_fin3 (.inl rfl) rfl rfl rfl rfl rfl (by (repeat (first | exact .nil | exact .refl _ | exact .h | apply Pick.t | apply Picks.cons | apply Picks.skip)); done)
    | exact E_fin3 (.inr rfl) rfl rfl rfl rfl rfl (by (repeat (first | exact .nil | exact .refl _ | exact .h | apply Pick.t | apply Picks.cons | apply Picks.skip)); done)
    | exact E_fin0 (.inl rfl) rfl (by (repeat (first | exact .nil | exact .refl _ | exact .h | apply Pick.t | apply Picks.cons | apply Picks.skip)); done)
    | exact E_fin0 (.inr rfl) rfl (by (repeat (first | exact .nil | exact .refl _ | exact .h | apply Pick.t | apply Picks.cons | apply Picks.skip)); done) | fail)
theorem nl_append {t : Int} : CtA Try.prog 31 [.pointer none, u64v t] [] (i64v 1) fun F => F := by
  intro F; simp only [List.cons_append, List.nil_append]; refine Ct_of Try.func31 rfl (n := 31) rfl rfl ?_
  repeat (first
    | refine H_seq ?_ | refine H_block ?_ | refine H_region ?_ | refine TL_nil ?_ | refine N_then ?_ | refine N_block ?_ | refine H_skip ?_ | refine H_ret ?_ | refine R_then ?_ | refine R_block ?_ | refine H_exit ?_
    | refine X_then ?_ | refine X_block_eq ?_ | refine X_block_ne rfl ?_ | refine H_cond_t rfl ?_ | refine H_cond_f rfl ?_
    | refine TL_y (by first | exact Y_move rfl | exact Y_assign rfl | exact Y_nilCheck rfl | exact Y_nilCheckF rfl | exact Y_fieldAddr rfl | exact Y_load rfl (Vl_cl (by (repeat (first | exact .h | apply Pick.t)); done) rfl) | exact Y_load rfl (by assumption) | exact Y_loadAt rfl (by (repeat (first | exact .h | apply Pick.t)); done) (by rfl) | exact Y_ext rfl rfl | exact Y_leqd rfl rfl (by first | exact decide_eq_true (by omega) | exact decide_eq_false (by omega)) | exact Y_leq rfl rfl | exact Y_neqd rfl rfl (by first | exact decide_eq_true (by omega) | exact decide_eq_false (by omega)) | exact Y_neq rfl rfl | exact Y_neq_nil rfl rfl | fail) rfl ?_
    | refine T_callA rfl rfl .nil nl_inside ?_ | exact E_fin1 (.inl rfl) rfl rfl rfl (by (repeat (first | exact .nil | exact .refl _ | exact .h | apply Pick.t | apply Picks.cons | apply Picks.skip)); done)
    | exact E_fin1 (.inr rfl) rfl rfl rfl (by (repeat (first | exact .nil | exact .refl _ | exact .h | apply Pick.t | apply Picks.cons | apply Picks.skip)); done)
    | exact E_fin2 (.inl rfl) rfl rfl rfl rfl (by (repeat (first | exact .nil | exact .refl _ | exact .h | apply Pick.t | apply Picks.cons | apply Picks.skip)); done)
    | exact E_fin2 (.inr rfl) rfl rfl rfl rfl (by (repeat (first | exact .nil | exact .refl _ | exact .h | apply Pick.t | apply Picks.cons | apply Picks.skip)); done)
    | exact E_fin3 (.inl rfl) rfl rfl rfl rfl rfl (by (repeat (first | exact .nil | exact .refl _ | exact .h | apply Pick.t | apply Picks.cons | apply Picks.skip)); done)
    | exact E_fin3 (.inr rfl) rfl rfl rfl rfl rfl (by (repeat (first | exact .nil | exact .refl _ | exact .h | apply Pick.t | apply Picks.cons | apply Picks.skip)); done)
    | exact E_fin0 (.inl rfl) rfl (by (repeat (first | exact .nil | exact .refl _ | exact .h | apply Pick.t | apply Picks.cons | apply Picks.skip)); done)
    | exact E_fin0 (.inr rfl) rfl (by (repeat (first | exact .nil | exact .refl _ | exact .h | apply Pick.t | apply Picks.cons | apply Picks.skip)); done) | fail)
theorem nl_done {t : Int} : CtA Try.prog 33 [.pointer none, u64v t] [] (i64v 1) fun F => F := by
  intro F; simp only [List.cons_append, List.nil_append]; refine Ct_of Try.func33 rfl (n := 25) rfl rfl ?_
  repeat (first
    | refine H_seq ?_ | refine H_block ?_ | refine H_region ?_ | refine TL_nil ?_ | refine N_then ?_ | refine N_block ?_ | refine H_skip ?_ | refine H_ret ?_ | refine R_then ?_ | refine R_block ?_ | refine H_exit ?_
    | refine X_then ?_ | refine X_block_eq ?_ | refine X_block_ne rfl ?_ | refine H_cond_t rfl ?_ | refine H_cond_f rfl ?_
    | refine TL_y (by first | exact Y_move rfl | exact Y_assign rfl | exact Y_nilCheck rfl | exact Y_nilCheckF rfl | exact Y_fieldAddr rfl | exact Y_load rfl (Vl_cl (by (repeat (first | exact .h | apply Pick.t)); done) rfl) | exact Y_load rfl (by assumption) | exact Y_loadAt rfl (by (repeat (first | exact .h | apply Pick.t)); done) (by rfl) | exact Y_neqd rfl rfl (by first | exact decide_eq_true (by omega) | exact decide_eq_false (by omega)) | exact Y_neq rfl rfl | exact Y_neq_nil rfl rfl | fail) rfl ?_
    | refine T_callA rfl rfl .nil nl_inside ?_ | exact E_fin1 (.inl rfl) rfl rfl rfl (by (repeat (first | exact .nil | exact .refl _ | exact .h | apply Pick.t | apply Picks.cons | apply Picks.skip)); done)
    | exact E_fin1 (.inr rfl) rfl rfl rfl (by (repeat (first | exact .nil | exact .refl _ | exact .h | apply Pick.t | apply Picks.cons | apply Picks.skip)); done)
    | exact E_fin2 (.inl rfl) rfl rfl rfl rfl (by (repeat (first | exact .nil | exact .refl _ | exact .h | apply Pick.t | apply Picks.cons | apply Picks.skip)); done)
    | exact E_fin2 (.inr rfl) rfl rfl rfl rfl (by (repeat (first | exact .nil | exact .refl _ | exact .h | apply Pick.t | apply Picks.cons | apply Picks.skip)); done)
    | exact E_fin3 (.inl rfl) rfl rfl rfl rfl rfl (by (repeat (first | exact .nil | exact .refl _ | exact .h | apply Pick.t | apply Picks.cons | apply Picks.skip)); done)
    | exact E_fin3 (.inr rfl) rfl rfl rfl rfl rfl (by (repeat (first | exact .nil | exact .refl _ | exact .h | apply Pick.t | apply Picks.cons | apply Picks.skip)); done)
    | exact E_fin0 (.inl rfl) rfl (by (repeat (first | exact .nil | exact .refl _ | exact .h | apply Pick.t | apply Picks.cons | apply Picks.skip)); done)
    | exact E_fin0 (.inr rfl) rfl (by (repeat (first | exact .nil | exact .refl _ | exact .h | apply Pick.t | apply Picks.cons | apply Picks.skip)); done) | fail)
theorem nl_leave {t : Int} : CtA Try.prog 32 [.pointer none, u64v t] [] (i64v 1) fun F => F := by
  intro F; simp only [List.cons_append, List.nil_append]; refine Ct_of Try.func32 rfl (n := 36) rfl rfl ?_
  repeat (first
    | refine H_seq ?_ | refine H_block ?_ | refine H_region ?_ | refine TL_nil ?_ | refine N_then ?_ | refine N_block ?_ | refine H_skip ?_ | refine H_ret ?_ | refine R_then ?_ | refine R_block ?_ | refine H_exit ?_
    | refine X_then ?_ | refine X_block_eq ?_ | refine X_block_ne rfl ?_ | refine H_cond_t rfl ?_ | refine H_cond_f rfl ?_
    | refine TL_y (by first | exact Y_move rfl | exact Y_assign rfl | exact Y_nilCheck rfl | exact Y_nilCheckF rfl | exact Y_fieldAddr rfl | exact Y_load rfl (Vl_cl (by (repeat (first | exact .h | apply Pick.t)); done) rfl) | exact Y_load rfl (by assumption) | exact Y_loadAt rfl (by (repeat (first | exact .h | apply Pick.t)); done) (by rfl) | exact Y_ext rfl rfl | exact Y_neqd rfl rfl (by first | exact decide_eq_true (by omega) | exact decide_eq_false (by omega)) | exact Y_neq rfl rfl | exact Y_neq_nil rfl rfl | exact Y_add' rfl rfl (w64 (by omega) (by omega)) | exact Y_add' rfl rfl (wu64 (by omega) (by omega)) | exact Y_len_slice rfl | exact Y_lookup_some rfl rfl (by (repeat (first | exact .h | apply Pick.t)); done) (by assumption) | exact Y_lookup_none rfl rfl (by (repeat (first | exact .h | apply Pick.t)); done) (by assumption) | fail) rfl ?_
    | refine T_callA rfl rfl .nil nl_inside ?_ | exact E_fin1 (.inl rfl) rfl rfl rfl (by (repeat (first | exact .nil | exact .refl _ | exact .h | apply Pick.t | apply Picks.cons | apply Picks.skip)); done)
    | exact E_fin1 (.inr rfl) rfl rfl rfl (by (repeat (first | exact .nil | exact .refl _ | exact .h | apply Pick.t | apply Picks.cons | apply Picks.skip)); done)
    | exact E_fin2 (.inl rfl) rfl rfl rfl rfl (by (repeat (first | exact .nil | exact .refl _ | exact .h | apply Pick.t | apply Picks.cons | apply Picks.skip)); done)
    | exact E_fin2 (.inr rfl) rfl rfl rfl rfl (by (repeat (first | exact .nil | exact .refl _ | exact .h | apply Pick.t | apply Picks.cons | apply Picks.skip)); done)
    | exact E_fin3 (.inl rfl) rfl rfl rfl rfl rfl (by (repeat (first | exact .nil | exact .refl _ | exact .h | apply Pick.t | apply Picks.cons | apply Picks.skip)); done)
    | exact E_fin3 (.inr rfl) rfl rfl rfl rfl rfl (by (repeat (first | exact .nil | exact .refl _ | exact .h | apply Pick.t | apply Picks.cons | apply Picks.skip)); done)
    | exact E_fin0 (.inl rfl) rfl (by (repeat (first | exact .nil | exact .refl _ | exact .h | apply Pick.t | apply Picks.cons | apply Picks.skip)); done)
    | exact E_fin0 (.inr rfl) rfl (by (repeat (first | exact .nil | exact .refl _ | exact .h | apply Pick.t | apply Picks.cons | apply Picks.skip)); done) | fail)
theorem nl_first : CtA Try.prog 36 [.pointer none] [] (.tuple #[u64v 0, .slice none 0 0, .bool false]) fun F => F := by
  intro F; simp only [List.cons_append, List.nil_append]; refine Ct_of Try.func36 rfl (n := 26) rfl rfl ?_
  repeat (first
    | refine H_seq ?_ | refine H_block ?_ | refine H_region ?_ | refine TL_nil ?_ | refine N_then ?_ | refine N_block ?_ | refine H_skip ?_ | refine H_ret ?_ | refine R_then ?_ | refine R_block ?_ | refine H_exit ?_
    | refine X_then ?_ | refine X_block_eq ?_ | refine X_block_ne rfl ?_ | refine H_cond_t rfl ?_ | refine H_cond_f rfl ?_
    | refine TL_y (by first | exact Y_move rfl | exact Y_assign rfl | exact Y_nilCheck rfl | exact Y_nilCheckF rfl | exact Y_fieldAddr rfl | exact Y_load rfl (Vl_cl (by (repeat (first | exact .h | apply Pick.t)); done) rfl) | exact Y_load rfl (by assumption) | exact Y_loadAt rfl (by (repeat (first | exact .h | apply Pick.t)); done) (by rfl) | exact Y_ext rfl rfl | exact Y_eqld rfl rfl (by first | exact decide_eq_true (by omega) | exact decide_eq_false (by omega)) | exact Y_eql rfl rfl | exact Y_eql_nil rfl rfl | exact Y_slice_eq_nil rfl rfl | exact Y_map_eq_nil rfl rfl | exact Y_lookup_some rfl rfl (by (repeat (first | exact .h | apply Pick.t)); done) (by assumption) | exact Y_lookup_none rfl rfl (by (repeat (first | exact .h | apply Pick.t)); done) (by assumption) | fail) rfl ?_
    | exact E_fin1 (.inl rfl) rfl rfl rfl (by (repeat (first | exact .nil | exact .refl _ | exact .h | apply Pick.t | apply Picks.cons | apply Picks.skip)); done)
    | exact E_fin1 (.inr rfl) rfl rfl rfl (by (repeat (first | exact .nil | exact .refl _ | exact .h | apply Pick.t | apply Picks.cons | apply Picks.skip)); done)
    | exact E_fin2 (.inl rfl) rfl rfl rfl rfl (by (repeat (first | exact .nil | exact .refl _ | exact .h | apply Pick.t | apply Picks.cons | apply Picks.skip)); done)
    | exact E_fin2 (.inr rfl) rfl rfl rfl rfl (by (repeat (first | exact .nil | exact .refl _ | exact .h | apply Pick.t | apply Picks.cons | apply Picks.skip)); done)
    | exact E_fin3 (.inl rfl) rfl rfl rfl rfl rfl (by (repeat (first | exact .nil | exact .refl _ | exact .h | apply Pick.t | apply Picks.cons | apply Picks.skip)); done)
    | exact E_fin3 (.inr rfl) rfl rfl rfl rfl rfl (by (repeat (first | exact .nil | exact .refl _ | exact .h | apply Pick.t | apply Picks.cons | apply Picks.skip)); done)
    | exact E_fin0 (.inl rfl) rfl (by (repeat (first | exact .nil | exact .refl _ | exact .h | apply Pick.t | apply Picks.cons | apply Picks.skip)); done)
    | exact E_fin0 (.inr rfl) rfl (by (repeat (first | exact .nil | exact .refl _ | exact .h | apply Pick.t | apply Picks.cons | apply Picks.skip)); done) | fail)
theorem nl_fits : CtA Try.prog 28 [.pointer none] [] (.bool false) fun F => F := by
  intro F; simp only [List.cons_append, List.nil_append]; refine Ct_of Try.func28 rfl (n := 23) rfl rfl ?_
  repeat (first
    | refine H_seq ?_ | refine H_block ?_ | refine H_region ?_ | refine TL_nil ?_ | refine N_then ?_ | refine N_block ?_ | refine H_skip ?_ | refine H_ret ?_ | refine R_then ?_ | refine R_block ?_ | refine H_exit ?_
    | refine X_then ?_ | refine X_block_eq ?_ | refine X_block_ne rfl ?_ | refine H_cond_t rfl ?_ | refine H_cond_f rfl ?_
    | refine TL_y (by first | exact Y_move rfl | exact Y_assign rfl | exact Y_nilCheck rfl | exact Y_nilCheckF rfl | exact Y_fieldAddr rfl | exact Y_load rfl (Vl_cl (by (repeat (first | exact .h | apply Pick.t)); done) rfl) | exact Y_load rfl (by assumption) | exact Y_loadAt rfl (by (repeat (first | exact .h | apply Pick.t)); done) (by rfl) | exact Y_ext rfl rfl | exact Y_add' rfl rfl (w64 (by omega) (by omega)) | exact Y_add' rfl rfl (wu64 (by omega) (by omega)) | exact Y_len_slice rfl | exact Y_pick_t rfl rfl | exact Y_pick_f rfl rfl | fail) rfl ?_
    | refine TLg_run rfl rfl ?_ | refine TLg_skip rfl rfl rfl rfl ?_ | refine T_callA rfl rfl .nil nl_first ?_
    | exact E_fin1 (.inl rfl) rfl rfl rfl (by (repeat (first | exact .nil | exact .refl _ | exact .h | apply Pick.t | apply Picks.cons | apply Picks.skip)); done)
    | exact E_fin1 (.inr rfl) rfl rfl rfl (by (repeat (first | exact .nil | exact .refl _ | exact .h | apply Pick.t | apply Picks.cons | apply Picks.skip)); done)
    | exact E_fin2 (.inl rfl) rfl rfl rfl rfl (by (repeat (first | exact .nil | exact .refl _ | exact .h | apply Pick.t | apply Picks.cons | apply Picks.skip)); done)
    | exact E_fin2 (.inr rfl) rfl rfl rfl rfl (by (repeat (first | exact .nil | exact .refl _ | exact .h | apply Pick.t | apply Picks.cons | apply Picks.skip)); done)
    | exact E_fin3 (.inl rfl) rfl rfl rfl rfl rfl (by (repeat (first | exact .nil | exact .refl _ | exact .h | apply Pick.t | apply Picks.cons | apply Picks.skip)); done)
    | exact E_fin3 (.inr rfl) rfl rfl rfl rfl rfl (by (repeat (first | exact .nil | exact .refl _ | exact .h | apply Pick.t | apply Picks.cons | apply Picks.skip)); done)
    | exact E_fin0 (.inl rfl) rfl (by (repeat (first | exact .nil | exact .refl _ | exact .h | apply Pick.t | apply Picks.cons | apply Picks.skip)); done)
    | exact E_fin0 (.inr rfl) rfl (by (repeat (first | exact .nil | exact .refl _ | exact .h | apply Pick.t | apply Picks.cons | apply Picks.skip)); done) | fail)
theorem nl_enter : CtA Try.prog 27 [.pointer none] [] (.tuple #[u64v 0, .slice none 0 0, i64v 1]) fun F => F := by
  intro F; simp only [List.cons_append, List.nil_append]; refine Ct_of Try.func27 rfl (n := 48) rfl rfl ?_
  repeat (first
    | refine H_seq ?_ | refine H_block ?_ | refine H_region ?_ | refine TL_nil ?_ | refine N_then ?_ | refine N_block ?_ | refine H_skip ?_ | refine H_ret ?_ | refine R_then ?_ | refine R_block ?_ | refine H_exit ?_
    | refine X_then ?_ | refine X_block_eq ?_ | refine X_block_ne rfl ?_ | refine H_cond_t rfl ?_ | refine H_cond_f rfl ?_
    | refine TL_y (by first | exact Y_move rfl | exact Y_assign rfl | exact Y_nilCheck rfl | exact Y_nilCheckF rfl | exact Y_fieldAddr rfl | exact Y_load rfl (Vl_cl (by (repeat (first | exact .h | apply Pick.t)); done) rfl) | exact Y_load rfl (by assumption) | exact Y_loadAt rfl (by (repeat (first | exact .h | apply Pick.t)); done) (by rfl) | exact Y_ext rfl rfl | exact Y_not rfl | exact Y_eqld rfl rfl (by first | exact decide_eq_true (by omega) | exact decide_eq_false (by omega)) | exact Y_eql rfl rfl | exact Y_neqd rfl rfl (by first | exact decide_eq_true (by omega) | exact decide_eq_false (by omega)) | exact Y_neq rfl rfl | exact Y_eql_nil rfl rfl | exact Y_neq_nil rfl rfl | exact Y_slice_eq_nil rfl rfl | exact Y_map_eq_nil rfl rfl | exact Y_add' rfl rfl (w64 (by omega) (by omega)) | exact Y_add' rfl rfl (wu64 (by omega) (by omega)) | exact Y_len_slice rfl | fail) rfl ?_
    | refine T_store rfl rfl rfl (by (repeat (first | exact .h | apply Pick.t)); done) rfl ?_ | refine T_bs0 rfl fun b1 => ?_ | refine T_bs1 rfl rfl rfl fun b1 => ?_ | refine T_bsn rfl rfl rfl rfl rfl rfl fun b1 => ?_
    | refine T_storeAt rfl rfl (by (repeat (first | exact .h | apply Pick.t)); done) (by rfl) (by rfl) (by rfl) ?_
    | exact E_fin1 (.inl rfl) rfl rfl rfl (by (repeat (first | exact .nil | exact .refl _ | exact .h | apply Pick.t | apply Picks.cons | apply Picks.skip)); done)
    | exact E_fin1 (.inr rfl) rfl rfl rfl (by (repeat (first | exact .nil | exact .refl _ | exact .h | apply Pick.t | apply Picks.cons | apply Picks.skip)); done)
    | exact E_fin2 (.inl rfl) rfl rfl rfl rfl (by (repeat (first | exact .nil | exact .refl _ | exact .h | apply Pick.t | apply Picks.cons | apply Picks.skip)); done)
    | exact E_fin2 (.inr rfl) rfl rfl rfl rfl (by (repeat (first | exact .nil | exact .refl _ | exact .h | apply Pick.t | apply Picks.cons | apply Picks.skip)); done)
    | exact E_fin3 (.inl rfl) rfl rfl rfl rfl rfl (by (repeat (first | exact .nil | exact .refl _ | exact .h | apply Pick.t | apply Picks.cons | apply Picks.skip)); done)
    | exact E_fin3 (.inr rfl) rfl rfl rfl rfl rfl (by (repeat (first | exact .nil | exact .refl _ | exact .h | apply Pick.t | apply Picks.cons | apply Picks.skip)); done)
    | exact E_fin0 (.inl rfl) rfl (by (repeat (first | exact .nil | exact .refl _ | exact .h | apply Pick.t | apply Picks.cons | apply Picks.skip)); done)
    | exact E_fin0 (.inr rfl) rfl (by (repeat (first | exact .nil | exact .refl _ | exact .h | apply Pick.t | apply Picks.cons | apply Picks.skip)); done) | fail)
theorem nl_begin {a : Option Addr} {k c : Nat} : CtA Try.prog 24 [.pointer none, .slice a k c] [] (.tuple #[u64v 0, .slice none 0 0, i64v 1]) fun F => F := by
  intro F; simp only [List.cons_append, List.nil_append]; refine Ct_of Try.func24 rfl (n := 65) rfl rfl ?_
  repeat (first
    | refine H_seq ?_ | refine H_block ?_ | refine H_region ?_ | refine TL_nil ?_ | refine N_then ?_ | refine N_block ?_ | refine H_skip ?_ | refine H_ret ?_ | refine R_then ?_ | refine R_block ?_ | refine H_exit ?_
    | refine X_then ?_ | refine X_block_eq ?_ | refine X_block_ne rfl ?_ | refine H_cond_t rfl ?_ | refine H_cond_f rfl ?_
    | refine TL_y (by first | exact Y_move rfl | exact Y_assign rfl | exact Y_nilCheck rfl | exact Y_nilCheckF rfl | exact Y_fieldAddr rfl | exact Y_load rfl (Vl_cl (by (repeat (first | exact .h | apply Pick.t)); done) rfl) | exact Y_load rfl (by assumption) | exact Y_loadAt rfl (by (repeat (first | exact .h | apply Pick.t)); done) (by rfl) | exact Y_ext rfl rfl | exact Y_gtrd rfl rfl (by first | exact decide_eq_true (by omega) | exact decide_eq_false (by omega)) | exact Y_gtr rfl rfl | exact Y_eqld rfl rfl (by first | exact decide_eq_true (by omega) | exact decide_eq_false (by omega)) | exact Y_eql rfl rfl | exact Y_neqd rfl rfl (by first | exact decide_eq_true (by omega) | exact decide_eq_false (by omega)) | exact Y_neq rfl rfl | exact Y_eql_nil rfl rfl | exact Y_neq_nil rfl rfl | exact Y_slice_eq_nil rfl rfl | exact Y_map_eq_nil rfl rfl | exact Y_add' rfl rfl (w64 (by omega) (by omega)) | exact Y_add' rfl rfl (wu64 (by omega) (by omega)) | fail) rfl ?_
    | refine T_store rfl rfl rfl (by (repeat (first | exact .h | apply Pick.t)); done) rfl ?_ | refine T_mapUpdate rfl rfl rfl (by (repeat (first | exact .h | apply Pick.t)); done) ?_
    | refine T_storeAt rfl rfl (by (repeat (first | exact .h | apply Pick.t)); done) (by rfl) (by rfl) (by rfl) ?_
    | refine X_y rfl (by first | exact Y_move rfl | exact Y_assign rfl | exact Y_nilCheck rfl | exact Y_nilCheckF rfl | exact Y_fieldAddr rfl | exact Y_load rfl (Vl_cl (by (repeat (first | exact .h | apply Pick.t)); done) rfl) | exact Y_load rfl (by assumption) | exact Y_loadAt rfl (by (repeat (first | exact .h | apply Pick.t)); done) (by rfl) | exact Y_ext rfl rfl | exact Y_gtrd rfl rfl (by first | exact decide_eq_true (by omega) | exact decide_eq_false (by omega)) | exact Y_gtr rfl rfl | exact Y_eqld rfl rfl (by first | exact decide_eq_true (by omega) | exact decide_eq_false (by omega)) | exact Y_eql rfl rfl | exact Y_neqd rfl rfl (by first | exact decide_eq_true (by omega) | exact decide_eq_false (by omega)) | exact Y_neq rfl rfl | exact Y_eql_nil rfl rfl | exact Y_neq_nil rfl rfl | exact Y_slice_eq_nil rfl rfl | exact Y_map_eq_nil rfl rfl | exact Y_add' rfl rfl (w64 (by omega) (by omega)) | exact Y_add' rfl rfl (wu64 (by omega) (by omega)) | fail) rfl ?_
    | refine X_loud rfl rfl ?_ | refine X_bar rfl ?_ | refine X_next (fun _ h => h) ?_
    | (refine X_next ?_ ?_; · exact fun _ h => sat_sub (by (repeat (first | exact .nil | exact .refl _ | exact .h | apply Pick.t | apply Picks.cons | apply Picks.skip)); done) h) | refine X_next (fun _ _ => sat_nil') ?_
    | refine X_nil ?_
    | refine H_draw (id := 3) 9999 _ [(0, false), (1, false), (2, false), (3, false), (4, false), (5, false), (6, false), (7, false), (8, false), (9, false), (10, false), (11, true), (12, false), (13, false), (14, false), (15, false), (16, false)] (by kernel_rfl) (fun _ h => h) ?_
    | exact E_fin1 (.inl rfl) rfl rfl rfl (by (repeat (first | exact .nil | exact .refl _ | exact .h | apply Pick.t | apply Picks.cons | apply Picks.skip)); done)
    | exact E_fin1 (.inr rfl) rfl rfl rfl (by (repeat (first | exact .nil | exact .refl _ | exact .h | apply Pick.t | apply Picks.cons | apply Picks.skip)); done)
    | exact E_fin2 (.inl rfl) rfl rfl rfl rfl (by (repeat (first | exact .nil | exact .refl _ | exact .h | apply Pick.t | apply Picks.cons | apply Picks.skip)); done)
    | exact E_fin2 (.inr rfl) rfl rfl rfl rfl (by (repeat (first | exact .nil | exact .refl _ | exact .h | apply Pick.t | apply Picks.cons | apply Picks.skip)); done)
    | exact E_fin3 (.inl rfl) rfl rfl rfl rfl rfl (by (repeat (first | exact .nil | exact .refl _ | exact .h | apply Pick.t | apply Picks.cons | apply Picks.skip)); done)
    | exact E_fin3 (.inr rfl) rfl rfl rfl rfl rfl (by (repeat (first | exact .nil | exact .refl _ | exact .h | apply Pick.t | apply Picks.cons | apply Picks.skip)); done)
    | exact E_fin0 (.inl rfl) rfl (by (repeat (first | exact .nil | exact .refl _ | exact .h | apply Pick.t | apply Picks.cons | apply Picks.skip)); done)
    | exact E_fin0 (.inr rfl) rfl (by (repeat (first | exact .nil | exact .refl _ | exact .h | apply Pick.t | apply Picks.cons | apply Picks.skip)); done) | fail)
theorem small_ct : CtA Try.prog 23 [] [] (cfgV 4 5 3 5 2) fun F => F := by
  unfold cfgV
  intro F; simp only [List.cons_append, List.nil_append]; refine Ct_of Try.func23 rfl (n := 2) rfl rfl ?_
  repeat (first
    | refine H_seq ?_ | refine H_block ?_ | refine H_region ?_ | refine TL_nil ?_ | refine N_then ?_ | refine N_block ?_ | refine H_skip ?_ | refine H_ret ?_ | refine R_then ?_ | refine R_block ?_ | refine H_exit ?_
    | refine X_then ?_ | refine X_block_eq ?_ | refine X_block_ne rfl ?_ | refine H_cond_t rfl ?_ | refine H_cond_f rfl ?_ | refine TL_y (by first | exact Y_buildp rfl rfl rfl | fail) rfl ?_
    | refine T_store rfl rfl rfl (by (repeat (first | exact .h | apply Pick.t)); done) rfl ?_ | refine T_alloc rfl fun p1 => ?_
    | refine T_storeAt rfl rfl (by (repeat (first | exact .h | apply Pick.t)); done) (by rfl) (by rfl) (by rfl) ?_
    | exact E_fin1 (.inl rfl) rfl rfl rfl (by (repeat (first | exact .nil | exact .refl _ | exact .h | apply Pick.t | apply Picks.cons | apply Picks.skip)); done)
    | exact E_fin1 (.inr rfl) rfl rfl rfl (by (repeat (first | exact .nil | exact .refl _ | exact .h | apply Pick.t | apply Picks.cons | apply Picks.skip)); done)
    | exact E_fin2 (.inl rfl) rfl rfl rfl rfl (by (repeat (first | exact .nil | exact .refl _ | exact .h | apply Pick.t | apply Picks.cons | apply Picks.skip)); done)
    | exact E_fin2 (.inr rfl) rfl rfl rfl rfl (by (repeat (first | exact .nil | exact .refl _ | exact .h | apply Pick.t | apply Picks.cons | apply Picks.skip)); done)
    | exact E_fin3 (.inl rfl) rfl rfl rfl rfl rfl (by (repeat (first | exact .nil | exact .refl _ | exact .h | apply Pick.t | apply Picks.cons | apply Picks.skip)); done)
    | exact E_fin3 (.inr rfl) rfl rfl rfl rfl rfl (by (repeat (first | exact .nil | exact .refl _ | exact .h | apply Pick.t | apply Picks.cons | apply Picks.skip)); done)
    | exact E_fin0 (.inl rfl) rfl (by (repeat (first | exact .nil | exact .refl _ | exact .h | apply Pick.t | apply Picks.cons | apply Picks.skip)); done)
    | exact E_fin0 (.inr rfl) rfl (by (repeat (first | exact .nil | exact .refl _ | exact .h | apply Pick.t | apply Picks.cons | apply Picks.skip)); done) | fail)
  exact E_fin1cA (.inl rfl) (by rfl) (by rfl) (by (repeat (first | exact .h | apply Pick.t)); done) (by rfl) (by rfl) (by (repeat (first | exact .nil | exact .refl _ | exact .h | apply Pick.t | apply Picks.cons | apply Picks.skip)); done)
/-- SameTickets, SameForm -/
theorem same_tickets {a b : Option Addr} {ca cb : Nat} {xs ys : List Int} {A : List Asn} (hx : Rd A a (xs.map u64v)) (hy : Rd A b (ys.map u64v)) (hk : xs.length ≤ 1000000) (hk2 : ys.length ≤ 1000000) :
    CtA Try.prog 26 [.slice a xs.length ca, .slice b ys.length cb] A (.bool (decide (xs = ys))) fun F => A ++ F := by
  intro F; simp only [List.cons_append, List.nil_append]; refine Ct_of Try.func26 rfl (n := 26) rfl rfl ?_
  by_cases hl : xs.length = ys.length
  · repeat (first
      | refine H_seq ?_ | refine H_block ?_ | refine H_region ?_ | refine TL_nil ?_ | refine N_then ?_ | refine N_block ?_ | refine H_skip ?_ | refine H_ret ?_ | refine R_then ?_ | refine R_block ?_ | refine H_exit ?_
      | refine X_then ?_ | refine X_block_eq ?_ | refine X_block_ne rfl ?_ | refine H_cond_t rfl ?_ | refine H_cond_f rfl ?_
      | refine TL_y (by first | exact Y_move rfl | exact Y_assign rfl | exact Y_load rfl (Vl_cl (by (repeat (first | exact .h | apply Pick.t)); done) rfl) | exact Y_load rfl (by assumption) | exact Y_indexAddr rfl rfl (by omega) (by first | omega | (simp only [List.length_cons]; omega)) | exact Y_load rfl (Vl_elem (by (repeat (first | exact .h | apply Pick.t)); done) (by assumption)) | exact Y_loadAt rfl (by (repeat (first | exact .h | apply Pick.t)); done) (by rfl) | exact Y_lssd rfl rfl (by first | exact decide_eq_true (by omega) | exact decide_eq_false (by omega)) | exact Y_lss rfl rfl | exact Y_neqd rfl rfl (by first | exact decide_eq_true (by omega) | exact decide_eq_false (by omega)) | exact Y_neq rfl rfl | exact Y_neq_nil rfl rfl | exact Y_add' rfl rfl (w64 (by omega) (by omega)) | exact Y_add' rfl rfl (wu64 (by omega) (by omega)) | exact Y_len_slice rfl | fail) rfl ?_
      | refine X_y rfl (by first | exact Y_move rfl | exact Y_assign rfl | exact Y_load rfl (Vl_cl (by (repeat (first | exact .h | apply Pick.t)); done) rfl) | exact Y_load rfl (by assumption) | exact Y_indexAddr rfl rfl (by omega) (by first | omega | (simp only [List.length_cons]; omega)) | exact Y_load rfl (Vl_elem (by (repeat (first | exact .h | apply Pick.t)); done) (by assumption)) | exact Y_loadAt rfl (by (repeat (first | exact .h | apply Pick.t)); done) (by rfl) | exact Y_lssd rfl rfl (by first | exact decide_eq_true (by omega) | exact decide_eq_false (by omega)) | exact Y_lss rfl rfl | exact Y_neqd rfl rfl (by first | exact decide_eq_true (by omega) | exact decide_eq_false (by omega)) | exact Y_neq rfl rfl | exact Y_neq_nil rfl rfl | exact Y_add' rfl rfl (w64 (by omega) (by omega)) | exact Y_add' rfl rfl (wu64 (by omega) (by omega)) | exact Y_len_slice rfl | fail) rfl ?_
      | refine X_loud rfl rfl ?_ | refine X_bar rfl ?_ | refine X_next (fun _ h => h) ?_
      | (refine X_next ?_ ?_; · exact fun _ h => sat_sub (by (repeat (first | exact .nil | exact .refl _ | exact .h | apply Pick.t | apply Picks.cons | apply Picks.skip)); done) h)
      | refine X_next (fun _ _ => sat_nil') ?_ | refine X_nil ?_
      | refine H_draw (id := 6) 9999 _ [(0, false), (1, false), (2, false), (3, false), (4, false), (5, false), (6, false), (7, false), (8, false)] (by kernel_rfl) (fun _ h => h) ?_
      | exact E_fin1 (.inl rfl) rfl rfl rfl (by (repeat (first | exact .nil | exact .refl _ | exact .h | apply Pick.t | apply Picks.cons | apply Picks.skip)); done)
      | exact E_fin1 (.inr rfl) rfl rfl rfl (by (repeat (first | exact .nil | exact .refl _ | exact .h | apply Pick.t | apply Picks.cons | apply Picks.skip)); done)
      | exact E_fin2 (.inl rfl) rfl rfl rfl rfl (by (repeat (first | exact .nil | exact .refl _ | exact .h | apply Pick.t | apply Picks.cons | apply Picks.skip)); done)
      | exact E_fin2 (.inr rfl) rfl rfl rfl rfl (by (repeat (first | exact .nil | exact .refl _ | exact .h | apply Pick.t | apply Picks.cons | apply Picks.skip)); done)
      | exact E_fin3 (.inl rfl) rfl rfl rfl rfl rfl (by (repeat (first | exact .nil | exact .refl _ | exact .h | apply Pick.t | apply Picks.cons | apply Picks.skip)); done)
      | exact E_fin3 (.inr rfl) rfl rfl rfl rfl rfl (by (repeat (first | exact .nil | exact .refl _ | exact .h | apply Pick.t | apply Picks.cons | apply Picks.skip)); done)
      | exact E_fin0 (.inl rfl) rfl (by (repeat (first | exact .nil | exact .refl _ | exact .h | apply Pick.t | apply Picks.cons | apply Picks.skip)); done)
      | exact E_fin0 (.inr rfl) rfl (by (repeat (first | exact .nil | exact .refl _ | exact .h | apply Pick.t | apply Picks.cons | apply Picks.skip)); done) | fail)
    refine H_loopk [0, 1] (fun i : Nat => [(5, i64v i)]) (fun _ => A ++ F) (fun i => i ≤ xs.length ∧ xs.take i = ys.take i) (fun i => xs.length - i) 0 ⟨Nat.zero_le _, by simp⟩ ⟨rfl, trivial⟩ (fun _ h => h) ?_
    rintro i ⟨hi, he⟩
    by_cases hlt : i < xs.length
    · obtain ⟨x, hx'⟩ := getSome hlt
      obtain ⟨y, hy'⟩ := getSome (show i < ys.length by omega)
      refine H_Rd_some (Rd_app hx) (by intro e; simp at e; subst e; simp at hlt) fun b1 o1 e1 => ?_
      subst e1
      refine H_Rd_some (Rd_app hy) (by intro e; simp at e; subst e; simp at hl; subst hl; simp at hlt) fun b2 o2 e2 => ?_
      subst e2
      have hv1 := Rd_elem (Rd_app (F := F) hx) hx'
      have hv2 := Rd_elem (Rd_app (F := F) hy) hy'
      by_cases hxy : x = y
      · subst hxy
        repeat (first
          | refine H_seq ?_ | refine H_block ?_ | refine H_region ?_ | refine TL_nil ?_ | refine N_then ?_ | refine N_block ?_ | refine H_skip ?_ | refine H_ret ?_ | refine R_then ?_ | refine R_block ?_
          | refine H_exit ?_ | refine X_then ?_ | refine X_block_eq ?_ | refine X_block_ne rfl ?_ | refine H_cond_t rfl ?_ | refine H_cond_f rfl ?_
          | refine TL_y (by first | exact Y_move rfl | exact Y_assign rfl | exact Y_load rfl (Vl_cl (by (repeat (first | exact .h | apply Pick.t)); done) rfl) | exact Y_load rfl (by assumption) | exact Y_indexAddr rfl rfl (by omega) (by first | omega | (simp only [List.length_cons]; omega)) | exact Y_load rfl (Vl_elem (by (repeat (first | exact .h | apply Pick.t)); done) (by assumption)) | exact Y_loadAt rfl (by (repeat (first | exact .h | apply Pick.t)); done) (by rfl) | exact Y_lssd rfl rfl (by first | exact decide_eq_true (by omega) | exact decide_eq_false (by omega)) | exact Y_lss rfl rfl | exact Y_neqd rfl rfl (by first | exact decide_eq_true (by omega) | exact decide_eq_false (by omega)) | exact Y_neq rfl rfl | exact Y_neq_nil rfl rfl | exact Y_add' rfl rfl (w64 (by omega) (by omega)) | exact Y_add' rfl rfl (wu64 (by omega) (by omega)) | exact Y_len_slice rfl | fail) rfl ?_
          | refine X_y rfl (by first | exact Y_move rfl | exact Y_assign rfl | exact Y_load rfl (Vl_cl (by (repeat (first | exact .h | apply Pick.t)); done) rfl) | exact Y_load rfl (by assumption) | exact Y_indexAddr rfl rfl (by omega) (by first | omega | (simp only [List.length_cons]; omega)) | exact Y_load rfl (Vl_elem (by (repeat (first | exact .h | apply Pick.t)); done) (by assumption)) | exact Y_loadAt rfl (by (repeat (first | exact .h | apply Pick.t)); done) (by rfl) | exact Y_lssd rfl rfl (by first | exact decide_eq_true (by omega) | exact decide_eq_false (by omega)) | exact Y_lss rfl rfl | exact Y_neqd rfl rfl (by first | exact decide_eq_true (by omega) | exact decide_eq_false (by omega)) | exact Y_neq rfl rfl | exact Y_neq_nil rfl rfl | exact Y_add' rfl rfl (w64 (by omega) (by omega)) | exact Y_add' rfl rfl (wu64 (by omega) (by omega)) | exact Y_len_slice rfl | fail) rfl ?_
          | refine X_loud rfl rfl ?_ | refine X_bar rfl ?_ | refine X_next (fun _ h => h) ?_
          | (refine X_next ?_ ?_; · exact fun _ h => sat_sub (by (repeat (first | exact .nil | exact .refl _ | exact .h | apply Pick.t | apply Picks.cons | apply Picks.skip)); done) h)
          | refine X_next (fun _ _ => sat_nil') ?_ | refine X_nil ?_
          | refine H_draw (id := 6) 9999 _ [(0, false), (1, false), (2, false), (3, false), (4, false), (5, false), (6, false), (7, false), (8, false)] (by kernel_rfl) (fun _ h => h) ?_
          | exact E_fin1 (.inl rfl) rfl rfl rfl (by (repeat (first | exact .nil | exact .refl _ | exact .h | apply Pick.t | apply Picks.cons | apply Picks.skip)); done)
          | exact E_fin1 (.inr rfl) rfl rfl rfl (by (repeat (first | exact .nil | exact .refl _ | exact .h | apply Pick.t | apply Picks.cons | apply Picks.skip)); done)
          | exact E_fin2 (.inl rfl) rfl rfl rfl rfl (by (repeat (first | exact .nil | exact .refl _ | exact .h | apply Pick.t | apply Picks.cons | apply Picks.skip)); done)
          | exact E_fin2 (.inr rfl) rfl rfl rfl rfl (by (repeat (first | exact .nil | exact .refl _ | exact .h | apply Pick.t | apply Picks.cons | apply Picks.skip)); done)
          | exact E_fin3 (.inl rfl) rfl rfl rfl rfl rfl (by (repeat (first | exact .nil | exact .refl _ | exact .h | apply Pick.t | apply Picks.cons | apply Picks.skip)); done)
          | exact E_fin3 (.inr rfl) rfl rfl rfl rfl rfl (by (repeat (first | exact .nil | exact .refl _ | exact .h | apply Pick.t | apply Picks.cons | apply Picks.skip)); done)
          | exact E_fin0 (.inl rfl) rfl (by (repeat (first | exact .nil | exact .refl _ | exact .h | apply Pick.t | apply Picks.cons | apply Picks.skip)); done)
          | exact E_fin0 (.inr rfl) rfl (by (repeat (first | exact .nil | exact .refl _ | exact .h | apply Pick.t | apply Picks.cons | apply Picks.skip)); done) | fail)
        exact N_rk (i + 1) ⟨hlt, by rw [List.take_add_one, List.take_add_one, hx', hy', he]⟩ (by omega) ⟨rfl, trivial⟩ ⟨rfl, rfl, trivial⟩ fun _ h => h
      · rw [decide_eq_false (by rintro rfl; rw [hx'] at hy'; cases hy'; exact hxy rfl)]
        repeat (first
          | refine H_seq ?_ | refine H_block ?_ | refine H_region ?_ | refine TL_nil ?_ | refine N_then ?_ | refine N_block ?_ | refine H_skip ?_ | refine H_ret ?_ | refine R_then ?_ | refine R_block ?_
          | refine H_exit ?_ | refine X_then ?_ | refine X_block_eq ?_ | refine X_block_ne rfl ?_ | refine H_cond_t rfl ?_ | refine H_cond_f rfl ?_
          | refine TL_y (by first | exact Y_move rfl | exact Y_assign rfl | exact Y_load rfl (Vl_cl (by (repeat (first | exact .h | apply Pick.t)); done) rfl) | exact Y_load rfl (by assumption) | exact Y_indexAddr rfl rfl (by omega) (by first | omega | (simp only [List.length_cons]; omega)) | exact Y_load rfl (Vl_elem (by (repeat (first | exact .h | apply Pick.t)); done) (by assumption)) | exact Y_loadAt rfl (by (repeat (first | exact .h | apply Pick.t)); done) (by rfl) | exact Y_lssd rfl rfl (by first | exact decide_eq_true (by omega) | exact decide_eq_false (by omega)) | exact Y_lss rfl rfl | exact Y_neqd rfl rfl (by first | exact decide_eq_true (by omega) | exact decide_eq_false (by omega)) | exact Y_neq rfl rfl | exact Y_neq_nil rfl rfl | exact Y_add' rfl rfl (w64 (by omega) (by omega)) | exact Y_add' rfl rfl (wu64 (by omega) (by omega)) | exact Y_len_slice rfl | fail) rfl ?_
          | refine X_y rfl (by first | exact Y_move rfl | exact Y_assign rfl | exact Y_load rfl (Vl_cl (by (repeat (first | exact .h | apply Pick.t)); done) rfl) | exact Y_load rfl (by assumption) | exact Y_indexAddr rfl rfl (by omega) (by first | omega | (simp only [List.length_cons]; omega)) | exact Y_load rfl (Vl_elem (by (repeat (first | exact .h | apply Pick.t)); done) (by assumption)) | exact Y_loadAt rfl (by (repeat (first | exact .h | apply Pick.t)); done) (by rfl) | exact Y_lssd rfl rfl (by first | exact decide_eq_true (by omega) | exact decide_eq_false (by omega)) | exact Y_lss rfl rfl | exact Y_neqd rfl rfl (by first | exact decide_eq_true (by omega) | exact decide_eq_false (by omega)) | exact Y_neq rfl rfl | exact Y_neq_nil rfl rfl | exact Y_add' rfl rfl (w64 (by omega) (by omega)) | exact Y_add' rfl rfl (wu64 (by omega) (by omega)) | exact Y_len_slice rfl | fail) rfl ?_
          | refine X_loud rfl rfl ?_ | refine X_bar rfl ?_ | refine X_next (fun _ h => h) ?_
          | (refine X_next ?_ ?_; · exact fun _ h => sat_sub (by (repeat (first | exact .nil | exact .refl _ | exact .h | apply Pick.t | apply Picks.cons | apply Picks.skip)); done) h)
          | refine X_next (fun _ _ => sat_nil') ?_ | refine X_nil ?_
          | refine H_draw (id := 6) 9999 _ [(0, false), (1, false), (2, false), (3, false), (4, false), (5, false), (6, false), (7, false), (8, false)] (by kernel_rfl) (fun _ h => h) ?_
          | exact E_fin1 (.inl rfl) rfl rfl rfl (by (repeat (first | exact .nil | exact .refl _ | exact .h | apply Pick.t | apply Picks.cons | apply Picks.skip)); done)
          | exact E_fin1 (.inr rfl) rfl rfl rfl (by (repeat (first | exact .nil | exact .refl _ | exact .h | apply Pick.t | apply Picks.cons | apply Picks.skip)); done)
          | exact E_fin2 (.inl rfl) rfl rfl rfl rfl (by (repeat (first | exact .nil | exact .refl _ | exact .h | apply Pick.t | apply Picks.cons | apply Picks.skip)); done)
          | exact E_fin2 (.inr rfl) rfl rfl rfl rfl (by (repeat (first | exact .nil | exact .refl _ | exact .h | apply Pick.t | apply Picks.cons | apply Picks.skip)); done)
          | exact E_fin3 (.inl rfl) rfl rfl rfl rfl rfl (by (repeat (first | exact .nil | exact .refl _ | exact .h | apply Pick.t | apply Picks.cons | apply Picks.skip)); done)
          | exact E_fin3 (.inr rfl) rfl rfl rfl rfl rfl (by (repeat (first | exact .nil | exact .refl _ | exact .h | apply Pick.t | apply Picks.cons | apply Picks.skip)); done)
          | exact E_fin0 (.inl rfl) rfl (by (repeat (first | exact .nil | exact .refl _ | exact .h | apply Pick.t | apply Picks.cons | apply Picks.skip)); done)
          | exact E_fin0 (.inr rfl) rfl (by (repeat (first | exact .nil | exact .refl _ | exact .h | apply Pick.t | apply Picks.cons | apply Picks.skip)); done) | fail)
    · have e : xs = ys := by rwa [List.take_of_length_le (by omega), List.take_of_length_le (by omega)] at he
      rw [decide_eq_true e]
      repeat (first
        | refine H_seq ?_ | refine H_block ?_ | refine H_region ?_ | refine TL_nil ?_ | refine N_then ?_ | refine N_block ?_ | refine H_skip ?_ | refine H_ret ?_ | refine R_then ?_ | refine R_block ?_ | refine H_exit ?_
        | refine X_then ?_ | refine X_block_eq ?_ | refine X_block_ne rfl ?_ | refine H_cond_t rfl ?_ | refine H_cond_f rfl ?_
        | refine TL_y (by first | exact Y_move rfl | exact Y_assign rfl | exact Y_load rfl (Vl_cl (by (repeat (first | exact .h | apply Pick.t)); done) rfl) | exact Y_load rfl (by assumption) | exact Y_indexAddr rfl rfl (by omega) (by first | omega | (simp only [List.length_cons]; omega)) | exact Y_load rfl (Vl_elem (by (repeat (first | exact .h | apply Pick.t)); done) (by assumption)) | exact Y_loadAt rfl (by (repeat (first | exact .h | apply Pick.t)); done) (by rfl) | exact Y_lssd rfl rfl (by first | exact decide_eq_true (by omega) | exact decide_eq_false (by omega)) | exact Y_lss rfl rfl | exact Y_neqd rfl rfl (by first | exact decide_eq_true (by omega) | exact decide_eq_false (by omega)) | exact Y_neq rfl rfl | exact Y_neq_nil rfl rfl | exact Y_add' rfl rfl (w64 (by omega) (by omega)) | exact Y_add' rfl rfl (wu64 (by omega) (by omega)) | exact Y_len_slice rfl | fail) rfl ?_
        | refine X_y rfl (by first | exact Y_move rfl | exact Y_assign rfl | exact Y_load rfl (Vl_cl (by (repeat (first | exact .h | apply Pick.t)); done) rfl) | exact Y_load rfl (by assumption) | exact Y_indexAddr rfl rfl (by omega) (by first | omega | (simp only [List.length_cons]; omega)) | exact Y_load rfl (Vl_elem (by (repeat (first | exact .h | apply Pick.t)); done) (by assumption)) | exact Y_loadAt rfl (by (repeat (first | exact .h | apply Pick.t)); done) (by rfl) | exact Y_lssd rfl rfl (by first | exact decide_eq_true (by omega) | exact decide_eq_false (by omega)) | exact Y_lss rfl rfl | exact Y_neqd rfl rfl (by first | exact decide_eq_true (by omega) | exact decide_eq_false (by omega)) | exact Y_neq rfl rfl | exact Y_neq_nil rfl rfl | exact Y_add' rfl rfl (w64 (by omega) (by omega)) | exact Y_add' rfl rfl (wu64 (by omega) (by omega)) | exact Y_len_slice rfl | fail) rfl ?_
        | refine X_loud rfl rfl ?_ | refine X_bar rfl ?_ | refine X_next (fun _ h => h) ?_
        | (refine X_next ?_ ?_; · exact fun _ h => sat_sub (by (repeat (first | exact .nil | exact .refl _ | exact .h | apply Pick.t | apply Picks.cons | apply Picks.skip)); done) h)
        | refine X_next (fun _ _ => sat_nil') ?_ | refine X_nil ?_
        | refine H_draw (id := 6) 9999 _ [(0, false), (1, false), (2, false), (3, false), (4, false), (5, false), (6, false), (7, false), (8, false)] (by kernel_rfl) (fun _ h => h) ?_
        | exact E_fin1 (.inl rfl) rfl rfl rfl (by (repeat (first | exact .nil | exact .refl _ | exact .h | apply Pick.t | apply Picks.cons | apply Picks.skip)); done)
        | exact E_fin1 (.inr rfl) rfl rfl rfl (by (repeat (first | exact .nil | exact .refl _ | exact .h | apply Pick.t | apply Picks.cons | apply Picks.skip)); done)
        | exact E_fin2 (.inl rfl) rfl rfl rfl rfl (by (repeat (first | exact .nil | exact .refl _ | exact .h | apply Pick.t | apply Picks.cons | apply Picks.skip)); done)
        | exact E_fin2 (.inr rfl) rfl rfl rfl rfl (by (repeat (first | exact .nil | exact .refl _ | exact .h | apply Pick.t | apply Picks.cons | apply Picks.skip)); done)
        | exact E_fin3 (.inl rfl) rfl rfl rfl rfl rfl (by (repeat (first | exact .nil | exact .refl _ | exact .h | apply Pick.t | apply Picks.cons | apply Picks.skip)); done)
        | exact E_fin3 (.inr rfl) rfl rfl rfl rfl rfl (by (repeat (first | exact .nil | exact .refl _ | exact .h | apply Pick.t | apply Picks.cons | apply Picks.skip)); done)
        | exact E_fin0 (.inl rfl) rfl (by (repeat (first | exact .nil | exact .refl _ | exact .h | apply Pick.t | apply Picks.cons | apply Picks.skip)); done)
        | exact E_fin0 (.inr rfl) rfl (by (repeat (first | exact .nil | exact .refl _ | exact .h | apply Pick.t | apply Picks.cons | apply Picks.skip)); done) | fail)
  · rw [decide_eq_false (by rintro rfl; exact hl rfl)]
    repeat (first
      | refine H_seq ?_ | refine H_block ?_ | refine H_region ?_ | refine TL_nil ?_ | refine N_then ?_ | refine N_block ?_ | refine H_skip ?_ | refine H_ret ?_ | refine R_then ?_ | refine R_block ?_ | refine H_exit ?_
      | refine X_then ?_ | refine X_block_eq ?_ | refine X_block_ne rfl ?_ | refine H_cond_t rfl ?_ | refine H_cond_f rfl ?_
      | refine TL_y (by first | exact Y_move rfl | exact Y_assign rfl | exact Y_load rfl (Vl_cl (by (repeat (first | exact .h | apply Pick.t)); done) rfl) | exact Y_load rfl (by assumption) | exact Y_indexAddr rfl rfl (by omega) (by first | omega | (simp only [List.length_cons]; omega)) | exact Y_load rfl (Vl_elem (by (repeat (first | exact .h | apply Pick.t)); done) (by assumption)) | exact Y_loadAt rfl (by (repeat (first | exact .h | apply Pick.t)); done) (by rfl) | exact Y_lssd rfl rfl (by first | exact decide_eq_true (by omega) | exact decide_eq_false (by omega)) | exact Y_lss rfl rfl | exact Y_neqd rfl rfl (by first | exact decide_eq_true (by omega) | exact decide_eq_false (by omega)) | exact Y_neq rfl rfl | exact Y_neq_nil rfl rfl | exact Y_add' rfl rfl (w64 (by omega) (by omega)) | exact Y_add' rfl rfl (wu64 (by omega) (by omega)) | exact Y_len_slice rfl | fail) rfl ?_
      | refine X_y rfl (by first | exact Y_move rfl | exact Y_assign rfl | exact Y_load rfl (Vl_cl (by (repeat (first | exact .h | apply Pick.t)); done) rfl) | exact Y_load rfl (by assumption) | exact Y_indexAddr rfl rfl (by omega) (by first | omega | (simp only [List.length_cons]; omega)) | exact Y_load rfl (Vl_elem (by (repeat (first | exact .h | apply Pick.t)); done) (by assumption)) | exact Y_loadAt rfl (by (repeat (first | exact .h | apply Pick.t)); done) (by rfl) | exact Y_lssd rfl rfl (by first | exact decide_eq_true (by omega) | exact decide_eq_false (by omega)) | exact Y_lss rfl rfl | exact Y_neqd rfl rfl (by first | exact decide_eq_true (by omega) | exact decide_eq_false (by omega)) | exact Y_neq rfl rfl | exact Y_neq_nil rfl rfl | exact Y_add' rfl rfl (w64 (by omega) (by omega)) | exact Y_add' rfl rfl (wu64 (by omega) (by omega)) | exact Y_len_slice rfl | fail) rfl ?_
      | refine X_loud rfl rfl ?_ | refine X_bar rfl ?_ | refine X_next (fun _ h => h) ?_
      | (refine X_next ?_ ?_; · exact fun _ h => sat_sub (by (repeat (first | exact .nil | exact .refl _ | exact .h | apply Pick.t | apply Picks.cons | apply Picks.skip)); done) h)
      | refine X_next (fun _ _ => sat_nil') ?_ | refine X_nil ?_
      | refine H_draw (id := 6) 9999 _ [(0, false), (1, false), (2, false), (3, false), (4, false), (5, false), (6, false), (7, false), (8, false)] (by kernel_rfl) (fun _ h => h) ?_
      | exact E_fin1 (.inl rfl) rfl rfl rfl (by (repeat (first | exact .nil | exact .refl _ | exact .h | apply Pick.t | apply Picks.cons | apply Picks.skip)); done)
      | exact E_fin1 (.inr rfl) rfl rfl rfl (by (repeat (first | exact .nil | exact .refl _ | exact .h | apply Pick.t | apply Picks.cons | apply Picks.skip)); done)
      | exact E_fin2 (.inl rfl) rfl rfl rfl rfl (by (repeat (first | exact .nil | exact .refl _ | exact .h | apply Pick.t | apply Picks.cons | apply Picks.skip)); done)
      | exact E_fin2 (.inr rfl) rfl rfl rfl rfl (by (repeat (first | exact .nil | exact .refl _ | exact .h | apply Pick.t | apply Picks.cons | apply Picks.skip)); done)
      | exact E_fin3 (.inl rfl) rfl rfl rfl rfl rfl (by (repeat (first | exact .nil | exact .refl _ | exact .h | apply Pick.t | apply Picks.cons | apply Picks.skip)); done)
      | exact E_fin3 (.inr rfl) rfl rfl rfl rfl rfl (by (repeat (first | exact .nil | exact .refl _ | exact .h | apply Pick.t | apply Picks.cons | apply Picks.skip)); done)
      | exact E_fin0 (.inl rfl) rfl (by (repeat (first | exact .nil | exact .refl _ | exact .h | apply Pick.t | apply Picks.cons | apply Picks.skip)); done)
      | exact E_fin0 (.inr rfl) rfl (by (repeat (first | exact .nil | exact .refl _ | exact .h | apply Pick.t | apply Picks.cons | apply Picks.skip)); done) | fail)

theorem same_form {a b : Option Addr} {ca cb : Nat} {xs ys : List Int} {A : List Asn} (hx : Rd A a (xs.map i64v)) (hy : Rd A b (ys.map i64v)) (hk : xs.length ≤ 1000000) (hk2 : ys.length ≤ 1000000) :
    CtA Try.prog 70 [.slice a xs.length ca, .slice b ys.length cb] A (.bool (decide (xs = ys))) fun F => A ++ F := by
  intro F; simp only [List.cons_append, List.nil_append]; refine Ct_of Try.func70 rfl (n := 26) rfl rfl ?_
  by_cases hl : xs.length = ys.length
  · repeat (first
      | refine H_seq ?_ | refine H_block ?_ | refine H_region ?_ | refine TL_nil ?_ | refine N_then ?_ | refine N_block ?_ | refine H_skip ?_ | refine H_ret ?_ | refine R_then ?_ | refine R_block ?_ | refine H_exit ?_
      | refine X_then ?_ | refine X_block_eq ?_ | refine X_block_ne rfl ?_ | refine H_cond_t rfl ?_ | refine H_cond_f rfl ?_
      | refine TL_y (by first | exact Y_move rfl | exact Y_assign rfl | exact Y_load rfl (Vl_cl (by (repeat (first | exact .h | apply Pick.t)); done) rfl) | exact Y_load rfl (by assumption) | exact Y_indexAddr rfl rfl (by omega) (by first | omega | (simp only [List.length_cons]; omega)) | exact Y_load rfl (Vl_elem (by (repeat (first | exact .h | apply Pick.t)); done) (by assumption)) | exact Y_loadAt rfl (by (repeat (first | exact .h | apply Pick.t)); done) (by rfl) | exact Y_lssd rfl rfl (by first | exact decide_eq_true (by omega) | exact decide_eq_false (by omega)) | exact Y_lss rfl rfl | exact Y_neqd rfl rfl (by first | exact decide_eq_true (by omega) | exact decide_eq_false (by omega)) | exact Y_neq rfl rfl | exact Y_neq_nil rfl rfl | exact Y_add' rfl rfl (w64 (by omega) (by omega)) | exact Y_add' rfl rfl (wu64 (by omega) (by omega)) | exact Y_len_slice rfl | fail) rfl ?_
      | refine X_y rfl (by first | exact Y_move rfl | exact Y_assign rfl | exact Y_load rfl (Vl_cl (by (repeat (first | exact .h | apply Pick.t)); done) rfl) | exact Y_load rfl (by assumption) | exact Y_indexAddr rfl rfl (by omega) (by first | omega | (simp only [List.length_cons]; omega)) | exact Y_load rfl (Vl_elem (by (repeat (first | exact .h | apply Pick.t)); done) (by assumption)) | exact Y_loadAt rfl (by (repeat (first | exact .h | apply Pick.t)); done) (by rfl) | exact Y_lssd rfl rfl (by first | exact decide_eq_true (by omega) | exact decide_eq_false (by omega)) | exact Y_lss rfl rfl | exact Y_neqd rfl rfl (by first | exact decide_eq_true (by omega) | exact decide_eq_false (by omega)) | exact Y_neq rfl rfl | exact Y_neq_nil rfl rfl | exact Y_add' rfl rfl (w64 (by omega) (by omega)) | exact Y_add' rfl rfl (wu64 (by omega) (by omega)) | exact Y_len_slice rfl | fail) rfl ?_
      | refine X_loud rfl rfl ?_ | refine X_bar rfl ?_ | refine X_next (fun _ h => h) ?_
      | (refine X_next ?_ ?_; · exact fun _ h => sat_sub (by (repeat (first | exact .nil | exact .refl _ | exact .h | apply Pick.t | apply Picks.cons | apply Picks.skip)); done) h)
      | refine X_next (fun _ _ => sat_nil') ?_ | refine X_nil ?_
      | refine H_draw (id := 6) 9999 _ [(0, false), (1, false), (2, false), (3, false), (4, false), (5, false), (6, false), (7, false), (8, false)] (by kernel_rfl) (fun _ h => h) ?_
      | exact E_fin1 (.inl rfl) rfl rfl rfl (by (repeat (first | exact .nil | exact .refl _ | exact .h | apply Pick.t | apply Picks.cons | apply Picks.skip)); done)
      | exact E_fin1 (.inr rfl) rfl rfl rfl (by (repeat (first | exact .nil | exact .refl _ | exact .h | apply Pick.t | apply Picks.cons | apply Picks.skip)); done)
      | exact E_fin2 (.inl rfl) rfl rfl rfl rfl (by (repeat (first | exact .nil | exact .refl _ | exact .h | apply Pick.t | apply Picks.cons | apply Picks.skip)); done)
      | exact E_fin2 (.inr rfl) rfl rfl rfl rfl (by (repeat (first | exact .nil | exact .refl _ | exact .h | apply Pick.t | apply Picks.cons | apply Picks.skip)); done)
      | exact E_fin3 (.inl rfl) rfl rfl rfl rfl rfl (by (repeat (first | exact .nil | exact .refl _ | exact .h | apply Pick.t | apply Picks.cons | apply Picks.skip)); done)
      | exact E_fin3 (.inr rfl) rfl rfl rfl rfl rfl (by (repeat (first | exact .nil | exact .refl _ | exact .h | apply Pick.t | apply Picks.cons | apply Picks.skip)); done)
      | exact E_fin0 (.inl rfl) rfl (by (repeat (first | exact .nil | exact .refl _ | exact .h | apply Pick.t | apply Picks.cons | apply Picks.skip)); done)
      | exact E_fin0 (.inr rfl) rfl (by (repeat (first | exact .nil | exact .refl _ | exact .h | apply Pick.t | apply Picks.cons | apply Picks.skip)); done) | fail)
    refine H_loopk [0, 1] (fun i : Nat => [(5, i64v i)]) (fun _ => A ++ F) (fun i => i ≤ xs.length ∧ xs.take i = ys.take i) (fun i => xs.length - i) 0 ⟨Nat.zero_le _, by simp⟩ ⟨rfl, trivial⟩ (fun _ h => h) ?_
    rintro i ⟨hi, he⟩
    by_cases hlt : i < xs.length
    · obtain ⟨x, hx'⟩ := getSome hlt
      obtain ⟨y, hy'⟩ := getSome (show i < ys.length by omega)
      refine H_Rd_some (Rd_app hx) (by intro e; simp at e; subst e; simp at hlt) fun b1 o1 e1 => ?_
      subst e1
      refine H_Rd_some (Rd_app hy) (by intro e; simp at e; subst e; simp at hl; subst hl; simp at hlt) fun b2 o2 e2 => ?_
      subst e2
      have hv1 := Rd_elem (Rd_app (F := F) hx) hx'
      have hv2 := Rd_elem (Rd_app (F := F) hy) hy'
      by_cases hxy : x = y
      · subst hxy
        repeat (first
          | refine H_seq ?_ | refine H_block ?_ | refine H_region ?_ | refine TL_nil ?_ | refine N_then ?_ | refine N_block ?_ | refine H_skip ?_ | refine H_ret ?_ | refine R_then ?_ | refine R_block ?_
          | refine H_exit ?_ | refine X_then ?_ | refine X_block_eq ?_ | refine X_block_ne rfl ?_ | refine H_cond_t rfl ?_ | refine H_cond_f rfl ?_
          | refine TL_y (by first | exact Y_move rfl | exact Y_assign rfl | exact Y_load rfl (Vl_cl (by (repeat (first | exact .h | apply Pick.t)); done) rfl) | exact Y_load rfl (by assumption) | exact Y_indexAddr rfl rfl (by omega) (by first | omega | (simp only [List.length_cons]; omega)) | exact Y_load rfl (Vl_elem (by (repeat (first | exact .h | apply Pick.t)); done) (by assumption)) | exact Y_loadAt rfl (by (repeat (first | exact .h | apply Pick.t)); done) (by rfl) | exact Y_lssd rfl rfl (by first | exact decide_eq_true (by omega) | exact decide_eq_false (by omega)) | exact Y_lss rfl rfl | exact Y_neqd rfl rfl (by first | exact decide_eq_true (by omega) | exact decide_eq_false (by omega)) | exact Y_neq rfl rfl | exact Y_neq_nil rfl rfl | exact Y_add' rfl rfl (w64 (by omega) (by omega)) | exact Y_add' rfl rfl (wu64 (by omega) (by omega)) | exact Y_len_slice rfl | fail) rfl ?_
          | refine X_y rfl (by first | exact Y_move rfl | exact Y_assign rfl | exact Y_load rfl (Vl_cl (by (repeat (first | exact .h | apply Pick.t)); done) rfl) | exact Y_load rfl (by assumption) | exact Y_indexAddr rfl rfl (by omega) (by first | omega | (simp only [List.length_cons]; omega)) | exact Y_load rfl (Vl_elem (by (repeat (first | exact .h | apply Pick.t)); done) (by assumption)) | exact Y_loadAt rfl (by (repeat (first | exact .h | apply Pick.t)); done) (by rfl) | exact Y_lssd rfl rfl (by first | exact decide_eq_true (by omega) | exact decide_eq_false (by omega)) | exact Y_lss rfl rfl | exact Y_neqd rfl rfl (by first | exact decide_eq_true (by omega) | exact decide_eq_false (by omega)) | exact Y_neq rfl rfl | exact Y_neq_nil rfl rfl | exact Y_add' rfl rfl (w64 (by omega) (by omega)) | exact Y_add' rfl rfl (wu64 (by omega) (by omega)) | exact Y_len_slice rfl | fail) rfl ?_
          | refine X_loud rfl rfl ?_ | refine X_bar rfl ?_ | refine X_next (fun _ h => h) ?_
          | (refine X_next ?_ ?_; · exact fun _ h => sat_sub (by (repeat (first | exact .nil | exact .refl _ | exact .h | apply Pick.t | apply Picks.cons | apply Picks.skip)); done) h)
          | refine X_next (fun _ _ => sat_nil') ?_ | refine X_nil ?_
          | refine H_draw (id := 6) 9999 _ [(0, false), (1, false), (2, false), (3, false), (4, false), (5, false), (6, false), (7, false), (8, false)] (by kernel_rfl) (fun _ h => h) ?_
          | exact E_fin1 (.inl rfl) rfl rfl rfl (by (repeat (first | exact .nil | exact .refl _ | exact .h | apply Pick.t | apply Picks.cons | apply Picks.skip)); done)
          | exact E_fin1 (.inr rfl) rfl rfl rfl (by (repeat (first | exact .nil | exact .refl _ | exact .h | apply Pick.t | apply Picks.cons | apply Picks.skip)); done)
          | exact E_fin2 (.inl rfl) rfl rfl rfl rfl (by (repeat (first | exact .nil | exact .refl _ | exact .h | apply Pick.t | apply Picks.cons | apply Picks.skip)); done)
          | exact E_fin2 (.inr rfl) rfl rfl rfl rfl (by (repeat (first | exact .nil | exact .refl _ | exact .h | apply Pick.t | apply Picks.cons | apply Picks.skip)); done)
          | exact E_fin3 (.inl rfl) rfl rfl rfl rfl rfl (by (repeat (first | exact .nil | exact .refl _ | exact .h | apply Pick.t | apply Picks.cons | apply Picks.skip)); done)
          | exact E_fin3 (.inr rfl) rfl rfl rfl rfl rfl (by (repeat (first | exact .nil | exact .refl _ | exact .h | apply Pick.t | apply Picks.cons | apply Picks.skip)); done)
          | exact E_fin0 (.inl rfl) rfl (by (repeat (first | exact .nil | exact .refl _ | exact .h | apply Pick.t | apply Picks.cons | apply Picks.skip)); done)
          | exact E_fin0 (.inr rfl) rfl (by (repeat (first | exact .nil | exact .refl _ | exact .h | apply Pick.t | apply Picks.cons | apply Picks.skip)); done) | fail)
        exact N_rk (i + 1) ⟨hlt, by rw [List.take_add_one, List.take_add_one, hx', hy', he]⟩ (by omega) ⟨rfl, trivial⟩ ⟨rfl, rfl, trivial⟩ fun _ h => h
      · rw [decide_eq_false (by rintro rfl; rw [hx'] at hy'; cases hy'; exact hxy rfl)]
        repeat (first
          | refine H_seq ?_ | refine H_block ?_ | refine H_region ?_ | refine TL_nil ?_ | refine N_then ?_ | refine N_block ?_ | refine H_skip ?_ | refine H_ret ?_ | refine R_then ?_ | refine R_block ?_
          | refine H_exit ?_ | refine X_then ?_ | refine X_block_eq ?_ | refine X_block_ne rfl ?_ | refine H_cond_t rfl ?_ | refine H_cond_f rfl ?_
          | refine TL_y (by first | exact Y_move rfl | exact Y_assign rfl | exact Y_load rfl (Vl_cl (by (repeat (first | exact .h | apply Pick.t)); done) rfl) | exact Y_load rfl (by assumption) | exact Y_indexAddr rfl rfl (by omega) (by first | omega | (simp only [List.length_cons]; omega)) | exact Y_load rfl (Vl_elem (by (repeat (first | exact .h | apply Pick.t)); done) (by assumption)) | exact Y_loadAt rfl (by (repeat (first | exact .h | apply Pick.t)); done) (by rfl) | exact Y_lssd rfl rfl (by first | exact decide_eq_true (by omega) | exact decide_eq_false (by omega)) | exact Y_lss rfl rfl | exact Y_neqd rfl rfl (by first | exact decide_eq_true (by omega) | exact decide_eq_false (by omega)) | exact Y_neq rfl rfl | exact Y_neq_nil rfl rfl | exact Y_add' rfl rfl (w64 (by omega) (by omega)) | exact Y_add' rfl rfl (wu64 (by omega) (by omega)) | exact Y_len_slice rfl | fail) rfl ?_
          | refine X_y rfl (by first | exact Y_move rfl | exact Y_assign rfl | exact Y_load rfl (Vl_cl (by (repeat (first | exact .h | apply Pick.t)); done) rfl) | exact Y_load rfl (by assumption) | exact Y_indexAddr rfl rfl (by omega) (by first | omega | (simp only [List.length_cons]; omega)) | exact Y_load rfl (Vl_elem (by (repeat (first | exact .h | apply Pick.t)); done) (by assumption)) | exact Y_loadAt rfl (by (repeat (first | exact .h | apply Pick.t)); done) (by rfl) | exact Y_lssd rfl rfl (by first | exact decide_eq_true (by omega) | exact decide_eq_false (by omega)) | exact Y_lss rfl rfl | exact Y_neqd rfl rfl (by first | exact decide_eq_true (by omega) | exact decide_eq_false (by omega)) | exact Y_neq rfl rfl | exact Y_neq_nil rfl rfl | exact Y_add' rfl rfl (w64 (by omega) (by omega)) | exact Y_add' rfl rfl (wu64 (by omega) (by omega)) | exact Y_len_slice rfl | fail) rfl ?_
          | refine X_loud rfl rfl ?_ | refine X_bar rfl ?_ | refine X_next (fun _ h => h) ?_
          | (refine X_next ?_ ?_; · exact fun _ h => sat_sub (by (repeat (first | exact .nil | exact .refl _ | exact .h | apply Pick.t | apply Picks.cons | apply Picks.skip)); done) h)
          | refine X_next (fun _ _ => sat_nil') ?_ | refine X_nil ?_
          | refine H_draw (id := 6) 9999 _ [(0, false), (1, false), (2, false), (3, false), (4, false), (5, false), (6, false), (7, false), (8, false)] (by kernel_rfl) (fun _ h => h) ?_
          | exact E_fin1 (.inl rfl) rfl rfl rfl (by (repeat (first | exact .nil | exact .refl _ | exact .h | apply Pick.t | apply Picks.cons | apply Picks.skip)); done)
          | exact E_fin1 (.inr rfl) rfl rfl rfl (by (repeat (first | exact .nil | exact .refl _ | exact .h | apply Pick.t | apply Picks.cons | apply Picks.skip)); done)
          | exact E_fin2 (.inl rfl) rfl rfl rfl rfl (by (repeat (first | exact .nil | exact .refl _ | exact .h | apply Pick.t | apply Picks.cons | apply Picks.skip)); done)
          | exact E_fin2 (.inr rfl) rfl rfl rfl rfl (by (repeat (first | exact .nil | exact .refl _ | exact .h | apply Pick.t | apply Picks.cons | apply Picks.skip)); done)
          | exact E_fin3 (.inl rfl) rfl rfl rfl rfl rfl (by (repeat (first | exact .nil | exact .refl _ | exact .h | apply Pick.t | apply Picks.cons | apply Picks.skip)); done)
          | exact E_fin3 (.inr rfl) rfl rfl rfl rfl rfl (by (repeat (first | exact .nil | exact .refl _ | exact .h | apply Pick.t | apply Picks.cons | apply Picks.skip)); done)
          | exact E_fin0 (.inl rfl) rfl (by (repeat (first | exact .nil | exact .refl _ | exact .h | apply Pick.t | apply Picks.cons | apply Picks.skip)); done)
          | exact E_fin0 (.inr rfl) rfl (by (repeat (first | exact .nil | exact .refl _ | exact .h | apply Pick.t | apply Picks.cons | apply Picks.skip)); done) | fail)
    · have e : xs = ys := by rwa [List.take_of_length_le (by omega), List.take_of_length_le (by omega)] at he
      rw [decide_eq_true e]
      repeat (first
        | refine H_seq ?_ | refine H_block ?_ | refine H_region ?_ | refine TL_nil ?_ | refine N_then ?_ | refine N_block ?_ | refine H_skip ?_ | refine H_ret ?_ | refine R_then ?_ | refine R_block ?_ | refine H_exit ?_
        | refine X_then ?_ | refine X_block_eq ?_ | refine X_block_ne rfl ?_ | refine H_cond_t rfl ?_ | refine H_cond_f rfl ?_
        | refine TL_y (by first | exact Y_move rfl | exact Y_assign rfl | exact Y_load rfl (Vl_cl (by (repeat (first | exact .h | apply Pick.t)); done) rfl) | exact Y_load rfl (by assumption) | exact Y_indexAddr rfl rfl (by omega) (by first | omega | (simp only [List.length_cons]; omega)) | exact Y_load rfl (Vl_elem (by (repeat (first | exact .h | apply Pick.t)); done) (by assumption)) | exact Y_loadAt rfl (by (repeat (first | exact .h | apply Pick.t)); done) (by rfl) | exact Y_lssd rfl rfl (by first | exact decide_eq_true (by omega) | exact decide_eq_false (by omega)) | exact Y_lss rfl rfl | exact Y_neqd rfl rfl (by first | exact decide_eq_true (by omega) | exact decide_eq_false (by omega)) | exact Y_neq rfl rfl | exact Y_neq_nil rfl rfl | exact Y_add' rfl rfl (w64 (by omega) (by omega)) | exact Y_add' rfl rfl (wu64 (by omega) (by omega)) | exact Y_len_slice rfl | fail) rfl ?_
        | refine X_y rfl (by first | exact Y_move rfl | exact Y_assign rfl | exact Y_load rfl (Vl_cl (by (repeat (first | exact .h | apply Pick.t)); done) rfl) | exact Y_load rfl (by assumption) | exact Y_indexAddr rfl rfl (by omega) (by first | omega | (simp only [List.length_cons]; omega)) | exact Y_load rfl (Vl_elem (by (repeat (first | exact .h | apply Pick.t)); done) (by assumption)) | exact Y_loadAt rfl (by (repeat (first | exact .h | apply Pick.t)); done) (by rfl) | exact Y_lssd rfl rfl (by first | exact decide_eq_true (by omega) | exact decide_eq_false (by omega)) | exact Y_lss rfl rfl | exact Y_neqd rfl rfl (by first | exact decide_eq_true (by omega) | exact decide_eq_false (by omega)) | exact Y_neq rfl rfl | exact Y_neq_nil rfl rfl | exact Y_add' rfl rfl (w64 (by omega) (by omega)) | exact Y_add' rfl rfl (wu64 (by omega) (by omega)) | exact Y_len_slice rfl | fail) rfl ?_
        | refine X_loud rfl rfl ?_ | refine X_bar rfl ?_ | refine X_next (fun _ h => h) ?_
        | (refine X_next ?_ ?_; · exact fun _ h => sat_sub (by (repeat (first | exact .nil | exact .refl _ | exact .h | apply Pick.t | apply Picks.cons | apply Picks.skip)); done) h)
        | refine X_next (fun _ _ => sat_nil') ?_ | refine X_nil ?_
        | refine H_draw (id := 6) 9999 _ [(0, false), (1, false), (2, false), (3, false), (4, false), (5, false), (6, false), (7, false), (8, false)] (by kernel_rfl) (fun _ h => h) ?_
        | exact E_fin1 (.inl rfl) rfl rfl rfl (by (repeat (first | exact .nil | exact .refl _ | exact .h | apply Pick.t | apply Picks.cons | apply Picks.skip)); done)
        | exact E_fin1 (.inr rfl) rfl rfl rfl (by (repeat (first | exact .nil | exact .refl _ | exact .h | apply Pick.t | apply Picks.cons | apply Picks.skip)); done)
        | exact E_fin2 (.inl rfl) rfl rfl rfl rfl (by (repeat (first | exact .nil | exact .refl _ | exact .h | apply Pick.t | apply Picks.cons | apply Picks.skip)); done)
        | exact E_fin2 (.inr rfl) rfl rfl rfl rfl (by (repeat (first | exact .nil | exact .refl _ | exact .h | apply Pick.t | apply Picks.cons | apply Picks.skip)); done)
        | exact E_fin3 (.inl rfl) rfl rfl rfl rfl rfl (by (repeat (first | exact .nil | exact .refl _ | exact .h | apply Pick.t | apply Picks.cons | apply Picks.skip)); done)
        | exact E_fin3 (.inr rfl) rfl rfl rfl rfl rfl (by (repeat (first | exact .nil | exact .refl _ | exact .h | apply Pick.t | apply Picks.cons | apply Picks.skip)); done)
        | exact E_fin0 (.inl rfl) rfl (by (repeat (first | exact .nil | exact .refl _ | exact .h | apply Pick.t | apply Picks.cons | apply Picks.skip)); done)
        | exact E_fin0 (.inr rfl) rfl (by (repeat (first | exact .nil | exact .refl _ | exact .h | apply Pick.t | apply Picks.cons | apply Picks.skip)); done) | fail)
  · rw [decide_eq_false (by rintro rfl; exact hl rfl)]
    repeat (first
      | refine H_seq ?_ | refine H_block ?_ | refine H_region ?_ | refine TL_nil ?_ | refine N_then ?_ | refine N_block ?_ | refine H_skip ?_ | refine H_ret ?_ | refine R_then ?_ | refine R_block ?_ | refine H_exit ?_
      | refine X_then ?_ | refine X_block_eq ?_ | refine X_block_ne rfl ?_ | refine H_cond_t rfl ?_ | refine H_cond_f rfl ?_
      | refine TL_y (by first | exact Y_move rfl | exact Y_assign rfl | exact Y_load rfl (Vl_cl (by (repeat (first | exact .h | apply Pick.t)); done) rfl) | exact Y_load rfl (by assumption) | exact Y_indexAddr rfl rfl (by omega) (by first | omega | (simp only [List.length_cons]; omega)) | exact Y_load rfl (Vl_elem (by (repeat (first | exact .h | apply Pick.t)); done) (by assumption)) | exact Y_loadAt rfl (by (repeat (first | exact .h | apply Pick.t)); done) (by rfl) | exact Y_lssd rfl rfl (by first | exact decide_eq_true (by omega) | exact decide_eq_false (by omega)) | exact Y_lss rfl rfl | exact Y_neqd rfl rfl (by first | exact decide_eq_true (by omega) | exact decide_eq_false (by omega)) | exact Y_neq rfl rfl | exact Y_neq_nil rfl rfl | exact Y_add' rfl rfl (w64 (by omega) (by omega)) | exact Y_add' rfl rfl (wu64 (by omega) (by omega)) | exact Y_len_slice rfl | fail) rfl ?_
      | refine X_y rfl (by first | exact Y_move rfl | exact Y_assign rfl | exact Y_load rfl (Vl_cl (by (repeat (first | exact .h | apply Pick.t)); done) rfl) | exact Y_load rfl (by assumption) | exact Y_indexAddr rfl rfl (by omega) (by first | omega | (simp only [List.length_cons]; omega)) | exact Y_load rfl (Vl_elem (by (repeat (first | exact .h | apply Pick.t)); done) (by assumption)) | exact Y_loadAt rfl (by (repeat (first | exact .h | apply Pick.t)); done) (by rfl) | exact Y_lssd rfl rfl (by first | exact decide_eq_true (by omega) | exact decide_eq_false (by omega)) | exact Y_lss rfl rfl | exact Y_neqd rfl rfl (by first | exact decide_eq_true (by omega) | exact decide_eq_false (by omega)) | exact Y_neq rfl rfl | exact Y_neq_nil rfl rfl | exact Y_add' rfl rfl (w64 (by omega) (by omega)) | exact Y_add' rfl rfl (wu64 (by omega) (by omega)) | exact Y_len_slice rfl | fail) rfl ?_
      | refine X_loud rfl rfl ?_ | refine X_bar rfl ?_ | refine X_next (fun _ h => h) ?_
      | (refine X_next ?_ ?_; · exact fun _ h => sat_sub (by (repeat (first | exact .nil | exact .refl _ | exact .h | apply Pick.t | apply Picks.cons | apply Picks.skip)); done) h)
      | refine X_next (fun _ _ => sat_nil') ?_ | refine X_nil ?_
      | refine H_draw (id := 6) 9999 _ [(0, false), (1, false), (2, false), (3, false), (4, false), (5, false), (6, false), (7, false), (8, false)] (by kernel_rfl) (fun _ h => h) ?_
      | exact E_fin1 (.inl rfl) rfl rfl rfl (by (repeat (first | exact .nil | exact .refl _ | exact .h | apply Pick.t | apply Picks.cons | apply Picks.skip)); done)
      | exact E_fin1 (.inr rfl) rfl rfl rfl (by (repeat (first | exact .nil | exact .refl _ | exact .h | apply Pick.t | apply Picks.cons | apply Picks.skip)); done)
      | exact E_fin2 (.inl rfl) rfl rfl rfl rfl (by (repeat (first | exact .nil | exact .refl _ | exact .h | apply Pick.t | apply Picks.cons | apply Picks.skip)); done)
      | exact E_fin2 (.inr rfl) rfl rfl rfl rfl (by (repeat (first | exact .nil | exact .refl _ | exact .h | apply Pick.t | apply Picks.cons | apply Picks.skip)); done)
      | exact E_fin3 (.inl rfl) rfl rfl rfl rfl rfl (by (repeat (first | exact .nil | exact .refl _ | exact .h | apply Pick.t | apply Picks.cons | apply Picks.skip)); done)
      | exact E_fin3 (.inr rfl) rfl rfl rfl rfl rfl (by (repeat (first | exact .nil | exact .refl _ | exact .h | apply Pick.t | apply Picks.cons | apply Picks.skip)); done)
      | exact E_fin0 (.inl rfl) rfl (by (repeat (first | exact .nil | exact .refl _ | exact .h | apply Pick.t | apply Picks.cons | apply Picks.skip)); done)
      | exact E_fin0 (.inr rfl) rfl (by (repeat (first | exact .nil | exact .refl _ | exact .h | apply Pick.t | apply Picks.cons | apply Picks.skip)); done) | fail)
end Go.Proofs
namespace Go.SL
variable {P : Program}
theorem CtA_in {f : FuncId} {args : List Value} {A : List Asn} {v : Value} {B : List Asn → List Asn} (h : ∀ F, Ct P f args (A ++ F) (fun u L' => u = v ∧ L' = B F)) : CtA P f args A v B := h
theorem CtE_in {α : Type} {f : FuncId} {args : List Value} {A : List Asn} {φ : α → Prop} {v : α → Value} {B : α → List Asn → List Asn} (h : ∀ F, Ct P f args (A ++ F) (PE φ v B F)) : CtE P f args A φ v B := h
end Go.SL
namespace Go.SL
variable {n : Nat} {ds : List Deferred} {S : Sp} {L : List Asn} {P : Program} {r : Option Nat} {Q : Exit → Act → World → Prop}
/-- where two ways meet: what holds there, once -/
theorem H_cut {ι : Type} {c : Code} {G : Act → World → Prop} (S0 : ι → Sp) (L0 : ι → List Asn) (J : ι → Prop) (key : ∀ i, J i → H n ds (S0 i) (L0 i) G) (h : ∀ G', (∀ i, J i → H n ds (S0 i) (L0 i) G') → H n ds S L (W r P c (Exit.then G' Q))) : H n ds S L (W r P c (Exit.then G Q)) := h G key
theorem H_use {ι : Type} {G : Act → World → Prop} {S0 : ι → Sp} {L0 : ι → List Asn} {J : ι → Prop} (i : ι) (k : ∀ i, J i → H n ds (S0 i) (L0 i) G) (hJ : J i) (hS : SL.Sub (S0 i) S) (hL : ∀ w, sat L w → sat (L0 i) w) : H n ds S L G := fun a w hk hs => k i hJ a w (hk.sub hS) (hL w hs)
/-- an operation whose guard was not asked itself -/
theorem TLg_skipu {l0 rest : List Oper} {d : Nat} {op : Op} {ty : TypeId} {ps : String} {af : Array Edge} {j : Nat} {b : Bool} {t : Nat}
    (hj : (l0[j]?).bind Oper.dst = some t) (ht : look S t = some undef) (hlt : Nat.blt d n = true) (h : H n ds ((d, undef) :: S) L (TL r P l0 Q rest)) :
    H n ds S L (TL r P l0 Q (⟨some d, op, ty, ps, af, some (j, b)⟩ :: rest)) := by
  intro a w hk hs
  have hy : yielded l0.toArray a.tmps j = none := by
    simp only [yielded, List.getElem?_toArray, hj, Option.bind_some, hk.at_ t _ ht]
    rfl
  have hn : ((none : Option Bool) == some b) = false := rfl
  simp only [TL, wpListIn, Region.wanted, hy, hn, if_false, Bool.false_eq_true]
  exact ⟨fun _ _ => trivial, h _ w (hk.put hlt) hs⟩
end Go.SL
namespace Go.SL
variable {n : Nat} {ds : List Deferred} {S : Sp} {L : List Asn} {P : Program} {r : Option Nat} {Q : Exit → Act → World → Prop} {dst : Option Tmp} {ty : TypeId} {ps : String} {af : Array Edge}
theorem Y_min2m {t : Array TypeId} {x y : Operand} {k : IntKind} {i j m : Int} (hx : ev S x = some (.int k i)) (hy : ev S y = some (.int k j)) (hm : min i j = m) : Y P S L ⟨dst, .call ⟨.builtin .min, #[x, y], t⟩, ty, ps, af, none⟩ (.int k m) := by
  have h := Y_min2 (P := P) (L := L) (dst := dst) (ty := ty) (ps := ps) (af := af) (t := t) hx hy
  have e : (if j < i then j else i) = m := by rw [← hm]; split <;> omega
  rwa [e] at h
/-- a slice that came in: it has room only where its address is plain -/
def Sok (p : Option Addr) (c : Nat) : Prop := c = 0 ∨ ∃ b o, p = some ⟨b, o, none⟩
theorem Y_slhiW {t e sz by_ : Nat} [h1 : SlT P t e sz by_] {x hi : Operand} {p : Option Addr} {k c : Nat} {J : Int} {ik : IntKind} (hw : Sok p c) (hx : ev S x = some (.slice p k c)) (hhi : ev S hi = some (.int ik J)) (h0 : 0 ≤ J) (hj : J ≤ c) :
    Y P S L ⟨dst, .slice t x none (some hi) none, ty, ps, af, none⟩ (.slice p J.toNat c) := by
  have h := Y_slice (P := P) (L := L) (dst := dst) (ty := ty) (ps := ps) (af := af) (t := t) (i := 0) (lo := none) (hi := some hi) hx rfl (toN hhi h0) (Nat.zero_le _) (by omega)
  rcases hw with rfl | ⟨b, o, rfl⟩
  · simpa using h
  · simp only [so_map, Nat.sub_zero] at h
    have e : so c 0 o sz = o := by unfold so; split <;> simp
    rwa [e] at h
end Go.SL
namespace Go.SL
/-- a mark: the driver stops here -/
@[irreducible] def Stop (p : Prop) : Prop := p
theorem Stop_in {p : Prop} (h : p) : Stop p := by unfold Stop; exact h
theorem H_stop {n : Nat} {ds : List Deferred} {S : Sp} {L : List Asn} {P : Program} {r : Option Nat} {Q : Exit → Act → World → Prop} (id : Nat) {l : Array Oper} {dr : Bool} (h : Stop (H n ds S L (W r P (.region id l dr) Q))) : H n ds S L (W r P (.region id l dr) Q) := by
  unfold Stop at h; exact h
theorem H_stopb {n : Nat} {ds : List Deferred} {S : Sp} {L : List Asn} {P : Program} {r : Option Nat} {Q : Exit → Act → World → Prop} (id : Nat) {c : Code} (h : Stop (H n ds S L (W r P (.block id c) Q))) : H n ds S L (W r P (.block id c) Q) := by
  unfold Stop at h; exact h
end Go.SL
namespace Go.W13
/-! # what AdmitFair looks at -/
structure Op where
  kind : Int
  which : Int
  set : List Int
  ticket : Int
  n : Int
namespace RS
variable (r : RS)
def lefts (l : List Int) : List Int := l.flatMap fun t => [t, r.leftN t]
def told : List Int := ([r.firstT, (r.firstF.length : Int), r.used, r.resv] ++ r.firstF ++ (if r.firstB then [-1] else []) ++ r.waiting ++ [-2]) ++ r.lefts r.inn
def does (o : Op) : RS :=
  if o.kind = 1 then r.bgn (o.set.take 100) else if o.kind = 2 then r.ent else if o.kind = 3 then r.app o.ticket else if o.kind = 4 then r.done o.ticket
  else if o.kind = 5 then r.leave o.ticket else if o.kind = 6 then r.freed o.n else r
def doesE (o : Op) : Int :=
  if o.kind = 1 then r.bgnE (o.set.take 100) else if o.kind = 2 then r.entE else if o.kind = 3 then r.appE o.ticket else if o.kind = 4 then r.doneE o.ticket
  else if o.kind = 5 then r.leaveE o.ticket else if o.kind = 6 then r.freedE o.n else 0
def doesT (o : Op) : Int := if o.kind = 1 then r.bgnT (o.set.take 100) else if o.kind = 2 then r.entT else 0
end RS
theorem Ok.does {r : RS} (h : Ok r) (o : Op) : Ok (r.does o) := by
  unfold RS.does
  split
  · exact h.bgn _
  split
  · exact h.ent
  split
  · exact h.app _
  split
  · exact h.done _
  split
  · exact h.leave _
  split
  · exact h.freed _
  · exact h
theorem ent_cases (r : RS) : (r.waits = [] ∧ r.entE = 110 ∧ r.ent = r) ∨ (∃ w ws, r.waits = w :: ws ∧ r.fits = false ∧ r.entE = 120 ∧ r.ent = r) ∨
    (∃ w ws, r.waits = w :: ws ∧ r.fits = true ∧ r.entE = 0 ∧ r.entT = w.t ∧ r.ent = { r with waits := ws, ins := r.ins ++ [{ w with left := w.form.length + 1 }] }) := by
  cases hw : r.waits with
  | nil => exact .inl ⟨rfl, by unfold RS.entE RS.firstB; rw [hw]; rfl, by unfold RS.ent; rw [hw]⟩
  | cons w ws =>
    cases hf : r.fits with
    | false => exact .inr (.inl ⟨w, ws, rfl, rfl, by unfold RS.entE RS.firstB; rw [hw, hf]; rfl, by unfold RS.ent; rw [hw]; simp [hf]⟩)
    | true =>
      have he : r.entE = 0 := by unfold RS.entE RS.firstB; rw [hw, hf]; rfl
      exact .inr (.inr ⟨w, ws, rfl, rfl, he, by unfold RS.entT RS.firstT; rw [he, hw]; rfl, by unfold RS.ent; rw [hw]; simp [hf]⟩)
/-- a refused call changes nothing -/
theorem does_same {r : RS} {o : Op} (h : r.doesE o ≠ 0) : r.does o = r := by
  unfold RS.doesE at h
  unfold RS.does
  split
  · rename_i h1; rw [if_pos h1] at h; unfold RS.bgn; rw [if_neg h]
  rename_i h1; rw [if_neg h1] at h
  split
  · rename_i h2; rw [if_pos h2] at h
    rcases ent_cases r with ⟨_, _, e⟩ | ⟨_, _, _, _, _, e⟩ | ⟨_, _, _, _, e0, _⟩
    · exact e
    · exact e
    · exact absurd e0 h
  rename_i h2; rw [if_neg h2] at h
  split
  · rename_i h3; rw [if_pos h3] at h; unfold RS.app; rw [if_neg h]
  rename_i h3; rw [if_neg h3] at h
  split
  · rename_i h4; rw [if_pos h4] at h; unfold RS.done; rw [if_neg h]
  rename_i h4; rw [if_neg h4] at h
  split
  · rename_i h5; rw [if_pos h5] at h; unfold RS.leave; rw [if_neg h]
  rename_i h5; rw [if_neg h5] at h
  split
  · rename_i h6; rw [if_pos h6] at h; unfold RS.freed; rw [if_neg h]
  · rfl
/-- records never make used and reserved more -/
theorem does_sum {r : RS} (ok : Ok r) {o : Op} (hk : o.kind = 3 ∨ o.kind = 4) : (r.does o).used + (r.does o).resv ≤ r.used + r.resv := by
  unfold RS.does
  rcases hk with hk | hk
  · rw [if_neg (by omega), if_neg (by omega), if_pos hk]
    rcases appE_cases ok o.ticket with ⟨_, e⟩ | ⟨w, _, _, e⟩ | ⟨w, hf, hl, he⟩
    · unfold RS.app; rw [e]; simp
    · unfold RS.app; rw [e]; simp
    · obtain ⟨hm, ht⟩ := find_mem hf
      unfold RS.app; rw [if_pos he]
      have := sum_app r.ins w ok.insNodup hm
      rw [ht] at this
      unfold RS.resv
      simp only
      rw [this]; omega
  · rw [if_neg (by omega), if_neg (by omega), if_neg (by omega), if_pos hk]
    unfold RS.done RS.doneE
    cases hf : r.find o.ticket with
    | none => simp
    | some w =>
      obtain ⟨hm, ht⟩ := find_mem hf
      rw [if_pos rfl]
      have := sum_out r.ins w ok.insNodup hm
      rw [ht] at this
      have := (ok.left w hm).1
      unfold RS.resv
      simp only
      omega
/-- what was begun and has entered -/
structure Seen (r : RS) (b e : Int) : Prop where
  bb : b = r.next - 1
  ee : 0 ≤ e ∧ e < r.next
  ww : ∀ w ∈ r.waits, e < w.t
theorem Seen.new {bl cap mr hi cl : Int} : Seen (W13.new bl cap mr hi cl) 0 0 := ⟨by simp [W13.new], by simp [W13.new], by simp [W13.new]⟩
theorem next_mono {r : RS} (o : Op) : r.next ≤ (r.does o).next ∧ (r.does o).next ≤ r.next + 1 := by
  unfold RS.does
  split
  · unfold RS.bgn; split <;> simp <;> omega
  split
  · rcases ent_cases r with ⟨_, _, e⟩ | ⟨_, _, _, _, _, e⟩ | ⟨_, _, _, _, _, _, e⟩ <;> rw [e] <;> simp <;> omega
  split
  · unfold RS.app; split <;> simp <;> omega
  split
  · unfold RS.done; split <;> simp <;> omega
  split
  · unfold RS.leave; split <;> simp <;> omega
  split
  · unfold RS.freed; split <;> simp <;> omega
  · omega
theorem Seen.bgn {r : RS} {b e : Int} (h : Seen r b e) {o : Op} (hk : o.kind = 1) (he : r.doesE o = 0) : r.doesT o = b + 1 ∧ Seen (r.does o) (r.doesT o) e := by
  unfold RS.doesE at he
  rw [if_pos hk] at he
  have ht : r.doesT o = r.next := by unfold RS.doesT RS.bgnT; rw [if_pos hk, if_pos he]
  have hd : r.does o = { r with next := r.next + 1, waits := r.waits ++ [⟨r.next, formOut (o.set.take 100) r.bl, 0, false⟩] } := by unfold RS.does RS.bgn; rw [if_pos hk, if_pos he]
  have := h.bb; have := h.ee
  refine ⟨by omega, by rw [ht, hd]; simp, by rw [hd]; simp; omega, ?_⟩
  rw [hd]
  intro w hw
  rcases List.mem_append.1 hw with h1 | h1
  · exact h.ww w h1
  · simp at h1; subst h1; exact h.ee.2
theorem Seen.ent {r : RS} (ok : Ok r) {b e : Int} (h : Seen r b e) {o : Op} (hk : o.kind = 2) (he : r.doesE o = 0) : e < r.doesT o ∧ r.doesT o ≤ b ∧ Seen (r.does o) b (r.doesT o) := by
  unfold RS.doesE at he
  rw [if_neg (by omega), if_pos hk] at he
  have ht : r.doesT o = r.entT := by unfold RS.doesT; rw [if_neg (by omega), if_pos hk]
  have hd : r.does o = r.ent := by unfold RS.does; rw [if_neg (by omega), if_pos hk]
  rcases ent_cases r with ⟨_, e1, _⟩ | ⟨_, _, _, _, e1, _⟩ | ⟨w, ws, hw, hf, _, e2, e3⟩
  · rw [e1] at he; cases he
  · rw [e1] at he; cases he
  · have hm : w ∈ r.ins ++ r.waits := by rw [hw]; simp
    have hr := ok.rng w hm
    have := h.bb
    rw [ht, hd, e2, e3]
    refine ⟨h.ww w (by rw [hw]; simp), by omega, this, by simp; omega, fun x hx => ?_⟩
    have hu := ok.up
    rw [hw, List.map_append, Up, List.pairwise_append] at hu
    have := hu.2.1
    simp only [List.map_cons, List.pairwise_cons] at this
    exact this.1 x.t (List.mem_map.2 ⟨x, hx, rfl⟩)
theorem Seen.same {r : RS} {b e : Int} (h : Seen r b e) {o : Op} (hk : o.kind ≠ 1 ∧ o.kind ≠ 2 ∨ r.doesE o ≠ 0) : Seen (r.does o) b e := by
  by_cases he : r.doesE o ≠ 0
  · rw [does_same he]; exact h
  · rcases hk with hk | hk
    · have hn : (r.does o).next = r.next ∧ (r.does o).waits = r.waits := by
        unfold RS.does
        rw [if_neg hk.1, if_neg hk.2]
        split
        · unfold RS.app; split <;> exact ⟨rfl, rfl⟩
        split
        · unfold RS.done; split <;> exact ⟨rfl, rfl⟩
        split
        · unfold RS.leave; split <;> exact ⟨rfl, rfl⟩
        split
        · unfold RS.freed; split <;> exact ⟨rfl, rfl⟩
        · exact ⟨rfl, rfl⟩
      exact ⟨by rw [hn.1]; exact h.bb, by rw [hn.1]; exact h.ee, by rw [hn.2]; exact h.ww⟩
    · exact absurd hk he
/-- where nobody is in and nothing is used, the first one fits -/
theorem first_fits {r : RS} (ok : Ok r) (hi : r.ins = []) (hu : r.used = 0) (hw : r.waits ≠ []) : r.fits = true := by
  unfold RS.fits RS.resv
  cases h : r.waits with
  | nil => exact absurd h hw
  | cons w ws =>
    have := ok.form w (by rw [h]; simp)
    have := ok.cfg
    simp only [hi, hu, List.map_nil, List.sum_nil, decide_eq_true_eq]
    omega
theorem waiting_up {r : RS} (ok : Ok r) : Up r.waiting := by
  have := ok.up
  rw [List.map_append, Up, List.pairwise_append] at this
  exact this.2.1
end Go.W13
namespace Go.Proofs
open Go Go.SL Go.W13
attribute [local irreducible] H W TL XL Y cl mp slc ro tq line pool coll pline
set_option maxRecDepth 20000
set_option maxHeartbeats 2000000
theorem alike_t {a b : Option Addr} {ca cb : Nat} {xs : List Int} {A : List Asn} (hx : Rd A a (xs.map i64v)) (hy : Rd A b (xs.map i64v)) (hk : xs.length ≤ 1000000) :
    CtA Try.prog 101 [.slice a xs.length ca, .slice b xs.length cb] A (.bool true) fun F => A ++ F := by
  intro F; simp only [List.cons_append, List.nil_append]; refine Ct_of Try.func101 rfl (n := 26) rfl rfl ?_
  repeat (first
    | refine H_seq ?_ | refine H_block ?_ | refine H_region ?_ | refine TL_nil ?_ | refine N_then ?_ | refine N_block ?_ | refine H_skip ?_ | refine H_ret ?_ | refine R_then ?_ | refine R_block ?_ | refine H_exit ?_
    | refine X_then ?_ | refine X_block_eq ?_ | refine X_block_ne rfl ?_ | refine H_cond_t rfl ?_ | refine H_cond_f rfl ?_
    | refine TL_y (by first | exact Y_move rfl | exact Y_assign rfl | exact Y_load rfl (Vl_cl (by (repeat (first | exact .h | apply Pick.t)); done) rfl) | exact Y_load rfl (by assumption) | exact Y_indexAddr rfl rfl (by omega) (by first | omega | (simp only [List.length_cons]; omega)) | exact Y_load rfl (Vl_elem (by (repeat (first | exact .h | apply Pick.t)); done) (by assumption)) | exact Y_loadAt rfl (by (repeat (first | exact .h | apply Pick.t)); done) (by rfl) | exact Y_lssd rfl rfl (by first | exact decide_eq_true (by omega) | exact decide_eq_false (by omega)) | exact Y_lss rfl rfl | exact Y_neqd rfl rfl (by first | exact decide_eq_true (by omega) | exact decide_eq_false (by omega)) | exact Y_neq rfl rfl | exact Y_neq_nil rfl rfl | exact Y_add' rfl rfl (w64 (by omega) (by omega)) | exact Y_add' rfl rfl (wu64 (by omega) (by omega)) | exact Y_len_slice rfl | fail) rfl ?_
    | refine H_loopk [0, 1] (fun i : Nat => [(5, i64v i)]) (fun _ => A ++ F) (fun i => i ≤ xs.length) (fun i => xs.length - i) 0 (Nat.zero_le _) ⟨rfl, trivial⟩ (fun _ h => h) ?_
    | refine X_y rfl (by first | exact Y_move rfl | exact Y_assign rfl | exact Y_load rfl (Vl_cl (by (repeat (first | exact .h | apply Pick.t)); done) rfl) | exact Y_load rfl (by assumption) | exact Y_indexAddr rfl rfl (by omega) (by first | omega | (simp only [List.length_cons]; omega)) | exact Y_load rfl (Vl_elem (by (repeat (first | exact .h | apply Pick.t)); done) (by assumption)) | exact Y_loadAt rfl (by (repeat (first | exact .h | apply Pick.t)); done) (by rfl) | exact Y_lssd rfl rfl (by first | exact decide_eq_true (by omega) | exact decide_eq_false (by omega)) | exact Y_lss rfl rfl | exact Y_neqd rfl rfl (by first | exact decide_eq_true (by omega) | exact decide_eq_false (by omega)) | exact Y_neq rfl rfl | exact Y_neq_nil rfl rfl | exact Y_add' rfl rfl (w64 (by omega) (by omega)) | exact Y_add' rfl rfl (wu64 (by omega) (by omega)) | exact Y_len_slice rfl | fail) rfl ?_
    | refine X_loud rfl rfl ?_ | refine X_bar rfl ?_ | refine X_next (fun _ h => h) ?_
    | (refine X_next ?_ ?_; · exact fun _ h => sat_sub (by (repeat (first | exact .nil | exact .refl _ | exact .h | apply Pick.t | apply Picks.cons | apply Picks.skip)); done) h) | refine X_next (fun _ _ => sat_nil') ?_
    | refine X_nil ?_ | refine H_draw (id := 6) 9999 _ [(0, false), (1, false), (2, false), (3, false), (4, false), (5, false), (6, false), (7, false), (8, false)] (by kernel_rfl) (fun _ h => h) ?_
    | exact E_fin1 (.inl rfl) rfl rfl rfl (by (repeat (first | exact .nil | exact .refl _ | exact .h | apply Pick.t | apply Picks.cons | apply Picks.skip)); done)
    | exact E_fin1 (.inr rfl) rfl rfl rfl (by (repeat (first | exact .nil | exact .refl _ | exact .h | apply Pick.t | apply Picks.cons | apply Picks.skip)); done)
    | exact E_fin2 (.inl rfl) rfl rfl rfl rfl (by (repeat (first | exact .nil | exact .refl _ | exact .h | apply Pick.t | apply Picks.cons | apply Picks.skip)); done)
    | exact E_fin2 (.inr rfl) rfl rfl rfl rfl (by (repeat (first | exact .nil | exact .refl _ | exact .h | apply Pick.t | apply Picks.cons | apply Picks.skip)); done)
    | exact E_fin3 (.inl rfl) rfl rfl rfl rfl rfl (by (repeat (first | exact .nil | exact .refl _ | exact .h | apply Pick.t | apply Picks.cons | apply Picks.skip)); done)
    | exact E_fin3 (.inr rfl) rfl rfl rfl rfl rfl (by (repeat (first | exact .nil | exact .refl _ | exact .h | apply Pick.t | apply Picks.cons | apply Picks.skip)); done)
    | exact E_fin0 (.inl rfl) rfl (by (repeat (first | exact .nil | exact .refl _ | exact .h | apply Pick.t | apply Picks.cons | apply Picks.skip)); done)
    | exact E_fin0 (.inr rfl) rfl (by (repeat (first | exact .nil | exact .refl _ | exact .h | apply Pick.t | apply Picks.cons | apply Picks.skip)); done) | fail)
  intro i hi
  by_cases hlt : i < xs.length
  · obtain ⟨x, hx'⟩ := getSome hlt
    refine H_Rd_some (Rd_app hx) (by intro e; simp at e; subst e; simp at hlt) fun b1 o1 e1 => ?_
    subst e1
    refine H_Rd_some (Rd_app hy) (by intro e; simp at e; subst e; simp at hlt) fun b2 o2 e2 => ?_
    subst e2
    have hv1 := Rd_elem (Rd_app (F := F) hx) hx'
    have hv2 := Rd_elem (Rd_app (F := F) hy) hx'
    repeat (first
      | refine H_seq ?_ | refine H_block ?_ | refine H_region ?_ | refine TL_nil ?_ | refine N_then ?_ | refine N_block ?_ | refine H_skip ?_ | refine H_ret ?_ | refine R_then ?_ | refine R_block ?_ | refine H_exit ?_
      | refine X_then ?_ | refine X_block_eq ?_ | refine X_block_ne rfl ?_ | refine H_cond_t rfl ?_ | refine H_cond_f rfl ?_
      | refine TL_y (by first | exact Y_move rfl | exact Y_assign rfl | exact Y_load rfl (Vl_cl (by (repeat (first | exact .h | apply Pick.t)); done) rfl) | exact Y_load rfl (by assumption) | exact Y_indexAddr rfl rfl (by omega) (by first | omega | (simp only [List.length_cons]; omega)) | exact Y_load rfl (Vl_elem (by (repeat (first | exact .h | apply Pick.t)); done) (by assumption)) | exact Y_loadAt rfl (by (repeat (first | exact .h | apply Pick.t)); done) (by rfl) | exact Y_lssd rfl rfl (by first | exact decide_eq_true (by omega) | exact decide_eq_false (by omega)) | exact Y_lss rfl rfl | exact Y_neqd rfl rfl (by first | exact decide_eq_true (by omega) | exact decide_eq_false (by omega)) | exact Y_neq rfl rfl | exact Y_neq_nil rfl rfl | exact Y_add' rfl rfl (w64 (by omega) (by omega)) | exact Y_add' rfl rfl (wu64 (by omega) (by omega)) | exact Y_len_slice rfl | fail) rfl ?_
      | refine X_y rfl (by first | exact Y_move rfl | exact Y_assign rfl | exact Y_load rfl (Vl_cl (by (repeat (first | exact .h | apply Pick.t)); done) rfl) | exact Y_load rfl (by assumption) | exact Y_indexAddr rfl rfl (by omega) (by first | omega | (simp only [List.length_cons]; omega)) | exact Y_load rfl (Vl_elem (by (repeat (first | exact .h | apply Pick.t)); done) (by assumption)) | exact Y_loadAt rfl (by (repeat (first | exact .h | apply Pick.t)); done) (by rfl) | exact Y_lssd rfl rfl (by first | exact decide_eq_true (by omega) | exact decide_eq_false (by omega)) | exact Y_lss rfl rfl | exact Y_neqd rfl rfl (by first | exact decide_eq_true (by omega) | exact decide_eq_false (by omega)) | exact Y_neq rfl rfl | exact Y_neq_nil rfl rfl | exact Y_add' rfl rfl (w64 (by omega) (by omega)) | exact Y_add' rfl rfl (wu64 (by omega) (by omega)) | exact Y_len_slice rfl | fail) rfl ?_
      | refine X_loud rfl rfl ?_ | refine X_bar rfl ?_ | refine X_next (fun _ h => h) ?_
      | (refine X_next ?_ ?_; · exact fun _ h => sat_sub (by (repeat (first | exact .nil | exact .refl _ | exact .h | apply Pick.t | apply Picks.cons | apply Picks.skip)); done) h)
      | refine X_next (fun _ _ => sat_nil') ?_ | refine X_nil ?_
      | refine H_draw (id := 6) 9999 _ [(0, false), (1, false), (2, false), (3, false), (4, false), (5, false), (6, false), (7, false), (8, false)] (by kernel_rfl) (fun _ h => h) ?_
      | exact E_fin1 (.inl rfl) rfl rfl rfl (by (repeat (first | exact .nil | exact .refl _ | exact .h | apply Pick.t | apply Picks.cons | apply Picks.skip)); done)
      | exact E_fin1 (.inr rfl) rfl rfl rfl (by (repeat (first | exact .nil | exact .refl _ | exact .h | apply Pick.t | apply Picks.cons | apply Picks.skip)); done)
      | exact E_fin2 (.inl rfl) rfl rfl rfl rfl (by (repeat (first | exact .nil | exact .refl _ | exact .h | apply Pick.t | apply Picks.cons | apply Picks.skip)); done)
      | exact E_fin2 (.inr rfl) rfl rfl rfl rfl (by (repeat (first | exact .nil | exact .refl _ | exact .h | apply Pick.t | apply Picks.cons | apply Picks.skip)); done)
      | exact E_fin3 (.inl rfl) rfl rfl rfl rfl rfl (by (repeat (first | exact .nil | exact .refl _ | exact .h | apply Pick.t | apply Picks.cons | apply Picks.skip)); done)
      | exact E_fin3 (.inr rfl) rfl rfl rfl rfl rfl (by (repeat (first | exact .nil | exact .refl _ | exact .h | apply Pick.t | apply Picks.cons | apply Picks.skip)); done)
      | exact E_fin0 (.inl rfl) rfl (by (repeat (first | exact .nil | exact .refl _ | exact .h | apply Pick.t | apply Picks.cons | apply Picks.skip)); done)
      | exact E_fin0 (.inr rfl) rfl (by (repeat (first | exact .nil | exact .refl _ | exact .h | apply Pick.t | apply Picks.cons | apply Picks.skip)); done) | fail)
    exact N_rk (i + 1) hlt (by omega) ⟨rfl, trivial⟩ ⟨rfl, rfl, trivial⟩ fun _ h => h
  · repeat (first
      | refine H_seq ?_ | refine H_block ?_ | refine H_region ?_ | refine TL_nil ?_ | refine N_then ?_ | refine N_block ?_ | refine H_skip ?_ | refine H_ret ?_ | refine R_then ?_ | refine R_block ?_ | refine H_exit ?_
      | refine X_then ?_ | refine X_block_eq ?_ | refine X_block_ne rfl ?_ | refine H_cond_t rfl ?_ | refine H_cond_f rfl ?_
      | refine TL_y (by first | exact Y_move rfl | exact Y_assign rfl | exact Y_load rfl (Vl_cl (by (repeat (first | exact .h | apply Pick.t)); done) rfl) | exact Y_load rfl (by assumption) | exact Y_indexAddr rfl rfl (by omega) (by first | omega | (simp only [List.length_cons]; omega)) | exact Y_load rfl (Vl_elem (by (repeat (first | exact .h | apply Pick.t)); done) (by assumption)) | exact Y_loadAt rfl (by (repeat (first | exact .h | apply Pick.t)); done) (by rfl) | exact Y_lssd rfl rfl (by first | exact decide_eq_true (by omega) | exact decide_eq_false (by omega)) | exact Y_lss rfl rfl | exact Y_neqd rfl rfl (by first | exact decide_eq_true (by omega) | exact decide_eq_false (by omega)) | exact Y_neq rfl rfl | exact Y_neq_nil rfl rfl | exact Y_add' rfl rfl (w64 (by omega) (by omega)) | exact Y_add' rfl rfl (wu64 (by omega) (by omega)) | exact Y_len_slice rfl | fail) rfl ?_
      | refine X_y rfl (by first | exact Y_move rfl | exact Y_assign rfl | exact Y_load rfl (Vl_cl (by (repeat (first | exact .h | apply Pick.t)); done) rfl) | exact Y_load rfl (by assumption) | exact Y_indexAddr rfl rfl (by omega) (by first | omega | (simp only [List.length_cons]; omega)) | exact Y_load rfl (Vl_elem (by (repeat (first | exact .h | apply Pick.t)); done) (by assumption)) | exact Y_loadAt rfl (by (repeat (first | exact .h | apply Pick.t)); done) (by rfl) | exact Y_lssd rfl rfl (by first | exact decide_eq_true (by omega) | exact decide_eq_false (by omega)) | exact Y_lss rfl rfl | exact Y_neqd rfl rfl (by first | exact decide_eq_true (by omega) | exact decide_eq_false (by omega)) | exact Y_neq rfl rfl | exact Y_neq_nil rfl rfl | exact Y_add' rfl rfl (w64 (by omega) (by omega)) | exact Y_add' rfl rfl (wu64 (by omega) (by omega)) | exact Y_len_slice rfl | fail) rfl ?_
      | refine X_loud rfl rfl ?_ | refine X_bar rfl ?_ | refine X_next (fun _ h => h) ?_
      | (refine X_next ?_ ?_; · exact fun _ h => sat_sub (by (repeat (first | exact .nil | exact .refl _ | exact .h | apply Pick.t | apply Picks.cons | apply Picks.skip)); done) h)
      | refine X_next (fun _ _ => sat_nil') ?_ | refine X_nil ?_
      | refine H_draw (id := 6) 9999 _ [(0, false), (1, false), (2, false), (3, false), (4, false), (5, false), (6, false), (7, false), (8, false)] (by kernel_rfl) (fun _ h => h) ?_
      | exact E_fin1 (.inl rfl) rfl rfl rfl (by (repeat (first | exact .nil | exact .refl _ | exact .h | apply Pick.t | apply Picks.cons | apply Picks.skip)); done)
      | exact E_fin1 (.inr rfl) rfl rfl rfl (by (repeat (first | exact .nil | exact .refl _ | exact .h | apply Pick.t | apply Picks.cons | apply Picks.skip)); done)
      | exact E_fin2 (.inl rfl) rfl rfl rfl rfl (by (repeat (first | exact .nil | exact .refl _ | exact .h | apply Pick.t | apply Picks.cons | apply Picks.skip)); done)
      | exact E_fin2 (.inr rfl) rfl rfl rfl rfl (by (repeat (first | exact .nil | exact .refl _ | exact .h | apply Pick.t | apply Picks.cons | apply Picks.skip)); done)
      | exact E_fin3 (.inl rfl) rfl rfl rfl rfl rfl (by (repeat (first | exact .nil | exact .refl _ | exact .h | apply Pick.t | apply Picks.cons | apply Picks.skip)); done)
      | exact E_fin3 (.inr rfl) rfl rfl rfl rfl rfl (by (repeat (first | exact .nil | exact .refl _ | exact .h | apply Pick.t | apply Picks.cons | apply Picks.skip)); done)
      | exact E_fin0 (.inl rfl) rfl (by (repeat (first | exact .nil | exact .refl _ | exact .h | apply Pick.t | apply Picks.cons | apply Picks.skip)); done)
      | exact E_fin0 (.inr rfl) rfl (by (repeat (first | exact .nil | exact .refl _ | exact .h | apply Pick.t | apply Picks.cons | apply Picks.skip)); done) | fail)
section
variable {FS : List (Option Addr × List Int)} {p : Nat} {r : RS}
theorem Ok.tk (ok : Ok r) (hN : r.next ≤ 90000) : (0 ≤ r.firstT ∧ r.firstT ≤ 90000) ∧ r.firstF.length ≤ 16 ∧ (∀ x ∈ r.waiting, 0 ≤ x ∧ x ≤ 90000) ∧ (∀ x ∈ r.inn, 0 ≤ x ∧ x ≤ 90000) ∧ r.waiting.length ≤ 90000 ∧ r.inn.length ≤ 64 := by
  have hcf := ok.cfg
  have h1 : ∀ w ∈ r.ins ++ r.waits, 0 ≤ w.t ∧ w.t ≤ 90000 := fun w hw => by have := ok.rng w hw; omega
  refine ⟨?_, ?_, ?_, ?_, ?_, ?_⟩
  · unfold RS.firstT
    cases hw : r.waits with
    | nil => exact ⟨by decide, by decide⟩
    | cons w ws => exact h1 w (by rw [hw]; simp)
  · unfold RS.firstF
    cases hw : r.waits with
    | nil => exact Nat.zero_le _
    | cons w ws => have := ok.form w (by rw [hw]; simp); simp only; omega
  · intro x hx; obtain ⟨w, hw, rfl⟩ := List.mem_map.1 hx; exact h1 w (by simp [hw])
  · intro x hx; obtain ⟨w, hw, rfl⟩ := List.mem_map.1 hx; exact h1 w (by simp [hw])
  · have := ok.waitsLen; simp only [RS.waiting, List.length_map]; omega
  · have := ok.insLen; simp only [RS.inn, List.length_map]; omega
abbrev isl (a : Option Addr) (c : Nat) (xs : List Int) : Asn := slc 3 1 a xs.length c (xs.map i64v)
theorem told_ct (ok : Ok r) (hN : r.next ≤ 90000) : CtE Try.prog 44 [ptrv p] [pline FS p r, pool FS] (fun _ : Option Addr × Nat => True) (fun y => .slice y.1 r.told.length y.2) fun y F => isl y.1 y.2 r.told :: pline FS p r :: pool FS :: F := by
  obtain ⟨k1, k2, k3, k4, k5, k6⟩ := Ok.tk ok hN
  intro F; simp only [List.cons_append, List.nil_append]; refine Ct_of Try.func44 rfl (n := 83) rfl rfl ?_
  refine H_to (L' := slc 3 1 none 0 0 [] :: pline FS p r :: pool FS :: F) ?_ fun _ hs => slc_nil hs
  repeat (first
    | refine H_seq ?_ | refine H_block ?_ | refine H_region ?_ | refine TL_nil ?_ | refine N_then ?_ | refine N_block ?_ | refine H_skip ?_ | refine H_ret ?_ | refine R_then ?_ | refine R_block ?_ | refine H_exit ?_
    | refine X_then ?_ | refine X_block_eq ?_ | refine X_block_ne rfl ?_ | refine H_cond_t rfl ?_ | refine H_cond_f rfl ?_
    | refine TL_y (by first | exact Y_move rfl | exact Y_assign rfl | exact Y_load rfl (Vl_cl (by (repeat (first | exact .h | apply Pick.t)); done) rfl) | exact Y_load rfl (by assumption) | exact Y_indexAddr rfl rfl (by omega) (by first | omega | (simp only [List.length_cons]; omega)) | exact Y_load rfl (Vl_elem (by (repeat (first | exact .h | apply Pick.t)); done) (by assumption)) | exact Y_loadAt rfl (by (repeat (first | exact .h | apply Pick.t)); done) (by rfl) | exact Y_ext rfl rfl | exact Y_lssd rfl rfl (by first | exact decide_eq_true (by omega) | exact decide_eq_false (by omega)) | exact Y_lss rfl rfl | exact Y_add' rfl rfl (w64 (by omega) (by omega)) | exact Y_add' rfl rfl (wu64 (by omega) (by omega)) | exact Y_convInt' rfl (w64 (by omega) (by omega)) | exact Y_convInt' rfl (wu64 (by omega) (by omega)) | exact Y_len_slice rfl | fail) rfl ?_
    | refine T_bs0 rfl fun b1 => ?_ | refine T_bs1 rfl rfl rfl fun b1 => ?_ | refine T_bsn rfl rfl rfl rfl rfl rfl fun b1 => ?_
    | refine T_callE rfl rfl (by (repeat (first | exact .nil | exact .refl _ | exact .h | apply Pick.t | apply Picks.cons)); done) (pl_first ok hN) fun y1 _ => ?_
    | refine T_callA rfl rfl (by (repeat (first | exact .nil | exact .refl _ | exact .h | apply Pick.t | apply Picks.cons)); done) pl_used ?_
    | refine T_callA rfl rfl (by (repeat (first | exact .nil | exact .refl _ | exact .h | apply Pick.t | apply Picks.cons)); done) pl_reserved ?_
    | refine T_append rfl rfl (by (repeat (first | exact .h | apply Pick.t)); done) (Rd_cl (by (repeat (first | exact .h | apply Pick.t)); done)) rfl (one_map (f := i64v) (fun _ => rfl) [r.firstT, (r.firstF.length : Int), r.used, r.resv]) (by omega) (by simp only [maxLen]; omega) rfl fun a2 c2 => ?_
    | refine T_append rfl rfl (by (repeat (first | exact .h | apply Pick.t)); done) (Rd_slc (by (repeat (first | exact .h | apply Pick.t)); done)) (by simp) (one_map (fun _ => rfl) _) (by omega) (by simp only [maxLen]; omega) rfl fun a2 c2 => ?_
    | exact E_fin1 (.inl rfl) rfl rfl rfl (by (repeat (first | exact .nil | exact .refl _ | exact .h | apply Pick.t | apply Picks.cons | apply Picks.skip)); done)
    | exact E_fin1 (.inr rfl) rfl rfl rfl (by (repeat (first | exact .nil | exact .refl _ | exact .h | apply Pick.t | apply Picks.cons | apply Picks.skip)); done)
    | exact E_fin2 (.inl rfl) rfl rfl rfl rfl (by (repeat (first | exact .nil | exact .refl _ | exact .h | apply Pick.t | apply Picks.cons | apply Picks.skip)); done)
    | exact E_fin2 (.inr rfl) rfl rfl rfl rfl (by (repeat (first | exact .nil | exact .refl _ | exact .h | apply Pick.t | apply Picks.cons | apply Picks.skip)); done)
    | exact E_fin3 (.inl rfl) rfl rfl rfl rfl rfl (by (repeat (first | exact .nil | exact .refl _ | exact .h | apply Pick.t | apply Picks.cons | apply Picks.skip)); done)
    | exact E_fin3 (.inr rfl) rfl rfl rfl rfl rfl (by (repeat (first | exact .nil | exact .refl _ | exact .h | apply Pick.t | apply Picks.cons | apply Picks.skip)); done)
    | exact E_fin0 (.inl rfl) rfl (by (repeat (first | exact .nil | exact .refl _ | exact .h | apply Pick.t | apply Picks.cons | apply Picks.skip)); done)
    | exact E_fin0 (.inr rfl) rfl (by (repeat (first | exact .nil | exact .refl _ | exact .h | apply Pick.t | apply Picks.cons | apply Picks.skip)); done) | fail)
  rw [List.nil_append, ← List.map_append]
  have e0 : 0 + 4 + r.firstF.length = ([r.firstT, (r.firstF.length : Int), r.used, r.resv] ++ r.firstF).length := by simp; omega
  rw [e0]
  have hlen : ([r.firstT, (r.firstF.length : Int), r.used, r.resv] ++ r.firstF).length ≤ 20 := by simp; omega
  have htold : r.told = (([r.firstT, (r.firstF.length : Int), r.used, r.resv] ++ r.firstF ++ (if r.firstB then [-1] else []) ++ r.waiting ++ [-2]) ++ r.lefts r.inn) := rfl
  generalize [r.firstT, (r.firstF.length : Int), r.used, r.resv] ++ r.firstF = pre at *
  refine H_cut (ι := List Int × Option Addr × Nat) (fun i => [(0, ptrv p), (3, .slice i.2.1 i.1.length i.2.2)]) (fun i => isl i.2.1 i.2.2 i.1 :: pline FS p r :: pool FS :: F) (fun i => i.1 = pre ++ (if r.firstB then [-1] else [])) ?_ ?_
  · rintro ⟨pre1, a3, c3⟩ hp1
    simp only at hp1 ⊢
    rw [← hp1] at htold
    have hlen1 : pre1.length ≤ 21 := by rw [hp1]; split <;> simp <;> omega
    clear hp1
    repeat (first
      | refine H_seq ?_ | refine H_block ?_ | refine H_region ?_ | refine TL_nil ?_ | refine N_then ?_ | refine N_block ?_ | refine H_skip ?_ | refine H_ret ?_ | refine R_then ?_ | refine R_block ?_ | refine H_exit ?_
      | refine X_then ?_ | refine X_block_eq ?_ | refine X_block_ne rfl ?_ | refine H_cond_t rfl ?_ | refine H_cond_f rfl ?_
      | refine TL_y (by first | exact Y_move rfl | exact Y_assign rfl | exact Y_load rfl (Vl_cl (by (repeat (first | exact .h | apply Pick.t)); done) rfl) | exact Y_load rfl (by assumption) | exact Y_indexAddr rfl rfl (by omega) (by first | omega | (simp only [List.length_cons]; omega)) | exact Y_load rfl (Vl_elem (by (repeat (first | exact .h | apply Pick.t)); done) (by assumption)) | exact Y_loadAt rfl (by (repeat (first | exact .h | apply Pick.t)); done) (by rfl) | exact Y_ext rfl rfl | exact Y_lssd rfl rfl (by first | exact decide_eq_true (by omega) | exact decide_eq_false (by omega)) | exact Y_lss rfl rfl | exact Y_add' rfl rfl (w64 (by omega) (by omega)) | exact Y_add' rfl rfl (wu64 (by omega) (by omega)) | exact Y_convInt' rfl (w64 (by omega) (by omega)) | exact Y_convInt' rfl (wu64 (by omega) (by omega)) | exact Y_len_slice rfl | fail) rfl ?_
      | refine T_bs0 rfl fun b1 => ?_ | refine T_bs1 rfl rfl rfl fun b1 => ?_ | refine T_bsn rfl rfl rfl rfl rfl rfl fun b1 => ?_
      | refine T_callE rfl rfl (by (repeat (first | exact .nil | exact .refl _ | exact .h | apply Pick.t | apply Picks.cons)); done) (pl_waiting ok hN) fun yw _ => ?_
      | refine T_callE rfl rfl (by (repeat (first | exact .nil | exact .refl _ | exact .h | apply Pick.t | apply Picks.cons)); done) (pl_in ok) fun yi _ => ?_
      | exact E_fin1 (.inl rfl) rfl rfl rfl (by (repeat (first | exact .nil | exact .refl _ | exact .h | apply Pick.t | apply Picks.cons | apply Picks.skip)); done)
      | exact E_fin1 (.inr rfl) rfl rfl rfl (by (repeat (first | exact .nil | exact .refl _ | exact .h | apply Pick.t | apply Picks.cons | apply Picks.skip)); done)
      | exact E_fin2 (.inl rfl) rfl rfl rfl rfl (by (repeat (first | exact .nil | exact .refl _ | exact .h | apply Pick.t | apply Picks.cons | apply Picks.skip)); done)
      | exact E_fin2 (.inr rfl) rfl rfl rfl rfl (by (repeat (first | exact .nil | exact .refl _ | exact .h | apply Pick.t | apply Picks.cons | apply Picks.skip)); done)
      | exact E_fin3 (.inl rfl) rfl rfl rfl rfl rfl (by (repeat (first | exact .nil | exact .refl _ | exact .h | apply Pick.t | apply Picks.cons | apply Picks.skip)); done)
      | exact E_fin3 (.inr rfl) rfl rfl rfl rfl rfl (by (repeat (first | exact .nil | exact .refl _ | exact .h | apply Pick.t | apply Picks.cons | apply Picks.skip)); done)
      | exact E_fin0 (.inl rfl) rfl (by (repeat (first | exact .nil | exact .refl _ | exact .h | apply Pick.t | apply Picks.cons | apply Picks.skip)); done)
      | exact E_fin0 (.inr rfl) rfl (by (repeat (first | exact .nil | exact .refl _ | exact .h | apply Pick.t | apply Picks.cons | apply Picks.skip)); done) | fail)
    refine H_loopk [0, 7, 8] (ι := Nat × Option Addr × Nat) (fun i => [(9, i64v i.1), (3, .slice i.2.1 (pre1 ++ r.waiting.take i.1).length i.2.2)])
      (fun i => isl i.2.1 i.2.2 (pre1 ++ r.waiting.take i.1) :: slc 36 1 yi.1 r.inn.length yi.2 (r.inn.map u64v) :: slc 36 1 yw.1 r.waiting.length yw.2 (r.waiting.map u64v) :: pline FS p r :: pool FS :: F)
      (fun i => i.1 ≤ r.waiting.length) (fun i => r.waiting.length - i.1) (0, a3, c3) (Nat.zero_le _) ⟨rfl, by rw [List.take_zero, List.append_nil]; rfl, trivial⟩ (fun _ hs => by rw [List.take_zero, List.append_nil]; exact sat_ord (by (repeat (first | exact .nil | exact .refl _ | exact .h | apply Pick.t | apply Picks.cons)); done) hs) ?_
    rintro ⟨i, a4, c4⟩ hi
    dsimp only at hi ⊢
    have hlt4 : (r.waiting.take i).length ≤ 90000 := by rw [List.length_take]; omega
    by_cases hlt : i < r.waiting.length
    · obtain ⟨x, hx⟩ := getSome hlt
      have hxb := k3 x (List.mem_of_getElem? hx)
      have hl4 : (pre1 ++ r.waiting.take i).length ≤ 90100 := by rw [List.length_append]; omega
      have e1 : (pre1 ++ r.waiting.take i).length + 1 = (pre1 ++ r.waiting.take (i + 1)).length := by simp; omega
      have e2 : (pre1 ++ r.waiting.take i) ++ [x] = pre1 ++ r.waiting.take (i + 1) := by rw [List.take_add_one, hx]; simp
      refine H_slccase (.t (.t .h)) (fun _ e => by omega) fun bw ow ew => ?_
      rw [ew]
      repeat (first
        | refine H_seq ?_ | refine H_block ?_ | refine H_region ?_ | refine TL_nil ?_ | refine N_then ?_ | refine N_block ?_ | refine H_skip ?_ | refine H_ret ?_ | refine R_then ?_ | refine R_block ?_ | refine H_exit ?_
        | refine X_then ?_ | refine X_block_eq ?_ | refine X_block_ne rfl ?_ | refine H_cond_t rfl ?_ | refine H_cond_f rfl ?_
        | refine TL_y (by first | exact Y_move rfl | exact Y_assign rfl | exact Y_load rfl (Vl_cl (by (repeat (first | exact .h | apply Pick.t)); done) rfl) | exact Y_load rfl (by assumption) | exact Y_indexAddr rfl rfl (by omega) (by first | omega | (simp only [List.length_cons]; omega)) | exact Y_load rfl (Vl_elem (by (repeat (first | exact .h | apply Pick.t)); done) (by assumption)) | exact Y_loadAt rfl (by (repeat (first | exact .h | apply Pick.t)); done) (by rfl) | exact Y_ext rfl rfl | exact Y_lssd rfl rfl (by first | exact decide_eq_true (by omega) | exact decide_eq_false (by omega)) | exact Y_lss rfl rfl | exact Y_add' rfl rfl (w64 (by omega) (by omega)) | exact Y_add' rfl rfl (wu64 (by omega) (by omega)) | exact Y_convInt' rfl (w64 (by omega) (by omega)) | exact Y_convInt' rfl (wu64 (by omega) (by omega)) | exact Y_len_slice rfl | fail) rfl ?_
        | refine T_bs0 rfl fun b1 => ?_ | refine T_bs1 rfl rfl rfl fun b1 => ?_ | refine T_bsn rfl rfl rfl rfl rfl rfl fun b1 => ?_
        | refine T_append rfl rfl (by (repeat (first | exact .h | apply Pick.t)); done) (Rd_cl (by (repeat (first | exact .h | apply Pick.t)); done)) rfl (one_map (f := i64v) (fun _ => rfl) [x]) (by omega) (by simp only [maxLen]; omega) rfl fun a5 c5 => ?_
        | exact E_fin1 (.inl rfl) rfl rfl rfl (by (repeat (first | exact .nil | exact .refl _ | exact .h | apply Pick.t | apply Picks.cons | apply Picks.skip)); done)
        | exact E_fin1 (.inr rfl) rfl rfl rfl (by (repeat (first | exact .nil | exact .refl _ | exact .h | apply Pick.t | apply Picks.cons | apply Picks.skip)); done)
        | exact E_fin2 (.inl rfl) rfl rfl rfl rfl (by (repeat (first | exact .nil | exact .refl _ | exact .h | apply Pick.t | apply Picks.cons | apply Picks.skip)); done)
        | exact E_fin2 (.inr rfl) rfl rfl rfl rfl (by (repeat (first | exact .nil | exact .refl _ | exact .h | apply Pick.t | apply Picks.cons | apply Picks.skip)); done)
        | exact E_fin3 (.inl rfl) rfl rfl rfl rfl rfl (by (repeat (first | exact .nil | exact .refl _ | exact .h | apply Pick.t | apply Picks.cons | apply Picks.skip)); done)
        | exact E_fin3 (.inr rfl) rfl rfl rfl rfl rfl (by (repeat (first | exact .nil | exact .refl _ | exact .h | apply Pick.t | apply Picks.cons | apply Picks.skip)); done)
        | exact E_fin0 (.inl rfl) rfl (by (repeat (first | exact .nil | exact .refl _ | exact .h | apply Pick.t | apply Picks.cons | apply Picks.skip)); done)
        | exact E_fin0 (.inr rfl) rfl (by (repeat (first | exact .nil | exact .refl _ | exact .h | apply Pick.t | apply Picks.cons | apply Picks.skip)); done) | fail)
      rw [← ew, ← List.map_append, e1, e2]
      exact N_rk (i := (i, a4, c4)) (i + 1, a5, c5) hlt (by show r.waiting.length - (i + 1) < r.waiting.length - i; omega) ⟨rfl, rfl, trivial⟩ ⟨rfl, rfl, rfl, trivial⟩ fun _ hs => sat_sub (by (repeat (first | exact .nil | exact .refl _ | exact .h | apply Pick.t | apply Picks.cons | apply Picks.skip)); done) hs
    · have ei : r.waiting.take i = r.waiting := List.take_of_length_le (by omega)
      have hl4 : (pre1 ++ r.waiting).length ≤ 90100 := by rw [List.length_append]; omega
      rw [ei]
      repeat (first
        | refine H_seq ?_ | refine H_block ?_ | refine H_region ?_ | refine TL_nil ?_ | refine N_then ?_ | refine N_block ?_ | refine H_skip ?_ | refine H_ret ?_ | refine R_then ?_ | refine R_block ?_ | refine H_exit ?_
        | refine X_then ?_ | refine X_block_eq ?_ | refine X_block_ne rfl ?_ | refine H_cond_t rfl ?_ | refine H_cond_f rfl ?_
        | refine TL_y (by first | exact Y_move rfl | exact Y_assign rfl | exact Y_load rfl (Vl_cl (by (repeat (first | exact .h | apply Pick.t)); done) rfl) | exact Y_load rfl (by assumption) | exact Y_indexAddr rfl rfl (by omega) (by first | omega | (simp only [List.length_cons]; omega)) | exact Y_load rfl (Vl_elem (by (repeat (first | exact .h | apply Pick.t)); done) (by assumption)) | exact Y_loadAt rfl (by (repeat (first | exact .h | apply Pick.t)); done) (by rfl) | exact Y_ext rfl rfl | exact Y_lssd rfl rfl (by first | exact decide_eq_true (by omega) | exact decide_eq_false (by omega)) | exact Y_lss rfl rfl | exact Y_add' rfl rfl (w64 (by omega) (by omega)) | exact Y_add' rfl rfl (wu64 (by omega) (by omega)) | exact Y_convInt' rfl (w64 (by omega) (by omega)) | exact Y_convInt' rfl (wu64 (by omega) (by omega)) | exact Y_len_slice rfl | fail) rfl ?_
        | refine T_bs0 rfl fun b1 => ?_ | refine T_bs1 rfl rfl rfl fun b1 => ?_ | refine T_bsn rfl rfl rfl rfl rfl rfl fun b1 => ?_
        | refine T_append rfl rfl (by (repeat (first | exact .h | apply Pick.t)); done) (Rd_cl (by (repeat (first | exact .h | apply Pick.t)); done)) rfl (one_map (f := i64v) (fun _ => rfl) [-2]) (by omega) (by simp only [maxLen]; omega) rfl fun a5 c5 => ?_
        | exact E_fin1 (.inl rfl) rfl rfl rfl (by (repeat (first | exact .nil | exact .refl _ | exact .h | apply Pick.t | apply Picks.cons | apply Picks.skip)); done)
        | exact E_fin1 (.inr rfl) rfl rfl rfl (by (repeat (first | exact .nil | exact .refl _ | exact .h | apply Pick.t | apply Picks.cons | apply Picks.skip)); done)
        | exact E_fin2 (.inl rfl) rfl rfl rfl rfl (by (repeat (first | exact .nil | exact .refl _ | exact .h | apply Pick.t | apply Picks.cons | apply Picks.skip)); done)
        | exact E_fin2 (.inr rfl) rfl rfl rfl rfl (by (repeat (first | exact .nil | exact .refl _ | exact .h | apply Pick.t | apply Picks.cons | apply Picks.skip)); done)
        | exact E_fin3 (.inl rfl) rfl rfl rfl rfl rfl (by (repeat (first | exact .nil | exact .refl _ | exact .h | apply Pick.t | apply Picks.cons | apply Picks.skip)); done)
        | exact E_fin3 (.inr rfl) rfl rfl rfl rfl rfl (by (repeat (first | exact .nil | exact .refl _ | exact .h | apply Pick.t | apply Picks.cons | apply Picks.skip)); done)
        | exact E_fin0 (.inl rfl) rfl (by (repeat (first | exact .nil | exact .refl _ | exact .h | apply Pick.t | apply Picks.cons | apply Picks.skip)); done)
        | exact E_fin0 (.inr rfl) rfl (by (repeat (first | exact .nil | exact .refl _ | exact .h | apply Pick.t | apply Picks.cons | apply Picks.skip)); done) | fail)
      have e1 : (pre1 ++ r.waiting).length + 1 = (pre1 ++ r.waiting ++ [-2]).length := by simp; omega
      rw [← List.map_append, e1]
      have hlen2 : (pre1 ++ r.waiting ++ [-2]).length ≤ 90100 := by simp at hl4 ⊢; omega
      generalize pre1 ++ r.waiting ++ [-2] = pre2 at *
      refine H_loopk [0, 8] (ι := Nat × Option Addr × Nat) (fun i => [(10, i64v i.1), (3, .slice i.2.1 (pre2 ++ r.lefts (r.inn.take i.1)).length i.2.2)])
        (fun i => isl i.2.1 i.2.2 (pre2 ++ r.lefts (r.inn.take i.1)) :: slc 36 1 yi.1 r.inn.length yi.2 (r.inn.map u64v) :: pline FS p r :: pool FS :: F)
        (fun i => i.1 ≤ r.inn.length) (fun i => r.inn.length - i.1) (0, a5, c5) (Nat.zero_le _) ⟨rfl, by simp only [List.take_zero, RS.lefts, List.flatMap_nil, List.append_nil]; rfl, trivial⟩ (fun _ hs => by simp only [List.take_zero, RS.lefts, List.flatMap_nil, List.append_nil]; exact sat_sub (by (repeat (first | exact .nil | exact .refl _ | exact .h | apply Pick.t | apply Picks.cons | apply Picks.skip)); done) hs) ?_
      rintro ⟨j, a6, c6⟩ hj
      dsimp only at hj ⊢
      have hlj : ∀ l : List Int, (r.lefts l).length = 2 * l.length := fun l => by
        induction l with
        | nil => rfl
        | cons x l ih => simp only [RS.lefts, List.flatMap_cons] at ih ⊢; simp [ih]; omega
      have hl6 : (pre2 ++ r.lefts (r.inn.take j)).length ≤ 90300 := by rw [List.length_append, hlj, List.length_take]; omega
      by_cases hltj : j < r.inn.length
      · obtain ⟨x, hx⟩ := getSome hltj
        have hxb := k4 x (List.mem_of_getElem? hx)
        have e3 : (pre2 ++ r.lefts (r.inn.take j)) ++ [x, r.leftN x] = pre2 ++ r.lefts (r.inn.take (j + 1)) := by rw [List.take_add_one, hx]; simp [RS.lefts]
        have e4 : (pre2 ++ r.lefts (r.inn.take j)).length + 2 = (pre2 ++ r.lefts (r.inn.take (j + 1))).length := by rw [← e3]; simp; omega
        refine H_slccase (.t .h) (fun _ e => by omega) fun bw ow ew => ?_
        rw [ew]
        repeat (first
          | refine H_seq ?_ | refine H_block ?_ | refine H_region ?_ | refine TL_nil ?_ | refine N_then ?_ | refine N_block ?_ | refine H_skip ?_ | refine H_ret ?_ | refine R_then ?_ | refine R_block ?_
          | refine H_exit ?_ | refine X_then ?_ | refine X_block_eq ?_ | refine X_block_ne rfl ?_ | refine H_cond_t rfl ?_ | refine H_cond_f rfl ?_
          | refine TL_y (by first | exact Y_move rfl | exact Y_assign rfl | exact Y_load rfl (Vl_cl (by (repeat (first | exact .h | apply Pick.t)); done) rfl) | exact Y_load rfl (by assumption) | exact Y_indexAddr rfl rfl (by omega) (by first | omega | (simp only [List.length_cons]; omega)) | exact Y_load rfl (Vl_elem (by (repeat (first | exact .h | apply Pick.t)); done) (by assumption)) | exact Y_loadAt rfl (by (repeat (first | exact .h | apply Pick.t)); done) (by rfl) | exact Y_ext rfl rfl | exact Y_lssd rfl rfl (by first | exact decide_eq_true (by omega) | exact decide_eq_false (by omega)) | exact Y_lss rfl rfl | exact Y_add' rfl rfl (w64 (by omega) (by omega)) | exact Y_add' rfl rfl (wu64 (by omega) (by omega)) | exact Y_convInt' rfl (w64 (by omega) (by omega)) | exact Y_convInt' rfl (wu64 (by omega) (by omega)) | exact Y_len_slice rfl | fail) rfl ?_
          | refine T_bs0 rfl fun b1 => ?_ | refine T_bs1 rfl rfl rfl fun b1 => ?_ | refine T_bsn rfl rfl rfl rfl rfl rfl fun b1 => ?_
          | refine T_callA rfl rfl (by (repeat (first | exact .nil | exact .refl _ | exact .h | apply Pick.t | apply Picks.cons)); done) pl_left ?_
          | refine T_append rfl rfl (by (repeat (first | exact .h | apply Pick.t)); done) (Rd_cl (by (repeat (first | exact .h | apply Pick.t)); done)) rfl (one_map (f := i64v) (fun _ => rfl) [x, r.leftN x]) (by omega) (by simp only [maxLen]; omega) rfl fun a7 c7 => ?_
          | exact E_fin1 (.inl rfl) rfl rfl rfl (by (repeat (first | exact .nil | exact .refl _ | exact .h | apply Pick.t | apply Picks.cons | apply Picks.skip)); done)
          | exact E_fin1 (.inr rfl) rfl rfl rfl (by (repeat (first | exact .nil | exact .refl _ | exact .h | apply Pick.t | apply Picks.cons | apply Picks.skip)); done)
          | exact E_fin2 (.inl rfl) rfl rfl rfl rfl (by (repeat (first | exact .nil | exact .refl _ | exact .h | apply Pick.t | apply Picks.cons | apply Picks.skip)); done)
          | exact E_fin2 (.inr rfl) rfl rfl rfl rfl (by (repeat (first | exact .nil | exact .refl _ | exact .h | apply Pick.t | apply Picks.cons | apply Picks.skip)); done)
          | exact E_fin3 (.inl rfl) rfl rfl rfl rfl rfl (by (repeat (first | exact .nil | exact .refl _ | exact .h | apply Pick.t | apply Picks.cons | apply Picks.skip)); done)
          | exact E_fin3 (.inr rfl) rfl rfl rfl rfl rfl (by (repeat (first | exact .nil | exact .refl _ | exact .h | apply Pick.t | apply Picks.cons | apply Picks.skip)); done)
          | exact E_fin0 (.inl rfl) rfl (by (repeat (first | exact .nil | exact .refl _ | exact .h | apply Pick.t | apply Picks.cons | apply Picks.skip)); done)
          | exact E_fin0 (.inr rfl) rfl (by (repeat (first | exact .nil | exact .refl _ | exact .h | apply Pick.t | apply Picks.cons | apply Picks.skip)); done) | fail)
        rw [← ew, ← List.map_append, e4, e3]
        exact N_rk (i := (j, a6, c6)) (j + 1, a7, c7) hltj (by show r.inn.length - (j + 1) < r.inn.length - j; omega) ⟨rfl, rfl, trivial⟩ ⟨rfl, rfl, trivial⟩ fun _ hs => sat_sub (by (repeat (first | exact .nil | exact .refl _ | exact .h | apply Pick.t | apply Picks.cons | apply Picks.skip)); done) hs
      · have ej : r.inn.take j = r.inn := List.take_of_length_le (by omega)
        rw [ej, ← htold]
        repeat (first
          | refine H_seq ?_ | refine H_block ?_ | refine H_region ?_ | refine TL_nil ?_ | refine N_then ?_ | refine N_block ?_ | refine H_skip ?_ | refine H_ret ?_ | refine R_then ?_ | refine R_block ?_
          | refine H_exit ?_ | refine X_then ?_ | refine X_block_eq ?_ | refine X_block_ne rfl ?_ | refine H_cond_t rfl ?_ | refine H_cond_f rfl ?_
          | refine TL_y (by first | exact Y_move rfl | exact Y_assign rfl | exact Y_load rfl (Vl_cl (by (repeat (first | exact .h | apply Pick.t)); done) rfl) | exact Y_load rfl (by assumption) | exact Y_indexAddr rfl rfl (by omega) (by first | omega | (simp only [List.length_cons]; omega)) | exact Y_load rfl (Vl_elem (by (repeat (first | exact .h | apply Pick.t)); done) (by assumption)) | exact Y_loadAt rfl (by (repeat (first | exact .h | apply Pick.t)); done) (by rfl) | exact Y_ext rfl rfl | exact Y_lssd rfl rfl (by first | exact decide_eq_true (by omega) | exact decide_eq_false (by omega)) | exact Y_lss rfl rfl | exact Y_add' rfl rfl (w64 (by omega) (by omega)) | exact Y_add' rfl rfl (wu64 (by omega) (by omega)) | exact Y_convInt' rfl (w64 (by omega) (by omega)) | exact Y_convInt' rfl (wu64 (by omega) (by omega)) | exact Y_len_slice rfl | fail) rfl ?_
          | refine T_bs0 rfl fun b1 => ?_ | refine T_bs1 rfl rfl rfl fun b1 => ?_ | refine T_bsn rfl rfl rfl rfl rfl rfl fun b1 => ?_
          | exact E_fin1 (.inl rfl) rfl rfl rfl (by (repeat (first | exact .nil | exact .refl _ | exact .h | apply Pick.t | apply Picks.cons | apply Picks.skip)); done)
          | exact E_fin1 (.inr rfl) rfl rfl rfl (by (repeat (first | exact .nil | exact .refl _ | exact .h | apply Pick.t | apply Picks.cons | apply Picks.skip)); done)
          | exact E_fin2 (.inl rfl) rfl rfl rfl rfl (by (repeat (first | exact .nil | exact .refl _ | exact .h | apply Pick.t | apply Picks.cons | apply Picks.skip)); done)
          | exact E_fin2 (.inr rfl) rfl rfl rfl rfl (by (repeat (first | exact .nil | exact .refl _ | exact .h | apply Pick.t | apply Picks.cons | apply Picks.skip)); done)
          | exact E_fin3 (.inl rfl) rfl rfl rfl rfl rfl (by (repeat (first | exact .nil | exact .refl _ | exact .h | apply Pick.t | apply Picks.cons | apply Picks.skip)); done)
          | exact E_fin3 (.inr rfl) rfl rfl rfl rfl rfl (by (repeat (first | exact .nil | exact .refl _ | exact .h | apply Pick.t | apply Picks.cons | apply Picks.skip)); done)
          | exact E_fin0 (.inl rfl) rfl (by (repeat (first | exact .nil | exact .refl _ | exact .h | apply Pick.t | apply Picks.cons | apply Picks.skip)); done)
          | exact E_fin0 (.inr rfl) rfl (by (repeat (first | exact .nil | exact .refl _ | exact .h | apply Pick.t | apply Picks.cons | apply Picks.skip)); done) | fail)
        exact X_fin1 (a6, c6) (by trivial) (by first | exact .inl rfl | exact .inr rfl) (by rfl) (by rfl) (by rfl) (by (repeat (first | exact .nil | exact .refl _ | exact .h | apply Pick.t | apply Picks.cons | apply Picks.skip)); done)
  · intro G' key
    cases hb : r.firstB with
    | true =>
      repeat (first
        | refine H_seq ?_ | refine H_block ?_ | refine H_region ?_ | refine TL_nil ?_ | refine N_then ?_ | refine N_block ?_ | refine H_skip ?_ | refine H_ret ?_ | refine R_then ?_ | refine R_block ?_ | refine H_exit ?_
        | refine X_then ?_ | refine X_block_eq ?_ | refine X_block_ne rfl ?_ | refine H_cond_t rfl ?_ | refine H_cond_f rfl ?_
        | refine TL_y (by first | exact Y_move rfl | exact Y_assign rfl | exact Y_load rfl (Vl_cl (by (repeat (first | exact .h | apply Pick.t)); done) rfl) | exact Y_load rfl (by assumption) | exact Y_indexAddr rfl rfl (by omega) (by first | omega | (simp only [List.length_cons]; omega)) | exact Y_load rfl (Vl_elem (by (repeat (first | exact .h | apply Pick.t)); done) (by assumption)) | exact Y_loadAt rfl (by (repeat (first | exact .h | apply Pick.t)); done) (by rfl) | exact Y_ext rfl rfl | exact Y_lssd rfl rfl (by first | exact decide_eq_true (by omega) | exact decide_eq_false (by omega)) | exact Y_lss rfl rfl | exact Y_add' rfl rfl (w64 (by omega) (by omega)) | exact Y_add' rfl rfl (wu64 (by omega) (by omega)) | exact Y_convInt' rfl (w64 (by omega) (by omega)) | exact Y_convInt' rfl (wu64 (by omega) (by omega)) | exact Y_len_slice rfl | fail) rfl ?_
        | refine T_bs0 rfl fun b1 => ?_ | refine T_bs1 rfl rfl rfl fun b1 => ?_ | refine T_bsn rfl rfl rfl rfl rfl rfl fun b1 => ?_
        | refine T_append rfl rfl (by (repeat (first | exact .h | apply Pick.t)); done) (Rd_cl (by (repeat (first | exact .h | apply Pick.t)); done)) rfl (one_map (f := i64v) (fun _ => rfl) [-1]) (by omega) (by simp only [maxLen]; omega) rfl fun a2 c2 => ?_
        | exact E_fin1 (.inl rfl) rfl rfl rfl (by (repeat (first | exact .nil | exact .refl _ | exact .h | apply Pick.t | apply Picks.cons | apply Picks.skip)); done)
        | exact E_fin1 (.inr rfl) rfl rfl rfl (by (repeat (first | exact .nil | exact .refl _ | exact .h | apply Pick.t | apply Picks.cons | apply Picks.skip)); done)
        | exact E_fin2 (.inl rfl) rfl rfl rfl rfl (by (repeat (first | exact .nil | exact .refl _ | exact .h | apply Pick.t | apply Picks.cons | apply Picks.skip)); done)
        | exact E_fin2 (.inr rfl) rfl rfl rfl rfl (by (repeat (first | exact .nil | exact .refl _ | exact .h | apply Pick.t | apply Picks.cons | apply Picks.skip)); done)
        | exact E_fin3 (.inl rfl) rfl rfl rfl rfl rfl (by (repeat (first | exact .nil | exact .refl _ | exact .h | apply Pick.t | apply Picks.cons | apply Picks.skip)); done)
        | exact E_fin3 (.inr rfl) rfl rfl rfl rfl rfl (by (repeat (first | exact .nil | exact .refl _ | exact .h | apply Pick.t | apply Picks.cons | apply Picks.skip)); done)
        | exact E_fin0 (.inl rfl) rfl (by (repeat (first | exact .nil | exact .refl _ | exact .h | apply Pick.t | apply Picks.cons | apply Picks.skip)); done)
        | exact E_fin0 (.inr rfl) rfl (by (repeat (first | exact .nil | exact .refl _ | exact .h | apply Pick.t | apply Picks.cons | apply Picks.skip)); done) | fail)
      have e1 : pre.length + 1 = (pre ++ [-1]).length := by simp
      rw [← List.map_append, e1]
      exact H_use (pre ++ [-1], a2, c2) key (by rw [hb]; rfl) ⟨rfl, rfl, trivial⟩ fun _ hs => sat_sub (by (repeat (first | exact .nil | exact .refl _ | exact .h | apply Pick.t | apply Picks.cons | apply Picks.skip)); done) hs
    | false =>
      repeat (first
        | refine H_seq ?_ | refine H_block ?_ | refine H_region ?_ | refine TL_nil ?_ | refine N_then ?_ | refine N_block ?_ | refine H_skip ?_ | refine H_ret ?_ | refine R_then ?_ | refine R_block ?_ | refine H_exit ?_
        | refine X_then ?_ | refine X_block_eq ?_ | refine X_block_ne rfl ?_ | refine H_cond_t rfl ?_ | refine H_cond_f rfl ?_
        | refine TL_y (by first | exact Y_move rfl | exact Y_assign rfl | exact Y_load rfl (Vl_cl (by (repeat (first | exact .h | apply Pick.t)); done) rfl) | exact Y_load rfl (by assumption) | exact Y_indexAddr rfl rfl (by omega) (by first | omega | (simp only [List.length_cons]; omega)) | exact Y_load rfl (Vl_elem (by (repeat (first | exact .h | apply Pick.t)); done) (by assumption)) | exact Y_loadAt rfl (by (repeat (first | exact .h | apply Pick.t)); done) (by rfl) | exact Y_ext rfl rfl | exact Y_lssd rfl rfl (by first | exact decide_eq_true (by omega) | exact decide_eq_false (by omega)) | exact Y_lss rfl rfl | exact Y_add' rfl rfl (w64 (by omega) (by omega)) | exact Y_add' rfl rfl (wu64 (by omega) (by omega)) | exact Y_convInt' rfl (w64 (by omega) (by omega)) | exact Y_convInt' rfl (wu64 (by omega) (by omega)) | exact Y_len_slice rfl | fail) rfl ?_
        | refine T_bs0 rfl fun b1 => ?_ | refine T_bs1 rfl rfl rfl fun b1 => ?_ | refine T_bsn rfl rfl rfl rfl rfl rfl fun b1 => ?_
        | exact E_fin1 (.inl rfl) rfl rfl rfl (by (repeat (first | exact .nil | exact .refl _ | exact .h | apply Pick.t | apply Picks.cons | apply Picks.skip)); done)
        | exact E_fin1 (.inr rfl) rfl rfl rfl (by (repeat (first | exact .nil | exact .refl _ | exact .h | apply Pick.t | apply Picks.cons | apply Picks.skip)); done)
        | exact E_fin2 (.inl rfl) rfl rfl rfl rfl (by (repeat (first | exact .nil | exact .refl _ | exact .h | apply Pick.t | apply Picks.cons | apply Picks.skip)); done)
        | exact E_fin2 (.inr rfl) rfl rfl rfl rfl (by (repeat (first | exact .nil | exact .refl _ | exact .h | apply Pick.t | apply Picks.cons | apply Picks.skip)); done)
        | exact E_fin3 (.inl rfl) rfl rfl rfl rfl rfl (by (repeat (first | exact .nil | exact .refl _ | exact .h | apply Pick.t | apply Picks.cons | apply Picks.skip)); done)
        | exact E_fin3 (.inr rfl) rfl rfl rfl rfl rfl (by (repeat (first | exact .nil | exact .refl _ | exact .h | apply Pick.t | apply Picks.cons | apply Picks.skip)); done)
        | exact E_fin0 (.inl rfl) rfl (by (repeat (first | exact .nil | exact .refl _ | exact .h | apply Pick.t | apply Picks.cons | apply Picks.skip)); done)
        | exact E_fin0 (.inr rfl) rfl (by (repeat (first | exact .nil | exact .refl _ | exact .h | apply Pick.t | apply Picks.cons | apply Picks.skip)); done) | fail)
      exact H_use (pre, _, _) key (by rw [hb]; simp) ⟨rfl, rfl, trivial⟩ fun _ hs => sat_sub (by (repeat (first | exact .nil | exact .refl _ | exact .h | apply Pick.t | apply Picks.cons | apply Picks.skip)); done) hs
end
end Go.Proofs
