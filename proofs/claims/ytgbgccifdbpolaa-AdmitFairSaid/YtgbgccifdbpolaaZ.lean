/- Proved here: whatever its two arguments are, the call of wicketlaw13.AdmitFair returns true and each argument reads behind the call as it read before. No condition. -/
import Derived.Test.YtgbgccifdbpolaaRows
import Derived.WalkKit
import Derived.ProofKit
import Derived.OpenShut
import Derived.Test.YtgbgccifdbpolaaX07
set_option linter.all false
set_option linter.unusedVariables false
set_option linter.unusedSimpArgs false
set_option linter.unnecessarySimpa false
namespace Go.Proofs.Ytgbgccifdbpolaa.admitFair
open Go.ChangeShapes Go.WideShapes Go.ChangeAt Go.RowKit Go.SL
section
variable {H : Type} {enc : TypeId × Value → H} {w : World} {held : Bool}
theorem wf64 {x : Int} (h : (Lit.int .i64 x).wf = true) : -9223372036854775808 ≤ x ∧ x ≤ 9223372036854775807 := by
  simpa [Lit.wf, IntKind.min, IntKind.max, IntKind.signed, IntKind.bits] using h
theorem read_cfg {n : Nat} {cs : List Value} {y : DataW H × List MemPlace} (h : DataW.trod enc Try.prog w 0 (fun _ => true) held n 47 cs = some y) :
    ∃ bl cap mr hi cl' : Int, cs = [i64v bl, i64v cap, i64v mr, i64v hi, i64v cl'] ∧ ∀ x ∈ [bl, cap, mr, hi, cl'], -9223372036854775808 ≤ x ∧ x ≤ 9223372036854775807 := by
  obtain ⟨hl, hf⟩ := read_field (P := Try.prog) Try.underlying47 h
  have hl5 : cs.length = 5 := by rw [hl]; kernel_rfl
  obtain ⟨a, b, c, d, e, rfl⟩ := len5 hl5
  obtain ⟨n0, y0, h0⟩ := hf 0 _ rfl
  obtain ⟨n1, y1, h1⟩ := hf 1 _ rfl
  obtain ⟨n2, y2, h2⟩ := hf 2 _ rfl
  obtain ⟨n3, y3, h3⟩ := hf 3 _ rfl
  obtain ⟨n4, y4, h4⟩ := hf 4 _ rfl
  have c3 : Try.prog.cellsOf 3 = 1 := by kernel_rfl
  have g0 : DataW.trod enc Try.prog w 0 (fun _ => true) held n0 3 (List.take (Try.prog.cellsOf 3) (List.drop 0 [a, b, c, d, e])) = some y0 := h0
  have g1 : DataW.trod enc Try.prog w 0 (fun _ => true) held n1 3 (List.take (Try.prog.cellsOf 3) (List.drop 1 [a, b, c, d, e])) = some y1 := h1
  have g2 : DataW.trod enc Try.prog w 0 (fun _ => true) held n2 3 (List.take (Try.prog.cellsOf 3) (List.drop 2 [a, b, c, d, e])) = some y2 := h2
  have g3 : DataW.trod enc Try.prog w 0 (fun _ => true) held n3 3 (List.take (Try.prog.cellsOf 3) (List.drop 3 [a, b, c, d, e])) = some y3 := h3
  have g4 : DataW.trod enc Try.prog w 0 (fun _ => true) held n4 3 (List.take (Try.prog.cellsOf 3) (List.drop 4 [a, b, c, d, e])) = some y4 := h4
  rw [c3] at g0 g1 g2 g3 g4
  obtain ⟨k0, e0, w0⟩ := read_int Try.underlying3 (cs := [a]) g0
  obtain ⟨k1, e1, w1⟩ := read_int Try.underlying3 (cs := [b]) g1
  obtain ⟨k2, e2, w2⟩ := read_int Try.underlying3 (cs := [c]) g2
  obtain ⟨k3, e3, w3⟩ := read_int Try.underlying3 (cs := [d]) g3
  obtain ⟨k4, e4, w4⟩ := read_int Try.underlying3 (cs := [e]) g4
  cases e0; cases e1; cases e2; cases e3; cases e4
  refine ⟨k0, k1, k2, k3, k4, rfl, fun x hx => ?_⟩
  simp only [List.mem_cons, List.not_mem_nil, or_false] at hx
  rcases hx with rfl | rfl | rfl | rfl | rfl
  · exact wf64 w0
  · exact wf64 w1
  · exact wf64 w2
  · exact wf64 w3
  · exact wf64 w4
end
set_option maxRecDepth 100000 in
theorem lifted (os : Os) (started : os.Started) (H : Type) (enc : TypeId × Value → H) :
    ReturnsInHanded {} Try.checked os 7 .any (Rows.admitFairSpec.pre6 enc Try.prog Try.f7 Rows.admitFairRow.domain false) (Rows.admitFairSpec.post enc Try.prog Try.f7 false true false false) := by
  refine returnsInHanded_of_change (C := Try.checked) own started (by kernel_rfl) Try.func7
    (ChangeSpec.witness6 (enc := enc) (C := Try.checked) false ⟨#[], #[.agg #[.int .i64 0, .int .i64 0, .int .i64 0, .int .i64 0, .int .i64 0], .slice none 0 0], []⟩ 8 (by kernel_rfl) (by kernel_rfl) (by kernel_rfl) (by kernel_rfl)) ?_
  intro W base args ds gs before hval0 hW hcnd _
  have hval : ∀ (j : Nat) t v, Try.f7.params[j]? = some t → args[j]? = some v → Value.okWide Try.prog W .any base t v := hval0
  have hlt := hW.lt
  have hW' := hW
  obtain ⟨p, q, hA0, hV, rfl, hfz, hnd⟩ := hW
  have hA : DataW.TrodAll enc Try.prog W 0 (fun _ => true) true Try.f7.params.toList args.toList ds p := hA0
  rw [Try.params7] at hA hval
  obtain ⟨v0, v1, d0, d1, p0, p1, rfl, rfl, rfl, h0, h1⟩ := trodAll_two hA
  obtain ⟨rfl, rfl⟩ := trodVars_none hV
  simp only [List.append_nil] at hW' hlt
  obtain ⟨c0, rfl, _⟩ := okWide_struct Try.underlying47 (hval 0 47 v0 rfl rfl)
  obtain ⟨sa, sl, sc, rfl⟩ := okWide_slice Try.underlying71 (hval 1 71 v1 rfl rfl)
  obtain ⟨n0, t0⟩ := h0
  obtain ⟨n1, t1⟩ := h1
  obtain ⟨bl, cap, mr, hi, cl', e0, hrng⟩ := read_cfg t0
  obtain ⟨a, c, ops, e1, l1, l2, l3, hops, hrd⟩ := read_slice (P := Try.prog) Try.underlying71 (k := 5) (by kernel_rfl) (by omega) Go.Proofs.opCells
    (fun x => Sok x.2.1 x.2.2 ∧ x.1.set.length ≤ x.2.2 ∧ x.2.2 ≤ maxLen ∧ rdw W x.2.1 (x.1.set.map i64v)) (fun n cs y hy => read_op hy) t1
  have e0' : (Value.agg c0) = Go.Proofs.cfgV bl cap mr hi cl' := by
    have : c0.toList = [i64v bl, i64v cap, i64v mr, i64v hi, i64v cl'] := e0
    unfold Go.Proofs.cfgV
    rw [← this]
  have e1' : Value.slice sa sl sc = .slice a ops.length c := by simpa [Value.cells] using e1
  rw [e0', e1']
  rw [e0', e1'] at hW' hA
  refine (law_calls_sat (args := [Go.Proofs.cfgV bl cap mr hi cl', .slice a ops.length c]) (w := W) (Go.Proofs.fair_ct (D := Go.SL.base W) (fun L => Rd_base .h hrd) (fun x hx => ⟨(hops x hx).1, (hops x hx).2.1, (hops x hx).2.2.1, fun L => Rd_base .h (hops x hx).2.2.2⟩) hrng (by omega) [])).mono fun e W' ⟨he, hs⟩ => ?_
  subst he
  exact ⟨_, rfl, post_law (pv := []) hW' (trodAll_cons_mk (shut_bool Try.underlying4 _) trodAll_mk0) (trodAll_old kids (szB_spec sz) hs (by intro t ht; simp at ht; rcases ht with rfl | rfl <;> decide +kernel) hA hlt) rfl (kept_of_base hs)⟩
theorem over : Rows.admitFairRow.holds Try.pinned (OpenSpec.ofChange Rows.admitFairSpec) :=
  OpenClaim.holds_of_wide 7 Try.f7 rfl rfl rfl rfl rfl rfl rfl ⟨rfl, rfl, rfl, rfl, rfl⟩ rfl rfl rfl rfl rfl (by kernel_rfl) Try.func7 (by kernel_rfl)
    (of_decide_eq_true (by kernel_rfl)) (by unfold Func.isWrapper; first | (rw [if_pos (by decide +kernel)]; kernel_rfl) | (rw [if_neg (by decide +kernel)]; exact ⟨rfl, rfl⟩))
    (fun os started H enc _ => lifted os started H enc)
/-- the statement -/
theorem proved : Rows.AdmitFairSaid := over
end Go.Proofs.Ytgbgccifdbpolaa.admitFair
