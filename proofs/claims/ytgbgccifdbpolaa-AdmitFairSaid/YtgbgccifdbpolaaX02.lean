/- Part of the proof of AdmitFairSaid: lemmas and contracts that it uses. -/
import Derived.Test.YtgbgccifdbpolaaX00
import Derived.Test.YtgbgccifdbpolaaX01
set_option linter.all false
set_option linter.unusedVariables false
set_option linter.unusedSimpArgs false
set_option linter.unnecessarySimpa false
namespace Go.SL

variable {n : Nat} {ds : List Deferred} {S : Sp} {a : Act} {L : List Asn} {w : World} {P : Program} {r : Option Nat} {Q : Exit → Act → World → Prop}
variable {ty : TypeId} {ps : String} {af : Array Edge} {d : Nat} {dst : Option Tmp} {l0 rest : List Oper}

/-- the assertions of A stand in L, F is what is left -/
inductive Picks : List Asn → List Asn → List Asn → Prop
  | nil {L : List Asn} : Picks [] L L
  | refl (L : List Asn) : Picks L L []
  | cons {B : Asn} {A L L1 F : List Asn} : Pick B L L1 → Picks A L1 F → Picks (B :: A) L F
theorem Picks.stars {A L F : List Asn} (p : Picks A L F) : ∀ {h : Hp}, SL.stars L h → SL.stars (A ++ F) h := by
  induction p with
  | nil => exact fun hs => hs
  | refl L => exact fun hs => by simpa using hs
  | cons p _ ih =>
    intro h hs
    obtain ⟨h1, h2, dd, rfl, ha, hl⟩ := p.stars hs
    exact ⟨h1, h2, dd, rfl, ha, ih hl⟩
theorem Picks.skip {B : Asn} {A L F : List Asn} (p : Picks A L F) : Picks A (B :: L) (B :: F) := by
  induction p with
  | nil => exact .nil
  | refl L =>
    induction L with
    | nil => exact .nil
    | cons a l ih => exact .cons (.t .h) ih
  | cons p _ ih => exact .cons (.t p) ih
theorem Picks.sat {A L F : List Asn} (p : Picks A L F) {w : World} (hs : SL.sat L w) : SL.sat (A ++ F) w := sat_mono (fun _ => p.stars) hs

/-- f takes what A says, yields v, and leaves B -/
def CtA (P : Program) (f : FuncId) (args : List Value) (A : List Asn) (v : Value) (B : List Asn → List Asn) : Prop := ∀ F, Ct P f args (A ++ F) (fun u L' => u = v ∧ L' = B F)
/-- likewise, of an x with φ x -/
def PE {α : Type} (φ : α → Prop) (v : α → Value) (B : α → List Asn → List Asn) (F : List Asn) : Value → List Asn → Prop := fun u L' => ∃ x, φ x ∧ u = v x ∧ L' = B x F
def CtE {α : Type} (P : Program) (f : FuncId) (args : List Value) (A : List Asn) (φ : α → Prop) (v : α → Value) (B : α → List Asn → List Asn) : Prop := ∀ F, Ct P f args (A ++ F) (PE φ v B F)

theorem Ct.sat {f : FuncId} {args : List Value} {L L1 : List Asn} {R : Value → List Asn → Prop} (h : Ct P f args L1 R) (hl : ∀ w, SL.sat L w → SL.sat L1 w) : Ct P f args L R := fun w hs => h w (hl w hs)

theorem T_callA {f : FuncId} [hf : FnT P f] {xs : List Operand} {tys : Array TypeId} {vs : List Value} {A F : List Asn} {v : Value} {B : List Asn → List Asn}
    (hx : evs S xs = some vs) (hlt : Nat.blt d n = true) (hp : Picks A L F) (hc : CtA P f vs A v B) (h : H n ds ((d, v) :: S) (B F) (TL r P l0 Q rest)) :
    H n ds S L (TL r P l0 Q (⟨some d, .call ⟨.value (.func f), xs.toArray, tys⟩, ty, ps, af, none⟩ :: rest)) :=
  T_call hx hlt ((hc F).sat fun _ hs => hp.sat hs) fun u L' ⟨e1, e2⟩ => by subst e1; subst e2; exact h
theorem T_callE {α : Type} {f : FuncId} [hf : FnT P f] {xs : List Operand} {tys : Array TypeId} {vs : List Value} {A F : List Asn} {φ : α → Prop} {v : α → Value} {B : α → List Asn → List Asn}
    (hx : evs S xs = some vs) (hlt : Nat.blt d n = true) (hp : Picks A L F) (hc : CtE P f vs A φ v B) (h : ∀ x, φ x → H n ds ((d, v x) :: S) (B x F) (TL r P l0 Q rest)) :
    H n ds S L (TL r P l0 Q (⟨some d, .call ⟨.value (.func f), xs.toArray, tys⟩, ty, ps, af, none⟩ :: rest)) :=
  T_call hx hlt ((hc F).sat fun _ hs => hp.sat hs) fun u L' ⟨x, hx, e1, e2⟩ => by subst e1; subst e2; exact h x hx

/-- a call whose value nobody takes -/
theorem T_callv0 {f : FuncId} [hf : FnT P f] {xs : List Operand} {tys : Array TypeId} {vs : List Value} {R : Value → List Asn → Prop}
    (hx : evs S xs = some vs) (hc : Ct P f vs L R) (h : ∀ v L', R v L' → H n ds S L' (TL r P l0 Q rest)) :
    H n ds S L (TL r P l0 Q (⟨none, .call ⟨.value (.func f), xs.toArray, tys⟩, ty, ps, af, none⟩ :: rest)) := by
  refine TL_run rfl nofun fun a w hk hs => ?_
  have e1 : xs.toArray.map a.eval = vs.toArray := by apply Array.ext'; simp [hk.evs hx]
  refine ⟨.enter f vs.toArray, w, ?_, ?_⟩
  · have e2 : a.eval (.func f) = .func (.func f) #[] #[] := rfl
    simp [execOp, resolve, e2, Deferred.ofValue, invoke, e1, hf.enter]
  · refine ⟨fun h => by simp [FW, Fence.wide] at h, (callsIn_FW (hc w hs)).mono ?_⟩
    rintro e w' ⟨v, L', rfl, hR, hs'⟩
    exact h v L' hR _ w' hk hs'
theorem T_callA0 {f : FuncId} [hf : FnT P f] {xs : List Operand} {tys : Array TypeId} {vs : List Value} {A F : List Asn} {v : Value} {B : List Asn → List Asn}
    (hx : evs S xs = some vs) (hp : Picks A L F) (hc : CtA P f vs A v B) (h : H n ds S (B F) (TL r P l0 Q rest)) :
    H n ds S L (TL r P l0 Q (⟨none, .call ⟨.value (.func f), xs.toArray, tys⟩, ty, ps, af, none⟩ :: rest)) :=
  T_callv0 hx ((hc F).sat fun _ hs => hp.sat hs) fun u L' ⟨e1, e2⟩ => by subst e1; subst e2; exact h
theorem T_callE0 {α : Type} {f : FuncId} [hf : FnT P f] {xs : List Operand} {tys : Array TypeId} {vs : List Value} {A F : List Asn} {φ : α → Prop} {v : α → Value} {B : α → List Asn → List Asn}
    (hx : evs S xs = some vs) (hp : Picks A L F) (hc : CtE P f vs A φ v B) (h : ∀ x, φ x → H n ds S (B x F) (TL r P l0 Q rest)) :
    H n ds S L (TL r P l0 Q (⟨none, .call ⟨.value (.func f), xs.toArray, tys⟩, ty, ps, af, none⟩ :: rest)) :=
  T_callv0 hx ((hc F).sat fun _ hs => hp.sat hs) fun u L' ⟨x, hx, e1, e2⟩ => by subst e1; subst e2; exact h x hx

theorem T_makeMapp {t kt e : Nat} {k : IntKind} [ht : MapT P t kt e] [hk : IntT P kt k] (hlt : Nat.blt d n = true) (h : ∀ b, H n ds ((d, .map (some b)) :: S) (mp b k [] :: L) (TL r P l0 Q rest)) :
    H n ds S L (TL r P l0 Q (⟨some d, .makeMap t none, ty, ps, af, none⟩ :: rest)) :=
  T_makeMap hlt fun b => H_to (h b) fun _ hs => mp_new hs

/-- L is L1, put in order -/
theorem H_ord {L1 : List Asn} {G : Act → World → Prop} (hp : Picks L1 L []) (h : H n ds S L1 G) : H n ds S L G :=
  H_to h fun _ hs => by simpa using hp.sat hs
theorem H_ordF {L1 F : List Asn} {G : Act → World → Prop} (hp : Picks L1 L F) (h : H n ds S (L1 ++ F) G) : H n ds S L G :=
  H_to h fun _ hs => hp.sat hs
theorem sat_ord {L1 : List Asn} (hp : Picks L1 L []) (hs : sat L w) : sat L1 w := by simpa using hp.sat hs

theorem sat_app {A F : List Asn} : ∀ {w : World}, sat (A ++ F) w → sat A w := by
  intro w ⟨h, hs, hr⟩
  have key : ∀ (A : List Asn) (h : Hp), stars (A ++ F) h → ∃ h', stars A h' ∧ ∀ b o, h' b = some o → h b = some o := by
    intro A
    induction A with
    | nil => intro h _; exact ⟨fun _ => none, fun _ => rfl, fun _ _ e => by cases e⟩
    | cons B A ih =>
      rintro h ⟨h1, h2, dd, rfl, hb, hl⟩
      obtain ⟨h', a1, a2⟩ := ih h2 hl
      refine ⟨un h1 h', ⟨h1, h', ?_, rfl, hb, a1⟩, ?_⟩
      · intro b
        rcases dd b with e | e
        · exact .inl e
        · refine .inr ?_
          cases hh : h' b with
          | none => rfl
          | some o => rw [a2 b o hh] at e; cases e
      · intro b o e
        simp only [un] at e ⊢
        cases hh : h1 b with
        | some o' => simp only [hh] at e ⊢; exact e
        | none => simp only [hh] at e ⊢; exact a2 b o e
  obtain ⟨h', a1, a2⟩ := key A h hs
  exact ⟨h', a1, fun b o e => hr b o (a2 b o e)⟩
theorem sat_sub {A F : List Asn} (hp : Picks A L F) (hs : sat L w) : sat A w := sat_app (hp.sat hs)

section
variable {fn : Func} {e : Exit}
theorem Pick.toPicks {A : Asn} {L L1 : List Asn} (p : Pick A L L1) : Picks [A] L L1 := .cons p .nil
/-- results, where what is left is L1 up to its order -/
theorem E_fin1 {t : Nat} {v u : Value} {L1 G0 : List Asn} (he : e = .ret ∨ e = .normal) (hr : fn.results = #[.tmp t]) (hv : look S t = some u) (hu : u = v) (hp : Picks L1 L G0) : H n [] S L (RQ P fn (fun x L' => x = v ∧ L' = L1) e) :=
  H_fin1 he hr hv ⟨L1, ⟨hu, rfl⟩, fun _ hs => sat_sub hp hs⟩
theorem E_fin0 {L1 G0 : List Asn} (he : e = .ret ∨ e = .normal) (hr : fn.results = #[]) (hp : Picks L1 L G0) : H n [] S L (RQ P fn (fun x L' => x = .tuple #[] ∧ L' = L1) e) :=
  H_fin0 he hr ⟨L1, ⟨rfl, rfl⟩, fun _ hs => sat_sub hp hs⟩
theorem E_fin2 {t s : Nat} {v u : Value} {x : Value} {L1 G0 : List Asn} (he : e = .ret ∨ e = .normal) (hr : fn.results = #[.tmp t, .tmp s]) (hv : look S t = some u) (hx : look S s = some x) (hu : .tuple #[u, x] = v) (hp : Picks L1 L G0) : H n [] S L (RQ P fn (fun x L' => x = v ∧ L' = L1) e) :=
  H_fin2 he hr hv hx ⟨L1, ⟨hu, rfl⟩, fun _ hs => sat_sub hp hs⟩
theorem E_fin3 {t s s' : Nat} {v u : Value} {x y : Value} {L1 G0 : List Asn} (he : e = .ret ∨ e = .normal) (hr : fn.results = #[.tmp t, .tmp s, .tmp s']) (hv : look S t = some u) (hx : look S s = some x) (hy : look S s' = some y) (hu : .tuple #[u, x, y] = v) (hp : Picks L1 L G0) : H n [] S L (RQ P fn (fun x L' => x = v ∧ L' = L1) e) :=
  H_fin3 he hr hv hx hy ⟨L1, ⟨hu, rfl⟩, fun _ hs => sat_sub hp hs⟩
/-- likewise of a contract with a witness -/
theorem X_fin1 {α : Type} {φ : α → Prop} {f : α → Value} {B : α → List Asn → List Asn} {F G0 : List Asn} {t : Nat} {u : Value} (x : α) (hφ : φ x) (he : e = .ret ∨ e = .normal) (hr : fn.results = #[.tmp t]) (hv : look S t = some u) (hu : u = f x) (hp : Picks (B x F) L G0) :
    H n [] S L (RQ P fn (PE φ f B F) e) := H_fin1 he hr hv ⟨_, ⟨x, hφ, hu, rfl⟩, fun _ hs => sat_sub hp hs⟩
theorem X_fin0 {α : Type} {φ : α → Prop} {f : α → Value} {B : α → List Asn → List Asn} {F G0 : List Asn} (x : α) (hφ : φ x) (he : e = .ret ∨ e = .normal) (hr : fn.results = #[]) (hu : .tuple #[] = f x) (hp : Picks (B x F) L G0) :
    H n [] S L (RQ P fn (PE φ f B F) e) := H_fin0 he hr ⟨_, ⟨x, hφ, hu, rfl⟩, fun _ hs => sat_sub hp hs⟩
theorem X_fin2 {α : Type} {φ : α → Prop} {f : α → Value} {B : α → List Asn → List Asn} {F G0 : List Asn} {t s : Nat} {u y : Value} (x : α) (hφ : φ x) (he : e = .ret ∨ e = .normal) (hr : fn.results = #[.tmp t, .tmp s]) (hv : look S t = some u) (hx : look S s = some y) (hu : .tuple #[u, y] = f x) (hp : Picks (B x F) L G0) :
    H n [] S L (RQ P fn (PE φ f B F) e) := H_fin2 he hr hv hx ⟨_, ⟨x, hφ, hu, rfl⟩, fun _ hs => sat_sub hp hs⟩
theorem X_fin3 {α : Type} {φ : α → Prop} {f : α → Value} {B : α → List Asn → List Asn} {F G0 : List Asn} {t s s' : Nat} {u y z : Value} (x : α) (hφ : φ x) (he : e = .ret ∨ e = .normal) (hr : fn.results = #[.tmp t, .tmp s, .tmp s']) (hv : look S t = some u) (hx : look S s = some y) (hy : look S s' = some z) (hu : .tuple #[u, y, z] = f x) (hp : Picks (B x F) L G0) :
    H n [] S L (RQ P fn (PE φ f B F) e) := H_fin3 he hr hv hx hy ⟨_, ⟨x, hφ, hu, rfl⟩, fun _ hs => sat_sub hp hs⟩
end

theorem Y_loadAt {t sz : Nat} [ht : AggT P t sz] {x : Operand} {b : Nat} {cs : List Value} {e : TypeId} {L' : List Asn} (hx : ev S x = some (.pointer (some ⟨b, 0, none⟩))) (pk : Pick (cl b cs e) L L') (hl : cs.length = sz) :
    Y P S L ⟨dst, .load t x, ty, ps, af, none⟩ (.agg cs.toArray) :=
  Y_loadA hx hl fun j v hj => by rw [Nat.zero_add]; exact Vl_cl pk hj
def setRow : List Value → Nat → List Value → List Value
  | cs, _, [] => cs
  | cs, i, v :: vs => setRow (cs.set i v) (i + 1) vs
def cellsL : Value → List Value
  | .agg cs => cs.toList
  | v => [v]
def fillL (pl : List (Nat × Nat)) : List Value → List (Nat × Value) → Option (List Value)
  | cs, [] => some cs
  | cs, (i, v) :: rest => match pl[i]? with
    | none => none
    | some (off, size) => match Nat.beq (cellsL v).length size && Nat.ble (off + (cellsL v).length) cs.length with
      | true => fillL pl (setRow cs off (cellsL v)) rest
      | false => none
theorem cellsL_eq (v : Value) : v.cells.toList = cellsL v := by cases v <;> rfl
theorem setRow_length : ∀ (vs cs : List Value) (i : Nat), (setRow cs i vs).length = cs.length
  | [], _, _ => rfl
  | v :: vs, cs, i => by simp [setRow, setRow_length vs]
theorem setRow_eq : ∀ (vs cs : List Value) (off k : Nat), ((vs.zipIdx k).foldl (fun (cs : Array Value) (x : Value × Nat) => cs.setIfInBounds (off + x.2) x.1) cs.toArray) = (setRow cs (off + k) vs).toArray
  | [], _, _, _ => rfl
  | v :: vs, cs, off, k => by
    simp only [List.zipIdx_cons, List.foldl_cons, setRow, List.setIfInBounds_toArray]
    rw [setRow_eq vs (cs.set (off + k) v) off (k + 1)]
    rfl
theorem fillL_eq {pl : List (Nat × Nat)} : ∀ (us : List (Nat × Value)) (cs ds : List Value), fillL pl cs us = some ds → Instr.fill (fun i => pl[i]?) cs.toArray us = some ds.toArray
  | [], cs, ds, h => by simp only [fillL, Option.some.injEq] at h; subst h; rfl
  | (i, v) :: rest, cs, ds, h => by
    simp only [fillL] at h
    simp only [Instr.fill]
    cases hp : pl[i]? with
    | none => simp [hp] at h
    | some y =>
      obtain ⟨off, size⟩ := y
      simp only [hp] at h
      split at h
      · rename_i hb
        simp only [Bool.and_eq_true] at hb
        have h1 : v.cells.size = size := by rw [← Nat.eq_of_beq_eq_true hb.1, ← cellsL_eq]; simp
        have h2 : off + v.cells.size ≤ cs.length := by
          have := Nat.le_of_ble_eq_true hb.2
          rw [← cellsL_eq] at this; simpa using this
        have h3 : ¬ (v.cells.size ≠ size ∨ off + v.cells.size > cs.toArray.size) := by simp; omega
        simp only [Bool.or_eq_true, decide_eq_true_eq, h3, if_false]
        have e := setRow_eq (cellsL v) cs off 0
        rw [← cellsL_eq] at e
        have e2 : v.cells.zipIdx.foldl (fun (cs : Array Value) (x : Value × Nat) => cs.setIfInBounds (off + x.2) x.1) cs.toArray = (setRow cs off (cellsL v)).toArray := by
          rw [← Array.foldl_toList, Array.toList_zipIdx, e, cellsL_eq]; rfl
        refine Eq.trans ?_ (fillL_eq rest _ _ h)
        rw [← e2]
      · cases h
theorem Y_buildp {t : Nat} {pl : List (Nat × Nat)} {z : List Value} [ht : StructT P t pl z] {parts : Array (Nat × Operand)} {us : List Value} {cs : List Value}
    (hp : evs S (parts.toList.map (·.2)) = some us) (hl : Nat.beq us.length parts.toList.length = true) (hf : fillL pl z ((parts.toList.map (·.1)).zip us) = some cs) :
    Y P S L ⟨dst, .build t parts, ty, ps, af, none⟩ (.agg cs.toArray) := by
  have hl' : us.length = parts.toList.length := Nat.eq_of_beq_eq_true hl
  refine Y_build (vs := (parts.toList.map (·.1)).zip us) (ht := ht) ?_ ?_ (fillL_eq _ _ _ hf)
  · rw [hp, List.map_snd_zip]; simp [hl']
  · rw [List.map_fst_zip]; simp [hl']
def ones (vs : List Value) : Bool := vs.all Value.oneCell'
theorem ones_one {vs : List Value} (h : ones vs = true) : one vs := fun u hu => List.all_eq_true.1 h u hu
theorem T_storeAt {t sz : Nat} [ht : AggT P t sz] {x y : Operand} {b o : Nat} {vs : List Value} {cs : List Value} {e : TypeId} {L' : List Asn} (hx : ev S x = some (.pointer (some ⟨b, o, none⟩))) (hy : ev S y = some (.agg vs.toArray))
    (p : Pick (cl b cs e) L L') (h1 : Nat.beq vs.length sz = true) (h2 : ones vs = true) (hl : Nat.ble (o + sz) cs.length = true) (h : H n ds S (cl b (setRow cs o vs) e :: L') (TL r P l0 Q rest)) :
    H n ds S L (TL r P l0 Q (⟨none, .store t x y, ty, ps, af, none⟩ :: rest)) := by
  have e1 : vs.length = sz := Nat.eq_of_beq_eq_true h1
  have e2 : o + sz ≤ cs.length := Nat.le_of_ble_eq_true hl
  refine T_storeA hx hy (by simpa using e1) (by have := ones_one h2; simpa [one] using this) p e2 ?_
  have : ∀ (vs cs : List Value) (o : Nat), o + vs.length ≤ cs.length → setRow cs o vs = cs.take o ++ vs ++ cs.drop (o + vs.length) := by
    intro vs
    induction vs with
    | nil => intro cs o _; simp [setRow]
    | cons v vs ih =>
      intro cs o h
      simp only [List.length_cons] at h
      rw [setRow, ih _ _ (by simp; omega)]
      have e3 : cs.set o v = (cs.take o ++ [v]) ++ cs.drop (o + 1) := by rw [List.set_eq_take_append_cons_drop, if_pos (by omega)]; simp
      have e4 : (cs.take o ++ [v]).length = o + 1 := by simp; omega
      rw [e3, List.take_left' e4, ← List.drop_drop, List.drop_left' e4, List.drop_drop]
      simp only [List.append_assoc, List.cons_append, List.nil_append, List.length_cons]
      rw [show o + 1 + vs.length = o + (vs.length + 1) by omega]
  rw [this _ _ _ (by omega), e1] at h
  exact h
end Go.SL
namespace Go.SL
abbrev ptrv (p : Nat) : Value := .pointer (some ⟨p, 0, none⟩)
abbrev i64v (x : Int) : Value := .int .i64 x
abbrev u64v (x : Int) : Value := .int .u64 x

variable {n : Nat} {ds : List Deferred} {S : Sp} {a : Act} {L : List Asn} {w : World} {P : Program} {r : Option Nat} {Q : Exit → Act → World → Prop}
variable {ty : TypeId} {ps : String} {af : Array Edge} {d : Nat} {dst : Option Tmp} {l0 rest : List Oper} {G : Act → World → Prop}

theorem H_slcnone {e sz k c : Nat} {xs : List Value} {L' : List Asn} (pk : Pick (slc e sz none k c xs) L L') (h : k = 0 → c = 0 → xs = [] → H n ds S L G) : H n ds S L G := fun a w hk hs => by
  rcases sat_slc.1 (sat_pick pk hs) with ⟨_, h1, h2, h3, _⟩ | ⟨b, pre, spare, e1, _⟩
  · exact h h1 h2 h3 a w hk hs
  · cases e1
theorem H_slccase {e sz k c : Nat} {p : Option Addr} {xs : List Value} {L' : List Asn} (pk : Pick (slc e sz p k c xs) L L')
    (h0 : p = none → k = 0 → c = 0 → xs = [] → H n ds S L G) (h1 : ∀ b o, p = some ⟨b, o, none⟩ → H n ds S L G) : H n ds S L G := fun a w hk hs => by
  rcases sat_slc.1 (sat_pick pk hs) with ⟨e0, h1', h2, h3, _⟩ | ⟨b, pre, spare, e1, _⟩
  · exact h0 e0 h1' h2 h3 a w hk hs
  · exact h1 b _ e1 a w hk hs
/-- the block of a slice of one's own -/
theorem H_slcopen {e sz k c : Nat} {b o : Nat} {xs : List Value} {L' : List Asn} (pk : Pick (slc e sz (some ⟨b, o, none⟩) k c xs) L L')
    (h : ∀ pre spare, o = pre.length → k ≤ c → c ≤ maxLen → xs.length = k * sz → spare.length = (c - k) * sz → one xs → H n ds S (cl b (pre ++ xs ++ spare) e :: L') G) : H n ds S L G := fun a w hk hs => by
  rcases sat_slc.1 (sat_pick pk hs) with ⟨e1, _⟩ | ⟨b', pre, spare, e1, e2, e3, e4, e5, e6, hs'⟩
  · cases e1
  · simp only [Option.some.injEq, Addr.mk.injEq] at e1
    obtain ⟨rfl, rfl, _⟩ := e1
    exact h pre spare rfl e2 e3 e4 e5 e6 a w hk hs'
theorem H_slcclose {e sz k c b : Nat} {pre xs spare : List Value} {cs : List Value} {L' : List Asn} (pk : Pick (cl b cs e) L L') (hc : cs = pre ++ xs ++ spare) (h1 : k ≤ c) (h2 : c ≤ maxLen) (h3 : xs.length = k * sz) (h4 : spare.length = (c - k) * sz) (h5 : one xs)
    (h : H n ds S (slc e sz (some ⟨b, pre.length, none⟩) k c xs :: L') G) : H n ds S L G := fun a w hk hs => by
  subst hc
  exact h a w hk (sat_slc.2 (.inr ⟨b, pre, spare, rfl, h1, h2, h3, h4, h5, sat_pick pk hs⟩))
theorem T_buildSlice0 {t e sz by_ : Nat} [ht : SlT P t e sz by_] {z : Value} [hz : ZeroT P e z sz] (hlt : Nat.blt d n = true)
    (h : ∀ b, H n ds ((d, .slice (some ⟨b, 0, none⟩) 0 0) :: S) (slc e sz (some ⟨b, 0, none⟩) 0 0 [] :: L) (TL r P l0 Q rest)) :
    H n ds S L (TL r P l0 Q (⟨some d, .buildSlice t 0 #[], ty, ps, af, none⟩ :: rest)) :=
  T_buildSlice (vs := []) (cs := []) rfl rfl (by omega) (by simp [Instr.fill]) hlt fun b => H_to (h b) fun w hs => slc_of_cl hs (by simp) (by simp [maxLen]) one_nil
theorem Vl_elem {α : Type} {f : α → Value} {e k c b o : Nat} {xs : List α} {x : α} {i : Int} {L' : List Asn} (pk : Pick (slc e 1 (some ⟨b, o, none⟩) k c (xs.map f)) L L') (h : xs[i.toNat]? = some x) : Vl L b (o + i.toNat * 1) (f x) :=
  Vl_slc pk (by rw [Nat.mul_one, List.getElem?_map, h]; rfl)
theorem getSome {α : Type} {xs : List α} {i : Nat} (h : i < xs.length) : ∃ x, xs[i]? = some x := ⟨xs[i], by simp [h]⟩
theorem N_rk {ι : Type} {ks : List Nat} {S0 : Sp} {D : ι → Sp} {LL : ι → List Asn} {J : ι → Prop} {m : ι → Nat} {i : ι} (j : ι) (hJ : J j) (hm : m j < m i) (hD : SL.Sub (D j) S) (hS : SL.Sub (sel ks S0) S) (hL : ∀ w, sat L w → sat (LL j) w) :
    H n ds S L (fun a w => ∃ j, J j ∧ m j < m i ∧ K n ds (D j ++ sel ks S0) a ∧ sat (LL j) w) :=
  fun _ w hk hs => ⟨j, hJ, hm, hk.sub (Sub_app hD hS), hL w hs⟩

/-! # slices of slices -/
/-- where a slice from i on begins -/
def so (c i o sz : Nat) : Nat := if c = i then o else o + i * sz
theorem so_lt {c i o sz : Nat} (h : i < c) : so c i o sz = o + i * sz := by unfold so; rw [if_neg (by omega)]
theorem so_map {c i o sz b : Nat} : (if c = i then some (⟨b, o, none⟩ : Addr) else (some (⟨b, o, none⟩ : Addr)).map (·.add (i * sz))) = some ⟨b, so c i o sz, none⟩ := by
  unfold so; split <;> simp [Addr.add_none]
section
variable {t e sz by_ : Nat} [h1 : SlT P t e sz by_] {x lo hi mx : Operand} {b o k c : Nat} {I J M : Int} {ik ik2 ik3 : IntKind}
theorem toN0 : True := trivial
include h1
omit h1 in
theorem toN {I : Int} {ik : IntKind} {y : Operand} (h : ev S y = some (.int ik I)) (h0 : 0 ≤ I) : ∃ ik, ev S y = some (.int ik (I.toNat : Int)) := ⟨ik, by rw [h, Int.toNat_of_nonneg h0]⟩
theorem Y_slhi (hx : ev S x = some (.slice (some ⟨b, o, none⟩) k c)) (hhi : ev S hi = some (.int ik J)) (h0 : 0 ≤ J) (hj : J ≤ c) : Y P S L ⟨dst, .slice t x none (some hi) none, ty, ps, af, none⟩ (.slice (some ⟨b, o, none⟩) J.toNat c) := by
  have h := Y_slice (P := P) (L := L) (dst := dst) (ty := ty) (ps := ps) (af := af) (t := t) (i := 0) (lo := none) (hi := some hi) hx rfl (toN hhi h0) (Nat.zero_le _) (by omega)
  simp only [so_map, Nat.sub_zero] at h
  have e : so c 0 o sz = o := by unfold so; split <;> simp
  rwa [e] at h
theorem Y_sllo (hx : ev S x = some (.slice (some ⟨b, o, none⟩) k c)) (hlo : ev S lo = some (.int ik I)) (h0 : 0 ≤ I) (hk : I ≤ k) (hc : k ≤ c) : Y P S L ⟨dst, .slice t x (some lo) none none, ty, ps, af, none⟩ (.slice (some ⟨b, so c I.toNat o sz, none⟩) (k - I.toNat) (c - I.toNat)) := by
  have h := Y_slice (P := P) (L := L) (dst := dst) (ty := ty) (ps := ps) (af := af) (t := t) (lo := some lo) (hi := none) hx (toN hlo h0) rfl (by omega) hc
  simpa only [so_map] using h
theorem Y_sllh (hx : ev S x = some (.slice (some ⟨b, o, none⟩) k c)) (hlo : ev S lo = some (.int ik I)) (hhi : ev S hi = some (.int ik2 J)) (h0 : 0 ≤ I) (hij : I ≤ J) (hc : J ≤ c) : Y P S L ⟨dst, .slice t x (some lo) (some hi) none, ty, ps, af, none⟩ (.slice (some ⟨b, so c I.toNat o sz, none⟩) (J.toNat - I.toNat) (c - I.toNat)) := by
  have h := Y_slice (P := P) (L := L) (dst := dst) (ty := ty) (ps := ps) (af := af) (t := t) (lo := some lo) (hi := some hi) hx (toN hlo h0) (toN hhi (by omega)) (by omega) (by omega)
  simpa only [so_map] using h
theorem Y_slhm (hx : ev S x = some (.slice (some ⟨b, o, none⟩) k c)) (hhi : ev S hi = some (.int ik J)) (hmx : ev S mx = some (.int ik2 M)) (h0 : 0 ≤ J) (hj : J ≤ M) (hm : M ≤ c) : Y P S L ⟨dst, .slice t x none (some hi) (some mx), ty, ps, af, none⟩ (.slice (some ⟨b, o, none⟩) J.toNat M.toNat) := by
  obtain ⟨_, a1⟩ := toN hhi h0
  obtain ⟨_, a2⟩ := toN hmx (by omega)
  have h := Y_slice3 (P := P) (L := L) (dst := dst) (ty := ty) (ps := ps) (af := af) (t := t) (i := 0) (lo := none) hx rfl a1 a2 (Nat.zero_le _) (by omega) (by omega)
  simp only [so_map, Nat.sub_zero] at h
  have e : so M.toNat 0 o sz = o := by unfold so; split <;> simp
  rwa [e] at h
theorem Y_sllhm (hx : ev S x = some (.slice (some ⟨b, o, none⟩) k c)) (hlo : ev S lo = some (.int ik I)) (hhi : ev S hi = some (.int ik2 J)) (hmx : ev S mx = some (.int ik3 M)) (h0 : 0 ≤ I) (hij : I ≤ J) (hj : J ≤ M) (hm : M ≤ c) :
    Y P S L ⟨dst, .slice t x (some lo) (some hi) (some mx), ty, ps, af, none⟩ (.slice (some ⟨b, so M.toNat I.toNat o sz, none⟩) (J.toNat - I.toNat) (M.toNat - I.toNat)) := by
  obtain ⟨_, a1⟩ := toN hhi (by omega)
  obtain ⟨_, a2⟩ := toN hmx (by omega)
  have h := Y_slice3 (P := P) (L := L) (dst := dst) (ty := ty) (ps := ps) (af := af) (t := t) (lo := some lo) hx (toN hlo h0) a1 a2 (by omega) (by omega) (by omega)
  simpa only [so_map] using h
end
/-- the end of a slice, read through a slice of it -/
theorem Rd_so {e b c o sz j : Nat} {cs news : List Value} {L' : List Asn} (pk : Pick (cl b cs e) L L') (hc : c = j → news = []) (h : ∀ i v, news[i]? = some v → cs[o + j * sz + i]? = some v) : Rd L (some ⟨b, so c j o sz, none⟩) news := by
  by_cases e1 : c = j
  · rw [hc e1]; exact Rd_nil
  · unfold so; rw [if_neg e1]
    exact fun w hs => .inr ⟨b, _, rfl, fun i v hi => sat_cell (sat_pick pk hs) (h i v hi)⟩
theorem T_callvA {f : FuncId} [hf : FnT P f] {g : Operand} {xs : List Operand} {tys : Array TypeId} {cs vs : List Value} {A F : List Asn} {v : Value} {B : List Asn → List Asn} (hg : ev S g = some (.func (.func f) #[] cs.toArray))
    (hx : evs S xs = some vs) (hlt : Nat.blt d n = true) (hp : Picks A L F) (hc : CtA P f (vs ++ cs) A v B) (h : H n ds ((d, v) :: S) (B F) (TL r P l0 Q rest)) :
    H n ds S L (TL r P l0 Q (⟨some d, .call ⟨.value g, xs.toArray, tys⟩, ty, ps, af, none⟩ :: rest)) :=
  T_callv (fs := []) (cs := cs) (R := fun u L' => u = v ∧ L' = B F) hg hx hlt (by rw [List.nil_append]; exact (hc F).sat fun _ hs => hp.sat hs) fun u L' ⟨e1, e2⟩ => by subst e1; subst e2; exact h
theorem set_mid {A B : List Value} {m v : Value} : (A ++ m :: B).set A.length v = A ++ v :: B := by simp
theorem T_bs0 {t e sz by_ : Nat} [ht : SlT P t e sz by_] {z : Value} [hz : ZeroT P e z sz] (hlt : Nat.blt d n = true)
    (h : ∀ b, H n ds ((d, .slice (some ⟨b, 0, none⟩) 0 0) :: S) (slc e sz (some ⟨b, 0, none⟩) 0 0 [] :: L) (TL r P l0 Q rest)) :
    H n ds S L (TL r P l0 Q (⟨some d, .buildSlice t 0 #[], ty, ps, af, none⟩ :: rest)) := T_buildSlice0 hlt h
/-- one thing, as a slice -/
theorem T_bs1 {t e by_ : Nat} [ht : SlT P t e 1 by_] {z : Value} [hz : ZeroT P e z 1] {y : Operand} {v : Value} (hy : ev S y = some v) (h1 : v.oneCell' = true) (hlt : Nat.blt d n = true)
    (h : ∀ b, H n ds ((d, .slice (some ⟨b, 0, none⟩) 1 1) :: S) (cl b [v] e :: L) (TL r P l0 Q rest)) :
    H n ds S L (TL r P l0 Q (⟨some d, .buildSlice t 1 #[(0, y)], ty, ps, af, none⟩ :: rest)) := by
  have hc : v.cells = #[v] := by cases v <;> simp_all [Value.cells, Value.oneCell']
  have hz1 := hz.size
  refine T_buildSlice (vs := [(0, v)]) (cs := [v]) (by simp [evs, hy]) rfl (by omega) ?_ hlt h
  simp only [Instr.fill, hc]
  simp
  exact Array.ext (by simp) (by intro i h1 h2; have : i = 0 := by simp at h2; omega
                                subst this; simp)
/-- a tuple's part, reckoned out -/
def nth : List Value → Nat → Option Value
  | [], _ => none
  | v :: _, 0 => some v
  | _ :: l, i + 1 => nth l i
theorem nth_eq : ∀ (l : List Value) (i : Nat), nth l i = l[i]?
  | [], _ => rfl
  | _ :: _, 0 => rfl
  | _ :: l, i + 1 => by simp only [nth, List.getElem?_cons_succ]; exact nth_eq l i
theorem Y_ext {x : Operand} {i : Nat} {vs : List Value} {v : Value} (hx : ev S x = some (.tuple vs.toArray)) (hv : nth vs i = some v) : Y P S L ⟨dst, .extract x i, ty, ps, af, none⟩ v :=
  Y_extract hx (by rw [nth_eq] at hv; simpa using hv)
end Go.SL
namespace Go.Proofs
open Go Go.SL
attribute [local irreducible] H W TL XL Y cl mp slc
set_option maxRecDepth 20000
set_option maxHeartbeats 1000000

theorem clone_64 {a : Option Addr} {k c : Nat} {ys : List Value} (hk : k ≤ 1000000) :
    CtE Try.prog 78 [.slice a k c] [slc 36 1 a k c ys] (fun _ : Option Addr × Nat => True) (fun y => .slice y.1 k y.2) fun y F => slc 36 1 a k c ys :: slc 36 1 y.1 k y.2 ys :: F := by
  intro F; simp only [List.cons_append, List.nil_append]; refine Ct_of Try.func78 rfl (n := 8) rfl rfl ?_
  refine H_slclen .h fun hl hm _ h1 => ?_
  rw [Nat.mul_one] at hl
  refine H_slccase .h (fun e1 e2 e3 e4 => ?_) (fun b o e1 => ?_)
  · subst e1 e2 e3 e4
    repeat (first
      | refine H_seq ?_ | refine H_block ?_ | refine H_region ?_ | refine TL_nil ?_ | refine N_then ?_ | refine N_block ?_ | refine H_skip ?_ | refine H_ret ?_ | refine R_then ?_ | refine R_block ?_ | refine H_exit ?_
      | refine X_then ?_ | refine X_block_eq ?_ | refine X_block_ne rfl ?_ | refine H_cond_t rfl ?_ | refine H_cond_f rfl ?_
      | refine TL_y (by first | exact Y_move rfl | exact Y_assign rfl | exact Y_eqld rfl rfl (by first | exact decide_eq_true (by omega) | exact decide_eq_false (by omega)) | exact Y_eql rfl rfl | exact Y_eql_nil rfl rfl | exact Y_slice_eq_nil rfl rfl | exact Y_map_eq_nil rfl rfl | fail) rfl ?_
      | refine T_bs0 rfl fun b1 => ?_ | refine T_bs1 rfl rfl rfl fun b1 => ?_ | refine T_bsn rfl rfl rfl rfl rfl rfl fun b1 => ?_
      | exact E_fin1 (.inl rfl) rfl rfl rfl (by (repeat (first | exact .nil | exact .refl _ | exact .h | apply Pick.t | apply Picks.cons | apply Picks.skip)); done)
      | exact E_fin1 (.inr rfl) rfl rfl rfl (by (repeat (first | exact .nil | exact .refl _ | exact .h | apply Pick.t | apply Picks.cons | apply Picks.skip)); done)
      | exact E_fin2 (.inl rfl) rfl rfl rfl rfl (by (repeat (first | exact .nil | exact .refl _ | exact .h | apply Pick.t | apply Picks.cons | apply Picks.skip)); done)
      | exact E_fin2 (.inr rfl) rfl rfl rfl rfl (by (repeat (first | exact .nil | exact .refl _ | exact .h | apply Pick.t | apply Picks.cons | apply Picks.skip)); done)
      | exact E_fin3 (.inl rfl) rfl rfl rfl rfl rfl (by (repeat (first | exact .nil | exact .refl _ | exact .h | apply Pick.t | apply Picks.cons | apply Picks.skip)); done)
      | exact E_fin3 (.inr rfl) rfl rfl rfl rfl rfl (by (repeat (first | exact .nil | exact .refl _ | exact .h | apply Pick.t | apply Picks.cons | apply Picks.skip)); done)
      | exact E_fin0 (.inl rfl) rfl (by (repeat (first | exact .nil | exact .refl _ | exact .h | apply Pick.t | apply Picks.cons | apply Picks.skip)); done)
      | exact E_fin0 (.inr rfl) rfl (by (repeat (first | exact .nil | exact .refl _ | exact .h | apply Pick.t | apply Picks.cons | apply Picks.skip)); done) | fail)
    refine H_to (L' := slc 36 1 none 0 0 [] :: slc 36 1 none 0 0 [] :: F) ?_ fun _ hs => slc_nil hs
    exact X_fin1 (none, 0) (by trivial) (by first | exact .inl rfl | exact .inr rfl) (by rfl) (by rfl) (by rfl) (by (repeat (first | exact .nil | exact .refl _ | exact .h | apply Pick.t | apply Picks.cons | apply Picks.skip)); done)
  · subst e1
    repeat (first
      | refine H_seq ?_ | refine H_block ?_ | refine H_region ?_ | refine TL_nil ?_ | refine N_then ?_ | refine N_block ?_ | refine H_skip ?_ | refine H_ret ?_ | refine R_then ?_ | refine R_block ?_ | refine H_exit ?_
      | refine X_then ?_ | refine X_block_eq ?_ | refine X_block_ne rfl ?_ | refine H_cond_t rfl ?_ | refine H_cond_f rfl ?_
      | refine TL_y (by first | exact Y_move rfl | exact Y_assign rfl | exact Y_eqld rfl rfl (by first | exact decide_eq_true (by omega) | exact decide_eq_false (by omega)) | exact Y_eql rfl rfl | exact Y_eql_nil rfl rfl | exact Y_slice_eq_nil rfl rfl | exact Y_map_eq_nil rfl rfl | fail) rfl ?_
      | refine T_bs0 rfl fun b1 => ?_ | refine T_bs1 rfl rfl rfl fun b1 => ?_ | refine T_bsn rfl rfl rfl rfl rfl rfl fun b1 => ?_ | refine T_buildSlice0 rfl fun b1 => ?_
      | refine T_append rfl rfl .h (Rd_slc (.t .h)) (by simpa using hl) h1 (by omega) (by simp only [maxLen]; omega) rfl fun p' c' => ?_
      | exact E_fin1 (.inl rfl) rfl rfl rfl (by (repeat (first | exact .nil | exact .refl _ | exact .h | apply Pick.t | apply Picks.cons | apply Picks.skip)); done)
      | exact E_fin1 (.inr rfl) rfl rfl rfl (by (repeat (first | exact .nil | exact .refl _ | exact .h | apply Pick.t | apply Picks.cons | apply Picks.skip)); done)
      | exact E_fin2 (.inl rfl) rfl rfl rfl rfl (by (repeat (first | exact .nil | exact .refl _ | exact .h | apply Pick.t | apply Picks.cons | apply Picks.skip)); done)
      | exact E_fin2 (.inr rfl) rfl rfl rfl rfl (by (repeat (first | exact .nil | exact .refl _ | exact .h | apply Pick.t | apply Picks.cons | apply Picks.skip)); done)
      | exact E_fin3 (.inl rfl) rfl rfl rfl rfl rfl (by (repeat (first | exact .nil | exact .refl _ | exact .h | apply Pick.t | apply Picks.cons | apply Picks.skip)); done)
      | exact E_fin3 (.inr rfl) rfl rfl rfl rfl rfl (by (repeat (first | exact .nil | exact .refl _ | exact .h | apply Pick.t | apply Picks.cons | apply Picks.skip)); done)
      | exact E_fin0 (.inl rfl) rfl (by (repeat (first | exact .nil | exact .refl _ | exact .h | apply Pick.t | apply Picks.cons | apply Picks.skip)); done)
      | exact E_fin0 (.inr rfl) rfl (by (repeat (first | exact .nil | exact .refl _ | exact .h | apply Pick.t | apply Picks.cons | apply Picks.skip)); done) | fail)
    simp only [Nat.zero_add, List.nil_append]
    exact X_fin1 (p', c') (by trivial) (by first | exact .inl rfl | exact .inr rfl) (by rfl) (by rfl) (by rfl) (by (repeat (first | exact .nil | exact .refl _ | exact .h | apply Pick.t | apply Picks.cons | apply Picks.skip)); done)

theorem clone_int {a : Option Addr} {k c : Nat} {ys : List Value} (hk : k ≤ 1000000) :
    CtE Try.prog 73 [.slice a k c] [slc 3 1 a k c ys] (fun _ : Option Addr × Nat => True) (fun y => .slice y.1 k y.2) fun y F => slc 3 1 a k c ys :: slc 3 1 y.1 k y.2 ys :: F := by
  intro F; simp only [List.cons_append, List.nil_append]; refine Ct_of Try.func73 rfl (n := 8) rfl rfl ?_
  refine H_slclen .h fun hl hm _ h1 => ?_
  rw [Nat.mul_one] at hl
  refine H_slccase .h (fun e1 e2 e3 e4 => ?_) (fun b o e1 => ?_)
  · subst e1 e2 e3 e4
    repeat (first
      | refine H_seq ?_ | refine H_block ?_ | refine H_region ?_ | refine TL_nil ?_ | refine N_then ?_ | refine N_block ?_ | refine H_skip ?_ | refine H_ret ?_ | refine R_then ?_ | refine R_block ?_ | refine H_exit ?_
      | refine X_then ?_ | refine X_block_eq ?_ | refine X_block_ne rfl ?_ | refine H_cond_t rfl ?_ | refine H_cond_f rfl ?_
      | refine TL_y (by first | exact Y_move rfl | exact Y_assign rfl | exact Y_eqld rfl rfl (by first | exact decide_eq_true (by omega) | exact decide_eq_false (by omega)) | exact Y_eql rfl rfl | exact Y_eql_nil rfl rfl | exact Y_slice_eq_nil rfl rfl | exact Y_map_eq_nil rfl rfl | fail) rfl ?_
      | refine T_bs0 rfl fun b1 => ?_ | refine T_bs1 rfl rfl rfl fun b1 => ?_ | refine T_bsn rfl rfl rfl rfl rfl rfl fun b1 => ?_
      | exact E_fin1 (.inl rfl) rfl rfl rfl (by (repeat (first | exact .nil | exact .refl _ | exact .h | apply Pick.t | apply Picks.cons | apply Picks.skip)); done)
      | exact E_fin1 (.inr rfl) rfl rfl rfl (by (repeat (first | exact .nil | exact .refl _ | exact .h | apply Pick.t | apply Picks.cons | apply Picks.skip)); done)
      | exact E_fin2 (.inl rfl) rfl rfl rfl rfl (by (repeat (first | exact .nil | exact .refl _ | exact .h | apply Pick.t | apply Picks.cons | apply Picks.skip)); done)
      | exact E_fin2 (.inr rfl) rfl rfl rfl rfl (by (repeat (first | exact .nil | exact .refl _ | exact .h | apply Pick.t | apply Picks.cons | apply Picks.skip)); done)
      | exact E_fin3 (.inl rfl) rfl rfl rfl rfl rfl (by (repeat (first | exact .nil | exact .refl _ | exact .h | apply Pick.t | apply Picks.cons | apply Picks.skip)); done)
      | exact E_fin3 (.inr rfl) rfl rfl rfl rfl rfl (by (repeat (first | exact .nil | exact .refl _ | exact .h | apply Pick.t | apply Picks.cons | apply Picks.skip)); done)
      | exact E_fin0 (.inl rfl) rfl (by (repeat (first | exact .nil | exact .refl _ | exact .h | apply Pick.t | apply Picks.cons | apply Picks.skip)); done)
      | exact E_fin0 (.inr rfl) rfl (by (repeat (first | exact .nil | exact .refl _ | exact .h | apply Pick.t | apply Picks.cons | apply Picks.skip)); done) | fail)
    refine H_to (L' := slc 3 1 none 0 0 [] :: slc 3 1 none 0 0 [] :: F) ?_ fun _ hs => slc_nil hs
    exact X_fin1 (none, 0) (by trivial) (by first | exact .inl rfl | exact .inr rfl) (by rfl) (by rfl) (by rfl) (by (repeat (first | exact .nil | exact .refl _ | exact .h | apply Pick.t | apply Picks.cons | apply Picks.skip)); done)
  · subst e1
    repeat (first
      | refine H_seq ?_ | refine H_block ?_ | refine H_region ?_ | refine TL_nil ?_ | refine N_then ?_ | refine N_block ?_ | refine H_skip ?_ | refine H_ret ?_ | refine R_then ?_ | refine R_block ?_ | refine H_exit ?_
      | refine X_then ?_ | refine X_block_eq ?_ | refine X_block_ne rfl ?_ | refine H_cond_t rfl ?_ | refine H_cond_f rfl ?_
      | refine TL_y (by first | exact Y_move rfl | exact Y_assign rfl | exact Y_eqld rfl rfl (by first | exact decide_eq_true (by omega) | exact decide_eq_false (by omega)) | exact Y_eql rfl rfl | exact Y_eql_nil rfl rfl | exact Y_slice_eq_nil rfl rfl | exact Y_map_eq_nil rfl rfl | fail) rfl ?_
      | refine T_bs0 rfl fun b1 => ?_ | refine T_bs1 rfl rfl rfl fun b1 => ?_ | refine T_bsn rfl rfl rfl rfl rfl rfl fun b1 => ?_ | refine T_buildSlice0 rfl fun b1 => ?_
      | refine T_append rfl rfl .h (Rd_slc (.t .h)) (by simpa using hl) h1 (by omega) (by simp only [maxLen]; omega) rfl fun p' c' => ?_
      | exact E_fin1 (.inl rfl) rfl rfl rfl (by (repeat (first | exact .nil | exact .refl _ | exact .h | apply Pick.t | apply Picks.cons | apply Picks.skip)); done)
      | exact E_fin1 (.inr rfl) rfl rfl rfl (by (repeat (first | exact .nil | exact .refl _ | exact .h | apply Pick.t | apply Picks.cons | apply Picks.skip)); done)
      | exact E_fin2 (.inl rfl) rfl rfl rfl rfl (by (repeat (first | exact .nil | exact .refl _ | exact .h | apply Pick.t | apply Picks.cons | apply Picks.skip)); done)
      | exact E_fin2 (.inr rfl) rfl rfl rfl rfl (by (repeat (first | exact .nil | exact .refl _ | exact .h | apply Pick.t | apply Picks.cons | apply Picks.skip)); done)
      | exact E_fin3 (.inl rfl) rfl rfl rfl rfl rfl (by (repeat (first | exact .nil | exact .refl _ | exact .h | apply Pick.t | apply Picks.cons | apply Picks.skip)); done)
      | exact E_fin3 (.inr rfl) rfl rfl rfl rfl rfl (by (repeat (first | exact .nil | exact .refl _ | exact .h | apply Pick.t | apply Picks.cons | apply Picks.skip)); done)
      | exact E_fin0 (.inl rfl) rfl (by (repeat (first | exact .nil | exact .refl _ | exact .h | apply Pick.t | apply Picks.cons | apply Picks.skip)); done)
      | exact E_fin0 (.inr rfl) rfl (by (repeat (first | exact .nil | exact .refl _ | exact .h | apply Pick.t | apply Picks.cons | apply Picks.skip)); done) | fail)
    simp only [Nat.zero_add, List.nil_append]
    exact X_fin1 (p', c') (by trivial) (by first | exact .inl rfl | exact .inr rfl) (by rfl) (by rfl) (by rfl) (by (repeat (first | exact .nil | exact .refl _ | exact .h | apply Pick.t | apply Picks.cons | apply Picks.skip)); done)

/-- where x stands first -/
def idx (x : Int) : List Int → Nat
  | [] => 0
  | y :: l => if y = x then 0 else idx x l + 1
def idxOf (x : Int) (l : List Int) : Int := if x ∈ l then (idx x l : Int) else -1
theorem idx_here : ∀ {xs : List Int} {x : Int} {i : Nat}, xs[i]? = some x → x ∉ xs.take i → idx x xs = i
  | [], _, _, h, _ => by simp at h
  | y :: l, x, 0, h, _ => by simp at h; simp [idx, h]
  | y :: l, x, i + 1, h, hn => by
    simp only [List.take_succ_cons, List.mem_cons, not_or] at hn
    simp only [List.getElem?_cons_succ] at h
    simp only [idx, if_neg (Ne.symm hn.1), idx_here h hn.2]
theorem idxOf_here {xs : List Int} {x : Int} {i : Nat} (h : xs[i]? = some x) (hn : x ∉ xs.take i) : idxOf x xs = i := by
  simp only [idxOf, if_pos (List.mem_of_getElem? h), idx_here h hn]
theorem notin_succ {xs : List Int} {t x : Int} {i : Nat} (h : xs[i]? = some x) (hn : t ∉ xs.take i) (hx : ¬ t = x) : t ∉ xs.take (i + 1) := by
  rw [List.take_add_one, h]
  simp [hn, hx]

theorem index_64 {a : Option Addr} {c : Nat} {xs : List Int} {t : Int} (hk : xs.length ≤ 1000000) :
    CtA Try.prog 151 [.slice a xs.length c, u64v t] [slc 36 1 a xs.length c (xs.map u64v)] (i64v (idxOf t xs)) fun F => slc 36 1 a xs.length c (xs.map u64v) :: F := by
  intro F; simp only [List.cons_append, List.nil_append]; refine Ct_of Try.func151 rfl (n := 19) rfl rfl ?_
  repeat (first
    | refine H_seq ?_ | refine H_block ?_ | refine H_region ?_ | refine TL_nil ?_ | refine N_then ?_ | refine N_block ?_ | refine H_skip ?_ | refine H_ret ?_ | refine R_then ?_ | refine R_block ?_ | refine H_exit ?_
    | refine X_then ?_ | refine X_block_eq ?_ | refine X_block_ne rfl ?_ | refine H_cond_t rfl ?_ | refine H_cond_f rfl ?_
    | refine TL_y (by first | exact Y_move rfl | exact Y_assign rfl | exact Y_load rfl (Vl_cl (by (repeat (first | exact .h | apply Pick.t)); done) rfl) | exact Y_load rfl (by assumption) | exact Y_indexAddr rfl rfl (by omega) (by first | omega | (simp only [List.length_cons]; omega)) | exact Y_load rfl (Vl_elem (by (repeat (first | exact .h | apply Pick.t)); done) (by assumption)) | exact Y_loadAt rfl (by (repeat (first | exact .h | apply Pick.t)); done) (by rfl) | exact Y_lssd rfl rfl (by first | exact decide_eq_true (by omega) | exact decide_eq_false (by omega)) | exact Y_lss rfl rfl | exact Y_eqld rfl rfl (by first | exact decide_eq_true (by omega) | exact decide_eq_false (by omega)) | exact Y_eql rfl rfl | exact Y_eql_nil rfl rfl | exact Y_slice_eq_nil rfl rfl | exact Y_map_eq_nil rfl rfl | exact Y_add' rfl rfl (w64 (by omega) (by omega)) | exact Y_add' rfl rfl (wu64 (by omega) (by omega)) | exact Y_len_slice rfl | fail) rfl ?_
    | refine H_loopk [0, 1, 7] (fun i : Nat => [(8, i64v i)]) (fun _ => slc 36 1 a xs.length c (xs.map u64v) :: F) (fun i => i ≤ xs.length ∧ t ∉ xs.take i) (fun i => xs.length - i) 0 ?_ ?_ ?_ ?_
    | exact E_fin1 (.inl rfl) rfl rfl rfl (by (repeat (first | exact .nil | exact .refl _ | exact .h | apply Pick.t | apply Picks.cons | apply Picks.skip)); done)
    | exact E_fin1 (.inr rfl) rfl rfl rfl (by (repeat (first | exact .nil | exact .refl _ | exact .h | apply Pick.t | apply Picks.cons | apply Picks.skip)); done)
    | exact E_fin2 (.inl rfl) rfl rfl rfl rfl (by (repeat (first | exact .nil | exact .refl _ | exact .h | apply Pick.t | apply Picks.cons | apply Picks.skip)); done)
    | exact E_fin2 (.inr rfl) rfl rfl rfl rfl (by (repeat (first | exact .nil | exact .refl _ | exact .h | apply Pick.t | apply Picks.cons | apply Picks.skip)); done)
    | exact E_fin3 (.inl rfl) rfl rfl rfl rfl rfl (by (repeat (first | exact .nil | exact .refl _ | exact .h | apply Pick.t | apply Picks.cons | apply Picks.skip)); done)
    | exact E_fin3 (.inr rfl) rfl rfl rfl rfl rfl (by (repeat (first | exact .nil | exact .refl _ | exact .h | apply Pick.t | apply Picks.cons | apply Picks.skip)); done)
    | exact E_fin0 (.inl rfl) rfl (by (repeat (first | exact .nil | exact .refl _ | exact .h | apply Pick.t | apply Picks.cons | apply Picks.skip)); done)
    | exact E_fin0 (.inr rfl) rfl (by (repeat (first | exact .nil | exact .refl _ | exact .h | apply Pick.t | apply Picks.cons | apply Picks.skip)); done) | fail)
  · exact ⟨Nat.zero_le _, by simp⟩
  · exact ⟨rfl, trivial⟩
  · exact fun _ h => h
  · rintro i ⟨hi, ht⟩
    by_cases hlt : i < xs.length
    · obtain ⟨x, hx⟩ := getSome hlt
      refine H_slccase .h (fun _ e => by omega) fun b o e => ?_
      subst e
      by_cases hxt : t = x
      · subst hxt
        have e1 := idxOf_here hx ht
        repeat (first
          | refine H_seq ?_ | refine H_block ?_ | refine H_region ?_ | refine TL_nil ?_ | refine N_then ?_ | refine N_block ?_ | refine H_skip ?_ | refine H_ret ?_ | refine R_then ?_ | refine R_block ?_
          | refine H_exit ?_ | refine X_then ?_ | refine X_block_eq ?_ | refine X_block_ne rfl ?_ | refine H_cond_t rfl ?_ | refine H_cond_f rfl ?_
          | refine TL_y (by first | exact Y_move rfl | exact Y_assign rfl | exact Y_load rfl (Vl_cl (by (repeat (first | exact .h | apply Pick.t)); done) rfl) | exact Y_load rfl (by assumption) | exact Y_indexAddr rfl rfl (by omega) (by first | omega | (simp only [List.length_cons]; omega)) | exact Y_load rfl (Vl_elem (by (repeat (first | exact .h | apply Pick.t)); done) (by assumption)) | exact Y_loadAt rfl (by (repeat (first | exact .h | apply Pick.t)); done) (by rfl) | exact Y_lssd rfl rfl (by first | exact decide_eq_true (by omega) | exact decide_eq_false (by omega)) | exact Y_lss rfl rfl | exact Y_eqld rfl rfl (by first | exact decide_eq_true (by omega) | exact decide_eq_false (by omega)) | exact Y_eql rfl rfl | exact Y_eql_nil rfl rfl | exact Y_slice_eq_nil rfl rfl | exact Y_map_eq_nil rfl rfl | exact Y_add' rfl rfl (w64 (by omega) (by omega)) | exact Y_add' rfl rfl (wu64 (by omega) (by omega)) | exact Y_len_slice rfl | fail) rfl ?_
          | exact E_fin1 (.inl rfl) rfl rfl rfl (by (repeat (first | exact .nil | exact .refl _ | exact .h | apply Pick.t | apply Picks.cons | apply Picks.skip)); done)
          | exact E_fin1 (.inr rfl) rfl rfl rfl (by (repeat (first | exact .nil | exact .refl _ | exact .h | apply Pick.t | apply Picks.cons | apply Picks.skip)); done)
          | exact E_fin2 (.inl rfl) rfl rfl rfl rfl (by (repeat (first | exact .nil | exact .refl _ | exact .h | apply Pick.t | apply Picks.cons | apply Picks.skip)); done)
          | exact E_fin2 (.inr rfl) rfl rfl rfl rfl (by (repeat (first | exact .nil | exact .refl _ | exact .h | apply Pick.t | apply Picks.cons | apply Picks.skip)); done)
          | exact E_fin3 (.inl rfl) rfl rfl rfl rfl rfl (by (repeat (first | exact .nil | exact .refl _ | exact .h | apply Pick.t | apply Picks.cons | apply Picks.skip)); done)
          | exact E_fin3 (.inr rfl) rfl rfl rfl rfl rfl (by (repeat (first | exact .nil | exact .refl _ | exact .h | apply Pick.t | apply Picks.cons | apply Picks.skip)); done)
          | exact E_fin0 (.inl rfl) rfl (by (repeat (first | exact .nil | exact .refl _ | exact .h | apply Pick.t | apply Picks.cons | apply Picks.skip)); done)
          | exact E_fin0 (.inr rfl) rfl (by (repeat (first | exact .nil | exact .refl _ | exact .h | apply Pick.t | apply Picks.cons | apply Picks.skip)); done) | fail)
        exact E_fin1 (.inl rfl) rfl rfl (by rw [e1]) (by (repeat (first | exact .nil | exact .refl _ | exact .h | apply Pick.t | apply Picks.cons)); done)
      · repeat (first
          | refine H_seq ?_ | refine H_block ?_ | refine H_region ?_ | refine TL_nil ?_ | refine N_then ?_ | refine N_block ?_ | refine H_skip ?_ | refine H_ret ?_ | refine R_then ?_ | refine R_block ?_
          | refine H_exit ?_ | refine X_then ?_ | refine X_block_eq ?_ | refine X_block_ne rfl ?_ | refine H_cond_t rfl ?_ | refine H_cond_f rfl ?_
          | refine TL_y (by first | exact Y_move rfl | exact Y_assign rfl | exact Y_load rfl (Vl_cl (by (repeat (first | exact .h | apply Pick.t)); done) rfl) | exact Y_load rfl (by assumption) | exact Y_indexAddr rfl rfl (by omega) (by first | omega | (simp only [List.length_cons]; omega)) | exact Y_load rfl (Vl_elem (by (repeat (first | exact .h | apply Pick.t)); done) (by assumption)) | exact Y_loadAt rfl (by (repeat (first | exact .h | apply Pick.t)); done) (by rfl) | exact Y_lssd rfl rfl (by first | exact decide_eq_true (by omega) | exact decide_eq_false (by omega)) | exact Y_lss rfl rfl | exact Y_eqld rfl rfl (by first | exact decide_eq_true (by omega) | exact decide_eq_false (by omega)) | exact Y_eql rfl rfl | exact Y_eql_nil rfl rfl | exact Y_slice_eq_nil rfl rfl | exact Y_map_eq_nil rfl rfl | exact Y_add' rfl rfl (w64 (by omega) (by omega)) | exact Y_add' rfl rfl (wu64 (by omega) (by omega)) | exact Y_len_slice rfl | fail) rfl ?_
          | exact E_fin1 (.inl rfl) rfl rfl rfl (by (repeat (first | exact .nil | exact .refl _ | exact .h | apply Pick.t | apply Picks.cons | apply Picks.skip)); done)
          | exact E_fin1 (.inr rfl) rfl rfl rfl (by (repeat (first | exact .nil | exact .refl _ | exact .h | apply Pick.t | apply Picks.cons | apply Picks.skip)); done)
          | exact E_fin2 (.inl rfl) rfl rfl rfl rfl (by (repeat (first | exact .nil | exact .refl _ | exact .h | apply Pick.t | apply Picks.cons | apply Picks.skip)); done)
          | exact E_fin2 (.inr rfl) rfl rfl rfl rfl (by (repeat (first | exact .nil | exact .refl _ | exact .h | apply Pick.t | apply Picks.cons | apply Picks.skip)); done)
          | exact E_fin3 (.inl rfl) rfl rfl rfl rfl rfl (by (repeat (first | exact .nil | exact .refl _ | exact .h | apply Pick.t | apply Picks.cons | apply Picks.skip)); done)
          | exact E_fin3 (.inr rfl) rfl rfl rfl rfl rfl (by (repeat (first | exact .nil | exact .refl _ | exact .h | apply Pick.t | apply Picks.cons | apply Picks.skip)); done)
          | exact E_fin0 (.inl rfl) rfl (by (repeat (first | exact .nil | exact .refl _ | exact .h | apply Pick.t | apply Picks.cons | apply Picks.skip)); done)
          | exact E_fin0 (.inr rfl) rfl (by (repeat (first | exact .nil | exact .refl _ | exact .h | apply Pick.t | apply Picks.cons | apply Picks.skip)); done) | fail)
        exact N_rk (i + 1) ⟨hlt, notin_succ hx ht hxt⟩ (by omega) ⟨rfl, trivial⟩ ⟨rfl, rfl, rfl, trivial⟩ fun _ h => h
    · have e1 : idxOf t xs = -1 := by rw [List.take_of_length_le (by omega)] at ht; simp [idxOf, ht]
      repeat (first
        | refine H_seq ?_ | refine H_block ?_ | refine H_region ?_ | refine TL_nil ?_ | refine N_then ?_ | refine N_block ?_ | refine H_skip ?_ | refine H_ret ?_ | refine R_then ?_ | refine R_block ?_ | refine H_exit ?_
        | refine X_then ?_ | refine X_block_eq ?_ | refine X_block_ne rfl ?_ | refine H_cond_t rfl ?_ | refine H_cond_f rfl ?_
        | refine TL_y (by first | exact Y_move rfl | exact Y_assign rfl | exact Y_load rfl (Vl_cl (by (repeat (first | exact .h | apply Pick.t)); done) rfl) | exact Y_load rfl (by assumption) | exact Y_indexAddr rfl rfl (by omega) (by first | omega | (simp only [List.length_cons]; omega)) | exact Y_load rfl (Vl_elem (by (repeat (first | exact .h | apply Pick.t)); done) (by assumption)) | exact Y_loadAt rfl (by (repeat (first | exact .h | apply Pick.t)); done) (by rfl) | exact Y_lssd rfl rfl (by first | exact decide_eq_true (by omega) | exact decide_eq_false (by omega)) | exact Y_lss rfl rfl | exact Y_eqld rfl rfl (by first | exact decide_eq_true (by omega) | exact decide_eq_false (by omega)) | exact Y_eql rfl rfl | exact Y_eql_nil rfl rfl | exact Y_slice_eq_nil rfl rfl | exact Y_map_eq_nil rfl rfl | exact Y_add' rfl rfl (w64 (by omega) (by omega)) | exact Y_add' rfl rfl (wu64 (by omega) (by omega)) | exact Y_len_slice rfl | fail) rfl ?_
        | exact E_fin1 (.inl rfl) rfl rfl rfl (by (repeat (first | exact .nil | exact .refl _ | exact .h | apply Pick.t | apply Picks.cons | apply Picks.skip)); done)
        | exact E_fin1 (.inr rfl) rfl rfl rfl (by (repeat (first | exact .nil | exact .refl _ | exact .h | apply Pick.t | apply Picks.cons | apply Picks.skip)); done)
        | exact E_fin2 (.inl rfl) rfl rfl rfl rfl (by (repeat (first | exact .nil | exact .refl _ | exact .h | apply Pick.t | apply Picks.cons | apply Picks.skip)); done)
        | exact E_fin2 (.inr rfl) rfl rfl rfl rfl (by (repeat (first | exact .nil | exact .refl _ | exact .h | apply Pick.t | apply Picks.cons | apply Picks.skip)); done)
        | exact E_fin3 (.inl rfl) rfl rfl rfl rfl rfl (by (repeat (first | exact .nil | exact .refl _ | exact .h | apply Pick.t | apply Picks.cons | apply Picks.skip)); done)
        | exact E_fin3 (.inr rfl) rfl rfl rfl rfl rfl (by (repeat (first | exact .nil | exact .refl _ | exact .h | apply Pick.t | apply Picks.cons | apply Picks.skip)); done)
        | exact E_fin0 (.inl rfl) rfl (by (repeat (first | exact .nil | exact .refl _ | exact .h | apply Pick.t | apply Picks.cons | apply Picks.skip)); done)
        | exact E_fin0 (.inr rfl) rfl (by (repeat (first | exact .nil | exact .refl _ | exact .h | apply Pick.t | apply Picks.cons | apply Picks.skip)); done) | fail)
      exact E_fin1 (.inl rfl) rfl rfl (by rw [e1]) (by (repeat (first | exact .nil | exact .refl _ | exact .h | apply Pick.t | apply Picks.cons)); done)
theorem contains_64 {a : Option Addr} {c : Nat} {xs : List Int} {t : Int} (hk : xs.length ≤ 1000000) :
    CtA Try.prog 128 [.slice a xs.length c, u64v t] [slc 36 1 a xs.length c (xs.map u64v)] (.bool (decide (t ∈ xs))) fun F => slc 36 1 a xs.length c (xs.map u64v) :: F := by
  intro F; simp only [List.cons_append, List.nil_append]; refine Ct_of Try.func128 rfl (n := 9) rfl rfl ?_
  by_cases h : t ∈ xs
  · have e1 : 0 ≤ idxOf t xs := by simp [idxOf, h]
    rw [decide_eq_true h]
    repeat (first
      | refine H_seq ?_ | refine H_block ?_ | refine H_region ?_ | refine TL_nil ?_ | refine N_then ?_ | refine N_block ?_ | refine H_skip ?_ | refine H_ret ?_ | refine R_then ?_ | refine R_block ?_ | refine H_exit ?_
      | refine X_then ?_ | refine X_block_eq ?_ | refine X_block_ne rfl ?_ | refine H_cond_t rfl ?_ | refine H_cond_f rfl ?_
      | refine TL_y (by first | exact Y_move rfl | exact Y_assign rfl | exact Y_geqd rfl rfl (by first | exact decide_eq_true (by omega) | exact decide_eq_false (by omega)) | exact Y_geq rfl rfl | fail) rfl ?_
      | refine T_callA rfl rfl (by (repeat (first | exact .nil | exact .refl _ | exact .h | apply Pick.t | apply Picks.cons)); done) (index_64 hk) ?_
      | exact E_fin1 (.inl rfl) rfl rfl rfl (by (repeat (first | exact .nil | exact .refl _ | exact .h | apply Pick.t | apply Picks.cons | apply Picks.skip)); done)
      | exact E_fin1 (.inr rfl) rfl rfl rfl (by (repeat (first | exact .nil | exact .refl _ | exact .h | apply Pick.t | apply Picks.cons | apply Picks.skip)); done)
      | exact E_fin2 (.inl rfl) rfl rfl rfl rfl (by (repeat (first | exact .nil | exact .refl _ | exact .h | apply Pick.t | apply Picks.cons | apply Picks.skip)); done)
      | exact E_fin2 (.inr rfl) rfl rfl rfl rfl (by (repeat (first | exact .nil | exact .refl _ | exact .h | apply Pick.t | apply Picks.cons | apply Picks.skip)); done)
      | exact E_fin3 (.inl rfl) rfl rfl rfl rfl rfl (by (repeat (first | exact .nil | exact .refl _ | exact .h | apply Pick.t | apply Picks.cons | apply Picks.skip)); done)
      | exact E_fin3 (.inr rfl) rfl rfl rfl rfl rfl (by (repeat (first | exact .nil | exact .refl _ | exact .h | apply Pick.t | apply Picks.cons | apply Picks.skip)); done)
      | exact E_fin0 (.inl rfl) rfl (by (repeat (first | exact .nil | exact .refl _ | exact .h | apply Pick.t | apply Picks.cons | apply Picks.skip)); done)
      | exact E_fin0 (.inr rfl) rfl (by (repeat (first | exact .nil | exact .refl _ | exact .h | apply Pick.t | apply Picks.cons | apply Picks.skip)); done) | fail)
  · have e1 : idxOf t xs < 0 := by simp [idxOf, h]
    rw [decide_eq_false h]
    repeat (first
      | refine H_seq ?_ | refine H_block ?_ | refine H_region ?_ | refine TL_nil ?_ | refine N_then ?_ | refine N_block ?_ | refine H_skip ?_ | refine H_ret ?_ | refine R_then ?_ | refine R_block ?_ | refine H_exit ?_
      | refine X_then ?_ | refine X_block_eq ?_ | refine X_block_ne rfl ?_ | refine H_cond_t rfl ?_ | refine H_cond_f rfl ?_
      | refine TL_y (by first | exact Y_move rfl | exact Y_assign rfl | exact Y_geqd rfl rfl (by first | exact decide_eq_true (by omega) | exact decide_eq_false (by omega)) | exact Y_geq rfl rfl | fail) rfl ?_
      | refine T_callA rfl rfl (by (repeat (first | exact .nil | exact .refl _ | exact .h | apply Pick.t | apply Picks.cons)); done) (index_64 hk) ?_
      | exact E_fin1 (.inl rfl) rfl rfl rfl (by (repeat (first | exact .nil | exact .refl _ | exact .h | apply Pick.t | apply Picks.cons | apply Picks.skip)); done)
      | exact E_fin1 (.inr rfl) rfl rfl rfl (by (repeat (first | exact .nil | exact .refl _ | exact .h | apply Pick.t | apply Picks.cons | apply Picks.skip)); done)
      | exact E_fin2 (.inl rfl) rfl rfl rfl rfl (by (repeat (first | exact .nil | exact .refl _ | exact .h | apply Pick.t | apply Picks.cons | apply Picks.skip)); done)
      | exact E_fin2 (.inr rfl) rfl rfl rfl rfl (by (repeat (first | exact .nil | exact .refl _ | exact .h | apply Pick.t | apply Picks.cons | apply Picks.skip)); done)
      | exact E_fin3 (.inl rfl) rfl rfl rfl rfl rfl (by (repeat (first | exact .nil | exact .refl _ | exact .h | apply Pick.t | apply Picks.cons | apply Picks.skip)); done)
      | exact E_fin3 (.inr rfl) rfl rfl rfl rfl rfl (by (repeat (first | exact .nil | exact .refl _ | exact .h | apply Pick.t | apply Picks.cons | apply Picks.skip)); done)
      | exact E_fin0 (.inl rfl) rfl (by (repeat (first | exact .nil | exact .refl _ | exact .h | apply Pick.t | apply Picks.cons | apply Picks.skip)); done)
      | exact E_fin0 (.inr rfl) rfl (by (repeat (first | exact .nil | exact .refl _ | exact .h | apply Pick.t | apply Picks.cons | apply Picks.skip)); done) | fail)

theorem index_int {a : Option Addr} {c : Nat} {xs : List Int} {t : Int} (hk : xs.length ≤ 1000000) :
    CtA Try.prog 156 [.slice a xs.length c, i64v t] [slc 3 1 a xs.length c (xs.map i64v)] (i64v (idxOf t xs)) fun F => slc 3 1 a xs.length c (xs.map i64v) :: F := by
  intro F; simp only [List.cons_append, List.nil_append]; refine Ct_of Try.func156 rfl (n := 19) rfl rfl ?_
  repeat (first
    | refine H_seq ?_ | refine H_block ?_ | refine H_region ?_ | refine TL_nil ?_ | refine N_then ?_ | refine N_block ?_ | refine H_skip ?_ | refine H_ret ?_ | refine R_then ?_ | refine R_block ?_ | refine H_exit ?_
    | refine X_then ?_ | refine X_block_eq ?_ | refine X_block_ne rfl ?_ | refine H_cond_t rfl ?_ | refine H_cond_f rfl ?_
    | refine TL_y (by first | exact Y_move rfl | exact Y_assign rfl | exact Y_load rfl (Vl_cl (by (repeat (first | exact .h | apply Pick.t)); done) rfl) | exact Y_load rfl (by assumption) | exact Y_indexAddr rfl rfl (by omega) (by first | omega | (simp only [List.length_cons]; omega)) | exact Y_load rfl (Vl_elem (by (repeat (first | exact .h | apply Pick.t)); done) (by assumption)) | exact Y_loadAt rfl (by (repeat (first | exact .h | apply Pick.t)); done) (by rfl) | exact Y_lssd rfl rfl (by first | exact decide_eq_true (by omega) | exact decide_eq_false (by omega)) | exact Y_lss rfl rfl | exact Y_eqld rfl rfl (by first | exact decide_eq_true (by omega) | exact decide_eq_false (by omega)) | exact Y_eql rfl rfl | exact Y_eql_nil rfl rfl | exact Y_slice_eq_nil rfl rfl | exact Y_map_eq_nil rfl rfl | exact Y_add' rfl rfl (w64 (by omega) (by omega)) | exact Y_add' rfl rfl (wu64 (by omega) (by omega)) | exact Y_len_slice rfl | fail) rfl ?_
    | refine H_loopk [0, 1, 7] (fun i : Nat => [(8, i64v i)]) (fun _ => slc 3 1 a xs.length c (xs.map i64v) :: F) (fun i => i ≤ xs.length ∧ t ∉ xs.take i) (fun i => xs.length - i) 0 ?_ ?_ ?_ ?_
    | exact E_fin1 (.inl rfl) rfl rfl rfl (by (repeat (first | exact .nil | exact .refl _ | exact .h | apply Pick.t | apply Picks.cons | apply Picks.skip)); done)
    | exact E_fin1 (.inr rfl) rfl rfl rfl (by (repeat (first | exact .nil | exact .refl _ | exact .h | apply Pick.t | apply Picks.cons | apply Picks.skip)); done)
    | exact E_fin2 (.inl rfl) rfl rfl rfl rfl (by (repeat (first | exact .nil | exact .refl _ | exact .h | apply Pick.t | apply Picks.cons | apply Picks.skip)); done)
    | exact E_fin2 (.inr rfl) rfl rfl rfl rfl (by (repeat (first | exact .nil | exact .refl _ | exact .h | apply Pick.t | apply Picks.cons | apply Picks.skip)); done)
    | exact E_fin3 (.inl rfl) rfl rfl rfl rfl rfl (by (repeat (first | exact .nil | exact .refl _ | exact .h | apply Pick.t | apply Picks.cons | apply Picks.skip)); done)
    | exact E_fin3 (.inr rfl) rfl rfl rfl rfl rfl (by (repeat (first | exact .nil | exact .refl _ | exact .h | apply Pick.t | apply Picks.cons | apply Picks.skip)); done)
    | exact E_fin0 (.inl rfl) rfl (by (repeat (first | exact .nil | exact .refl _ | exact .h | apply Pick.t | apply Picks.cons | apply Picks.skip)); done)
    | exact E_fin0 (.inr rfl) rfl (by (repeat (first | exact .nil | exact .refl _ | exact .h | apply Pick.t | apply Picks.cons | apply Picks.skip)); done) | fail)
  · exact ⟨Nat.zero_le _, by simp⟩
  · exact ⟨rfl, trivial⟩
  · exact fun _ h => h
  · rintro i ⟨hi, ht⟩
    by_cases hlt : i < xs.length
    · obtain ⟨x, hx⟩ := getSome hlt
      refine H_slccase .h (fun _ e => by omega) fun b o e => ?_
      subst e
      by_cases hxt : t = x
      · subst hxt
        have e1 := idxOf_here hx ht
        repeat (first
          | refine H_seq ?_ | refine H_block ?_ | refine H_region ?_ | refine TL_nil ?_ | refine N_then ?_ | refine N_block ?_ | refine H_skip ?_ | refine H_ret ?_ | refine R_then ?_ | refine R_block ?_
          | refine H_exit ?_ | refine X_then ?_ | refine X_block_eq ?_ | refine X_block_ne rfl ?_ | refine H_cond_t rfl ?_ | refine H_cond_f rfl ?_
          | refine TL_y (by first | exact Y_move rfl | exact Y_assign rfl | exact Y_load rfl (Vl_cl (by (repeat (first | exact .h | apply Pick.t)); done) rfl) | exact Y_load rfl (by assumption) | exact Y_indexAddr rfl rfl (by omega) (by first | omega | (simp only [List.length_cons]; omega)) | exact Y_load rfl (Vl_elem (by (repeat (first | exact .h | apply Pick.t)); done) (by assumption)) | exact Y_loadAt rfl (by (repeat (first | exact .h | apply Pick.t)); done) (by rfl) | exact Y_lssd rfl rfl (by first | exact decide_eq_true (by omega) | exact decide_eq_false (by omega)) | exact Y_lss rfl rfl | exact Y_eqld rfl rfl (by first | exact decide_eq_true (by omega) | exact decide_eq_false (by omega)) | exact Y_eql rfl rfl | exact Y_eql_nil rfl rfl | exact Y_slice_eq_nil rfl rfl | exact Y_map_eq_nil rfl rfl | exact Y_add' rfl rfl (w64 (by omega) (by omega)) | exact Y_add' rfl rfl (wu64 (by omega) (by omega)) | exact Y_len_slice rfl | fail) rfl ?_
          | exact E_fin1 (.inl rfl) rfl rfl rfl (by (repeat (first | exact .nil | exact .refl _ | exact .h | apply Pick.t | apply Picks.cons | apply Picks.skip)); done)
          | exact E_fin1 (.inr rfl) rfl rfl rfl (by (repeat (first | exact .nil | exact .refl _ | exact .h | apply Pick.t | apply Picks.cons | apply Picks.skip)); done)
          | exact E_fin2 (.inl rfl) rfl rfl rfl rfl (by (repeat (first | exact .nil | exact .refl _ | exact .h | apply Pick.t | apply Picks.cons | apply Picks.skip)); done)
          | exact E_fin2 (.inr rfl) rfl rfl rfl rfl (by (repeat (first | exact .nil | exact .refl _ | exact .h | apply Pick.t | apply Picks.cons | apply Picks.skip)); done)
          | exact E_fin3 (.inl rfl) rfl rfl rfl rfl rfl (by (repeat (first | exact .nil | exact .refl _ | exact .h | apply Pick.t | apply Picks.cons | apply Picks.skip)); done)
          | exact E_fin3 (.inr rfl) rfl rfl rfl rfl rfl (by (repeat (first | exact .nil | exact .refl _ | exact .h | apply Pick.t | apply Picks.cons | apply Picks.skip)); done)
          | exact E_fin0 (.inl rfl) rfl (by (repeat (first | exact .nil | exact .refl _ | exact .h | apply Pick.t | apply Picks.cons | apply Picks.skip)); done)
          | exact E_fin0 (.inr rfl) rfl (by (repeat (first | exact .nil | exact .refl _ | exact .h | apply Pick.t | apply Picks.cons | apply Picks.skip)); done) | fail)
        exact E_fin1 (.inl rfl) rfl rfl (by rw [e1]) (by (repeat (first | exact .nil | exact .refl _ | exact .h | apply Pick.t | apply Picks.cons)); done)
      · repeat (first
          | refine H_seq ?_ | refine H_block ?_ | refine H_region ?_ | refine TL_nil ?_ | refine N_then ?_ | refine N_block ?_ | refine H_skip ?_ | refine H_ret ?_ | refine R_then ?_ | refine R_block ?_
          | refine H_exit ?_ | refine X_then ?_ | refine X_block_eq ?_ | refine X_block_ne rfl ?_ | refine H_cond_t rfl ?_ | refine H_cond_f rfl ?_
          | refine TL_y (by first | exact Y_move rfl | exact Y_assign rfl | exact Y_load rfl (Vl_cl (by (repeat (first | exact .h | apply Pick.t)); done) rfl) | exact Y_load rfl (by assumption) | exact Y_indexAddr rfl rfl (by omega) (by first | omega | (simp only [List.length_cons]; omega)) | exact Y_load rfl (Vl_elem (by (repeat (first | exact .h | apply Pick.t)); done) (by assumption)) | exact Y_loadAt rfl (by (repeat (first | exact .h | apply Pick.t)); done) (by rfl) | exact Y_lssd rfl rfl (by first | exact decide_eq_true (by omega) | exact decide_eq_false (by omega)) | exact Y_lss rfl rfl | exact Y_eqld rfl rfl (by first | exact decide_eq_true (by omega) | exact decide_eq_false (by omega)) | exact Y_eql rfl rfl | exact Y_eql_nil rfl rfl | exact Y_slice_eq_nil rfl rfl | exact Y_map_eq_nil rfl rfl | exact Y_add' rfl rfl (w64 (by omega) (by omega)) | exact Y_add' rfl rfl (wu64 (by omega) (by omega)) | exact Y_len_slice rfl | fail) rfl ?_
          | exact E_fin1 (.inl rfl) rfl rfl rfl (by (repeat (first | exact .nil | exact .refl _ | exact .h | apply Pick.t | apply Picks.cons | apply Picks.skip)); done)
          | exact E_fin1 (.inr rfl) rfl rfl rfl (by (repeat (first | exact .nil | exact .refl _ | exact .h | apply Pick.t | apply Picks.cons | apply Picks.skip)); done)
          | exact E_fin2 (.inl rfl) rfl rfl rfl rfl (by (repeat (first | exact .nil | exact .refl _ | exact .h | apply Pick.t | apply Picks.cons | apply Picks.skip)); done)
          | exact E_fin2 (.inr rfl) rfl rfl rfl rfl (by (repeat (first | exact .nil | exact .refl _ | exact .h | apply Pick.t | apply Picks.cons | apply Picks.skip)); done)
          | exact E_fin3 (.inl rfl) rfl rfl rfl rfl rfl (by (repeat (first | exact .nil | exact .refl _ | exact .h | apply Pick.t | apply Picks.cons | apply Picks.skip)); done)
          | exact E_fin3 (.inr rfl) rfl rfl rfl rfl rfl (by (repeat (first | exact .nil | exact .refl _ | exact .h | apply Pick.t | apply Picks.cons | apply Picks.skip)); done)
          | exact E_fin0 (.inl rfl) rfl (by (repeat (first | exact .nil | exact .refl _ | exact .h | apply Pick.t | apply Picks.cons | apply Picks.skip)); done)
          | exact E_fin0 (.inr rfl) rfl (by (repeat (first | exact .nil | exact .refl _ | exact .h | apply Pick.t | apply Picks.cons | apply Picks.skip)); done) | fail)
        exact N_rk (i + 1) ⟨hlt, notin_succ hx ht hxt⟩ (by omega) ⟨rfl, trivial⟩ ⟨rfl, rfl, rfl, trivial⟩ fun _ h => h
    · have e1 : idxOf t xs = -1 := by rw [List.take_of_length_le (by omega)] at ht; simp [idxOf, ht]
      repeat (first
        | refine H_seq ?_ | refine H_block ?_ | refine H_region ?_ | refine TL_nil ?_ | refine N_then ?_ | refine N_block ?_ | refine H_skip ?_ | refine H_ret ?_ | refine R_then ?_ | refine R_block ?_ | refine H_exit ?_
        | refine X_then ?_ | refine X_block_eq ?_ | refine X_block_ne rfl ?_ | refine H_cond_t rfl ?_ | refine H_cond_f rfl ?_
        | refine TL_y (by first | exact Y_move rfl | exact Y_assign rfl | exact Y_load rfl (Vl_cl (by (repeat (first | exact .h | apply Pick.t)); done) rfl) | exact Y_load rfl (by assumption) | exact Y_indexAddr rfl rfl (by omega) (by first | omega | (simp only [List.length_cons]; omega)) | exact Y_load rfl (Vl_elem (by (repeat (first | exact .h | apply Pick.t)); done) (by assumption)) | exact Y_loadAt rfl (by (repeat (first | exact .h | apply Pick.t)); done) (by rfl) | exact Y_lssd rfl rfl (by first | exact decide_eq_true (by omega) | exact decide_eq_false (by omega)) | exact Y_lss rfl rfl | exact Y_eqld rfl rfl (by first | exact decide_eq_true (by omega) | exact decide_eq_false (by omega)) | exact Y_eql rfl rfl | exact Y_eql_nil rfl rfl | exact Y_slice_eq_nil rfl rfl | exact Y_map_eq_nil rfl rfl | exact Y_add' rfl rfl (w64 (by omega) (by omega)) | exact Y_add' rfl rfl (wu64 (by omega) (by omega)) | exact Y_len_slice rfl | fail) rfl ?_
        | exact E_fin1 (.inl rfl) rfl rfl rfl (by (repeat (first | exact .nil | exact .refl _ | exact .h | apply Pick.t | apply Picks.cons | apply Picks.skip)); done)
        | exact E_fin1 (.inr rfl) rfl rfl rfl (by (repeat (first | exact .nil | exact .refl _ | exact .h | apply Pick.t | apply Picks.cons | apply Picks.skip)); done)
        | exact E_fin2 (.inl rfl) rfl rfl rfl rfl (by (repeat (first | exact .nil | exact .refl _ | exact .h | apply Pick.t | apply Picks.cons | apply Picks.skip)); done)
        | exact E_fin2 (.inr rfl) rfl rfl rfl rfl (by (repeat (first | exact .nil | exact .refl _ | exact .h | apply Pick.t | apply Picks.cons | apply Picks.skip)); done)
        | exact E_fin3 (.inl rfl) rfl rfl rfl rfl rfl (by (repeat (first | exact .nil | exact .refl _ | exact .h | apply Pick.t | apply Picks.cons | apply Picks.skip)); done)
        | exact E_fin3 (.inr rfl) rfl rfl rfl rfl rfl (by (repeat (first | exact .nil | exact .refl _ | exact .h | apply Pick.t | apply Picks.cons | apply Picks.skip)); done)
        | exact E_fin0 (.inl rfl) rfl (by (repeat (first | exact .nil | exact .refl _ | exact .h | apply Pick.t | apply Picks.cons | apply Picks.skip)); done)
        | exact E_fin0 (.inr rfl) rfl (by (repeat (first | exact .nil | exact .refl _ | exact .h | apply Pick.t | apply Picks.cons | apply Picks.skip)); done) | fail)
      exact E_fin1 (.inl rfl) rfl rfl (by rw [e1]) (by (repeat (first | exact .nil | exact .refl _ | exact .h | apply Pick.t | apply Picks.cons)); done)
theorem contains_int {a : Option Addr} {c : Nat} {xs : List Int} {t : Int} (hk : xs.length ≤ 1000000) :
    CtA Try.prog 140 [.slice a xs.length c, i64v t] [slc 3 1 a xs.length c (xs.map i64v)] (.bool (decide (t ∈ xs))) fun F => slc 3 1 a xs.length c (xs.map i64v) :: F := by
  intro F; simp only [List.cons_append, List.nil_append]; refine Ct_of Try.func140 rfl (n := 9) rfl rfl ?_
  by_cases h : t ∈ xs
  · have e1 : 0 ≤ idxOf t xs := by simp [idxOf, h]
    rw [decide_eq_true h]
    repeat (first
      | refine H_seq ?_ | refine H_block ?_ | refine H_region ?_ | refine TL_nil ?_ | refine N_then ?_ | refine N_block ?_ | refine H_skip ?_ | refine H_ret ?_ | refine R_then ?_ | refine R_block ?_ | refine H_exit ?_
      | refine X_then ?_ | refine X_block_eq ?_ | refine X_block_ne rfl ?_ | refine H_cond_t rfl ?_ | refine H_cond_f rfl ?_
      | refine TL_y (by first | exact Y_move rfl | exact Y_assign rfl | exact Y_geqd rfl rfl (by first | exact decide_eq_true (by omega) | exact decide_eq_false (by omega)) | exact Y_geq rfl rfl | fail) rfl ?_
      | refine T_callA rfl rfl (by (repeat (first | exact .nil | exact .refl _ | exact .h | apply Pick.t | apply Picks.cons)); done) (index_int hk) ?_
      | exact E_fin1 (.inl rfl) rfl rfl rfl (by (repeat (first | exact .nil | exact .refl _ | exact .h | apply Pick.t | apply Picks.cons | apply Picks.skip)); done)
      | exact E_fin1 (.inr rfl) rfl rfl rfl (by (repeat (first | exact .nil | exact .refl _ | exact .h | apply Pick.t | apply Picks.cons | apply Picks.skip)); done)
      | exact E_fin2 (.inl rfl) rfl rfl rfl rfl (by (repeat (first | exact .nil | exact .refl _ | exact .h | apply Pick.t | apply Picks.cons | apply Picks.skip)); done)
      | exact E_fin2 (.inr rfl) rfl rfl rfl rfl (by (repeat (first | exact .nil | exact .refl _ | exact .h | apply Pick.t | apply Picks.cons | apply Picks.skip)); done)
      | exact E_fin3 (.inl rfl) rfl rfl rfl rfl rfl (by (repeat (first | exact .nil | exact .refl _ | exact .h | apply Pick.t | apply Picks.cons | apply Picks.skip)); done)
      | exact E_fin3 (.inr rfl) rfl rfl rfl rfl rfl (by (repeat (first | exact .nil | exact .refl _ | exact .h | apply Pick.t | apply Picks.cons | apply Picks.skip)); done)
      | exact E_fin0 (.inl rfl) rfl (by (repeat (first | exact .nil | exact .refl _ | exact .h | apply Pick.t | apply Picks.cons | apply Picks.skip)); done)
      | exact E_fin0 (.inr rfl) rfl (by (repeat (first | exact .nil | exact .refl _ | exact .h | apply Pick.t | apply Picks.cons | apply Picks.skip)); done) | fail)
  · have e1 : idxOf t xs < 0 := by simp [idxOf, h]
    rw [decide_eq_false h]
    repeat (first
      | refine H_seq ?_ | refine H_block ?_ | refine H_region ?_ | refine TL_nil ?_ | refine N_then ?_ | refine N_block ?_ | refine H_skip ?_ | refine H_ret ?_ | refine R_then ?_ | refine R_block ?_ | refine H_exit ?_
      | refine X_then ?_ | refine X_block_eq ?_ | refine X_block_ne rfl ?_ | refine H_cond_t rfl ?_ | refine H_cond_f rfl ?_
      | refine TL_y (by first | exact Y_move rfl | exact Y_assign rfl | exact Y_geqd rfl rfl (by first | exact decide_eq_true (by omega) | exact decide_eq_false (by omega)) | exact Y_geq rfl rfl | fail) rfl ?_
      | refine T_callA rfl rfl (by (repeat (first | exact .nil | exact .refl _ | exact .h | apply Pick.t | apply Picks.cons)); done) (index_int hk) ?_
      | exact E_fin1 (.inl rfl) rfl rfl rfl (by (repeat (first | exact .nil | exact .refl _ | exact .h | apply Pick.t | apply Picks.cons | apply Picks.skip)); done)
      | exact E_fin1 (.inr rfl) rfl rfl rfl (by (repeat (first | exact .nil | exact .refl _ | exact .h | apply Pick.t | apply Picks.cons | apply Picks.skip)); done)
      | exact E_fin2 (.inl rfl) rfl rfl rfl rfl (by (repeat (first | exact .nil | exact .refl _ | exact .h | apply Pick.t | apply Picks.cons | apply Picks.skip)); done)
      | exact E_fin2 (.inr rfl) rfl rfl rfl rfl (by (repeat (first | exact .nil | exact .refl _ | exact .h | apply Pick.t | apply Picks.cons | apply Picks.skip)); done)
      | exact E_fin3 (.inl rfl) rfl rfl rfl rfl rfl (by (repeat (first | exact .nil | exact .refl _ | exact .h | apply Pick.t | apply Picks.cons | apply Picks.skip)); done)
      | exact E_fin3 (.inr rfl) rfl rfl rfl rfl rfl (by (repeat (first | exact .nil | exact .refl _ | exact .h | apply Pick.t | apply Picks.cons | apply Picks.skip)); done)
      | exact E_fin0 (.inl rfl) rfl (by (repeat (first | exact .nil | exact .refl _ | exact .h | apply Pick.t | apply Picks.cons | apply Picks.skip)); done)
      | exact E_fin0 (.inr rfl) rfl (by (repeat (first | exact .nil | exact .refl _ | exact .h | apply Pick.t | apply Picks.cons | apply Picks.skip)); done) | fail)
end Go.Proofs
namespace Go.Proofs
open Go Go.SL
attribute [local irreducible] H W TL XL Y cl mp slc
set_option maxRecDepth 20000
set_option maxHeartbeats 1000000

theorem put_del {pre A B C spare Z : List Value} (hZ : Z.length = B.length) : put (put (pre ++ (A ++ B ++ C) ++ spare) (pre.length + A.length) C) (pre.length + (A.length + C.length)) Z = pre ++ (A ++ C) ++ (Z ++ spare) := by
  have e1 : put (pre ++ (A ++ B ++ C) ++ spare) (pre.length + A.length) C = (pre ++ A ++ C) ++ ((B ++ C).drop C.length) ++ spare := by
    have := put_mid (pre := pre ++ A) (mid := (B ++ C).take C.length) (ys := C) (spare := (B ++ C).drop C.length ++ spare) (by simp)
    rw [List.length_append] at this
    rw [show pre ++ (A ++ B ++ C) ++ spare = pre ++ A ++ (B ++ C).take C.length ++ ((B ++ C).drop C.length ++ spare) by
      rw [List.append_assoc (pre ++ A), ← List.append_assoc ((B ++ C).take _), List.take_append_drop]; simp]
    rw [this]; simp
  rw [e1]
  have := put_mid (pre := pre ++ A ++ C) (mid := (B ++ C).drop C.length) (ys := Z) (spare := spare) (by simp [hZ])
  rw [show (pre ++ A ++ C).length = pre.length + (A.length + C.length) by simp] at this
  rw [this]; simp
theorem mid_get {pre ys spare : List Value} {i : Nat} {v : Value} (h : ys[i]? = some v) : (pre ++ ys ++ spare)[pre.length + i]? = some v := by
  have hi := (List.getElem?_eq_some_iff.1 h).1
  rw [List.append_assoc, List.getElem?_append_right (by omega), List.getElem?_append_left (by omega)]
  rw [show pre.length + i - pre.length = i by omega]; exact h
theorem zero_len {z : Value} {k : Nat} (h : z.cells.size = 1) : (Builtin.zeroCells z.cells k).toList.length = k := by simp [size_zeroCells, h]

theorem delete_u64 {a : Option Addr} {c i j k : Nat} {ys : List Value} (hij : i < j) (hjk : j ≤ k) (hk : k ≤ 1000000) :
    CtE Try.prog 127 [.slice a k c, i64v i, i64v j] [slc 36 1 a k c ys] (fun _ : Unit => True) (fun _ => .slice a (i + (k - j)) c) fun _ F => slc 36 1 a (i + (k - j)) c (ys.take i ++ ys.drop j) :: F := by
  intro F; simp only [List.cons_append, List.nil_append]; refine Ct_of Try.func127 rfl (n := 33) rfl rfl ?_
  refine H_slccase .h (fun _ e => by omega) fun b o e => ?_
  subst e
  refine H_slcopen .h fun pre spare ho hkc hcm hl hsp h1 => ?_
  subst ho
  rw [Nat.mul_one] at hl
  have hsp' : spare.length = c - k := by omega
  repeat (first
    | refine H_seq ?_ | refine H_block ?_ | refine H_region ?_ | refine TL_nil ?_ | refine N_then ?_ | refine N_block ?_ | refine H_skip ?_ | refine H_ret ?_ | refine R_then ?_ | refine R_block ?_ | refine H_exit ?_
    | refine X_then ?_ | refine X_block_eq ?_ | refine X_block_ne rfl ?_ | refine H_cond_t rfl ?_ | refine H_cond_f rfl ?_
    | refine TL_y (by first | exact Y_move rfl | exact Y_assign rfl | exact Y_eqld rfl rfl (by first | exact decide_eq_true (by omega) | exact decide_eq_false (by omega)) | exact Y_eql rfl rfl | exact Y_eql_nil rfl rfl | exact Y_slice_eq_nil rfl rfl | exact Y_map_eq_nil rfl rfl | exact Y_slhi rfl rfl (by omega) (by omega) | exact Y_sllo rfl rfl (by omega) (by omega) (by omega) | exact Y_sllh rfl rfl rfl (by omega) (by omega) (by omega) | exact Y_slhm rfl rfl rfl (by omega) (by omega) (by omega) | exact Y_sllhm rfl rfl rfl rfl (by omega) (by omega) (by omega) (by omega) | exact Y_len_slice rfl | fail) rfl ?_
    | refine X_y rfl (by first | exact Y_move rfl | exact Y_assign rfl | exact Y_eqld rfl rfl (by first | exact decide_eq_true (by omega) | exact decide_eq_false (by omega)) | exact Y_eql rfl rfl | exact Y_eql_nil rfl rfl | exact Y_slice_eq_nil rfl rfl | exact Y_map_eq_nil rfl rfl | exact Y_slhi rfl rfl (by omega) (by omega) | exact Y_sllo rfl rfl (by omega) (by omega) (by omega) | exact Y_sllh rfl rfl rfl (by omega) (by omega) (by omega) | exact Y_slhm rfl rfl rfl (by omega) (by omega) (by omega) | exact Y_sllhm rfl rfl rfl rfl (by omega) (by omega) (by omega) (by omega) | exact Y_len_slice rfl | fail) rfl ?_
    | refine X_loud rfl rfl ?_ | refine X_bar rfl ?_ | refine X_next (fun _ h => h) ?_
    | (refine X_next ?_ ?_; · exact fun _ h => sat_sub (by (repeat (first | exact .nil | exact .refl _ | exact .h | apply Pick.t | apply Picks.cons | apply Picks.skip)); done) h) | refine X_next (fun _ _ => sat_nil') ?_
    | refine X_nil ?_ | refine H_draw (id := 5) 6 _ [(0, false), (1, false), (2, false), (3, false), (4, false), (5, false), (6, true), (7, false)] (by kernel_rfl) (fun _ h => h) ?_
    | exact E_fin1 (.inl rfl) rfl rfl rfl (by (repeat (first | exact .nil | exact .refl _ | exact .h | apply Pick.t | apply Picks.cons | apply Picks.skip)); done)
    | exact E_fin1 (.inr rfl) rfl rfl rfl (by (repeat (first | exact .nil | exact .refl _ | exact .h | apply Pick.t | apply Picks.cons | apply Picks.skip)); done)
    | exact E_fin2 (.inl rfl) rfl rfl rfl rfl (by (repeat (first | exact .nil | exact .refl _ | exact .h | apply Pick.t | apply Picks.cons | apply Picks.skip)); done)
    | exact E_fin2 (.inr rfl) rfl rfl rfl rfl (by (repeat (first | exact .nil | exact .refl _ | exact .h | apply Pick.t | apply Picks.cons | apply Picks.skip)); done)
    | exact E_fin3 (.inl rfl) rfl rfl rfl rfl rfl (by (repeat (first | exact .nil | exact .refl _ | exact .h | apply Pick.t | apply Picks.cons | apply Picks.skip)); done)
    | exact E_fin3 (.inr rfl) rfl rfl rfl rfl rfl (by (repeat (first | exact .nil | exact .refl _ | exact .h | apply Pick.t | apply Picks.cons | apply Picks.skip)); done)
    | exact E_fin0 (.inl rfl) rfl (by (repeat (first | exact .nil | exact .refl _ | exact .h | apply Pick.t | apply Picks.cons | apply Picks.skip)); done)
    | exact E_fin0 (.inr rfl) rfl (by (repeat (first | exact .nil | exact .refl _ | exact .h | apply Pick.t | apply Picks.cons | apply Picks.skip)); done) | fail)
  refine T_appendAt (news := ys.drop j) rfl rfl .h (Rd_so (j := j) .h (fun e => List.drop_eq_nil_of_le (by omega)) fun i v h => ?_) (by simp [hl]) (fun u hu => h1 u (List.mem_of_mem_drop hu)) (by simp; omega) (by simp; omega) rfl ?_
  · rw [List.getElem?_drop] at h
    rw [Nat.mul_one, Nat.add_assoc]; exact mid_get h
  have e0 : so c (i + (k - j)) pre.length 1 = pre.length + (i + (k - j)) := by rw [so_lt (by omega), Nat.mul_one]
  repeat (first
    | refine H_seq ?_ | refine H_block ?_ | refine H_region ?_ | refine TL_nil ?_ | refine N_then ?_ | refine N_block ?_ | refine H_skip ?_ | refine H_ret ?_ | refine R_then ?_ | refine R_block ?_ | refine H_exit ?_
    | refine X_then ?_ | refine X_block_eq ?_ | refine X_block_ne rfl ?_ | refine H_cond_t rfl ?_ | refine H_cond_f rfl ?_
    | refine TL_y (by first | exact Y_move rfl | exact Y_assign rfl | exact Y_eqld rfl rfl (by first | exact decide_eq_true (by omega) | exact decide_eq_false (by omega)) | exact Y_eql rfl rfl | exact Y_eql_nil rfl rfl | exact Y_slice_eq_nil rfl rfl | exact Y_map_eq_nil rfl rfl | exact Y_slhi rfl rfl (by omega) (by omega) | exact Y_sllo rfl rfl (by omega) (by omega) (by omega) | exact Y_sllh rfl rfl rfl (by omega) (by omega) (by omega) | exact Y_slhm rfl rfl rfl (by omega) (by omega) (by omega) | exact Y_sllhm rfl rfl rfl rfl (by omega) (by omega) (by omega) (by omega) | exact Y_len_slice rfl | fail) rfl ?_
    | refine X_y rfl (by first | exact Y_move rfl | exact Y_assign rfl | exact Y_eqld rfl rfl (by first | exact decide_eq_true (by omega) | exact decide_eq_false (by omega)) | exact Y_eql rfl rfl | exact Y_eql_nil rfl rfl | exact Y_slice_eq_nil rfl rfl | exact Y_map_eq_nil rfl rfl | exact Y_slhi rfl rfl (by omega) (by omega) | exact Y_sllo rfl rfl (by omega) (by omega) (by omega) | exact Y_sllh rfl rfl rfl (by omega) (by omega) (by omega) | exact Y_slhm rfl rfl rfl (by omega) (by omega) (by omega) | exact Y_sllhm rfl rfl rfl rfl (by omega) (by omega) (by omega) (by omega) | exact Y_len_slice rfl | fail) rfl ?_
    | refine X_loud rfl rfl ?_ | refine X_bar rfl ?_ | refine X_next (fun _ h => h) ?_
    | (refine X_next ?_ ?_; · exact fun _ h => sat_sub (by (repeat (first | exact .nil | exact .refl _ | exact .h | apply Pick.t | apply Picks.cons | apply Picks.skip)); done) h) | refine X_next (fun _ _ => sat_nil') ?_
    | refine X_nil ?_ | refine H_draw (id := 5) 6 _ [(0, false), (1, false), (2, false), (3, false), (4, false), (5, false), (6, true), (7, false)] (by kernel_rfl) (fun _ h => h) ?_
    | exact E_fin1 (.inl rfl) rfl rfl rfl (by (repeat (first | exact .nil | exact .refl _ | exact .h | apply Pick.t | apply Picks.cons | apply Picks.skip)); done)
    | exact E_fin1 (.inr rfl) rfl rfl rfl (by (repeat (first | exact .nil | exact .refl _ | exact .h | apply Pick.t | apply Picks.cons | apply Picks.skip)); done)
    | exact E_fin2 (.inl rfl) rfl rfl rfl rfl (by (repeat (first | exact .nil | exact .refl _ | exact .h | apply Pick.t | apply Picks.cons | apply Picks.skip)); done)
    | exact E_fin2 (.inr rfl) rfl rfl rfl rfl (by (repeat (first | exact .nil | exact .refl _ | exact .h | apply Pick.t | apply Picks.cons | apply Picks.skip)); done)
    | exact E_fin3 (.inl rfl) rfl rfl rfl rfl rfl (by (repeat (first | exact .nil | exact .refl _ | exact .h | apply Pick.t | apply Picks.cons | apply Picks.skip)); done)
    | exact E_fin3 (.inr rfl) rfl rfl rfl rfl rfl (by (repeat (first | exact .nil | exact .refl _ | exact .h | apply Pick.t | apply Picks.cons | apply Picks.skip)); done)
    | exact E_fin0 (.inl rfl) rfl (by (repeat (first | exact .nil | exact .refl _ | exact .h | apply Pick.t | apply Picks.cons | apply Picks.skip)); done)
    | exact E_fin0 (.inr rfl) rfl (by (repeat (first | exact .nil | exact .refl _ | exact .h | apply Pick.t | apply Picks.cons | apply Picks.skip)); done) | fail)
  refine T_clearAt rfl .h (ones_one rfl) (by show so c (i + (k - j)) pre.length 1 + (k - (i + (k - j))) * 1 ≤ _; rw [e0, put_length (by simp; omega)]; simp; omega) ?_
  repeat (first
    | refine H_seq ?_ | refine H_block ?_ | refine H_region ?_ | refine TL_nil ?_ | refine N_then ?_ | refine N_block ?_ | refine H_skip ?_ | refine H_ret ?_ | refine R_then ?_ | refine R_block ?_ | refine H_exit ?_
    | refine X_then ?_ | refine X_block_eq ?_ | refine X_block_ne rfl ?_ | refine H_cond_t rfl ?_ | refine H_cond_f rfl ?_
    | refine TL_y (by first | exact Y_move rfl | exact Y_assign rfl | exact Y_eqld rfl rfl (by first | exact decide_eq_true (by omega) | exact decide_eq_false (by omega)) | exact Y_eql rfl rfl | exact Y_eql_nil rfl rfl | exact Y_slice_eq_nil rfl rfl | exact Y_map_eq_nil rfl rfl | exact Y_slhi rfl rfl (by omega) (by omega) | exact Y_sllo rfl rfl (by omega) (by omega) (by omega) | exact Y_sllh rfl rfl rfl (by omega) (by omega) (by omega) | exact Y_slhm rfl rfl rfl (by omega) (by omega) (by omega) | exact Y_sllhm rfl rfl rfl rfl (by omega) (by omega) (by omega) (by omega) | exact Y_len_slice rfl | fail) rfl ?_
    | refine X_y rfl (by first | exact Y_move rfl | exact Y_assign rfl | exact Y_eqld rfl rfl (by first | exact decide_eq_true (by omega) | exact decide_eq_false (by omega)) | exact Y_eql rfl rfl | exact Y_eql_nil rfl rfl | exact Y_slice_eq_nil rfl rfl | exact Y_map_eq_nil rfl rfl | exact Y_slhi rfl rfl (by omega) (by omega) | exact Y_sllo rfl rfl (by omega) (by omega) (by omega) | exact Y_sllh rfl rfl rfl (by omega) (by omega) (by omega) | exact Y_slhm rfl rfl rfl (by omega) (by omega) (by omega) | exact Y_sllhm rfl rfl rfl rfl (by omega) (by omega) (by omega) (by omega) | exact Y_len_slice rfl | fail) rfl ?_
    | refine X_loud rfl rfl ?_ | refine X_bar rfl ?_ | refine X_next (fun _ h => h) ?_
    | (refine X_next ?_ ?_; · exact fun _ h => sat_sub (by (repeat (first | exact .nil | exact .refl _ | exact .h | apply Pick.t | apply Picks.cons | apply Picks.skip)); done) h) | refine X_next (fun _ _ => sat_nil') ?_
    | refine X_nil ?_ | refine H_draw (id := 5) 6 _ [(0, false), (1, false), (2, false), (3, false), (4, false), (5, false), (6, true), (7, false)] (by kernel_rfl) (fun _ h => h) ?_
    | exact E_fin1 (.inl rfl) rfl rfl rfl (by (repeat (first | exact .nil | exact .refl _ | exact .h | apply Pick.t | apply Picks.cons | apply Picks.skip)); done)
    | exact E_fin1 (.inr rfl) rfl rfl rfl (by (repeat (first | exact .nil | exact .refl _ | exact .h | apply Pick.t | apply Picks.cons | apply Picks.skip)); done)
    | exact E_fin2 (.inl rfl) rfl rfl rfl rfl (by (repeat (first | exact .nil | exact .refl _ | exact .h | apply Pick.t | apply Picks.cons | apply Picks.skip)); done)
    | exact E_fin2 (.inr rfl) rfl rfl rfl rfl (by (repeat (first | exact .nil | exact .refl _ | exact .h | apply Pick.t | apply Picks.cons | apply Picks.skip)); done)
    | exact E_fin3 (.inl rfl) rfl rfl rfl rfl rfl (by (repeat (first | exact .nil | exact .refl _ | exact .h | apply Pick.t | apply Picks.cons | apply Picks.skip)); done)
    | exact E_fin3 (.inr rfl) rfl rfl rfl rfl rfl (by (repeat (first | exact .nil | exact .refl _ | exact .h | apply Pick.t | apply Picks.cons | apply Picks.skip)); done)
    | exact E_fin0 (.inl rfl) rfl (by (repeat (first | exact .nil | exact .refl _ | exact .h | apply Pick.t | apply Picks.cons | apply Picks.skip)); done)
    | exact E_fin0 (.inr rfl) rfl (by (repeat (first | exact .nil | exact .refl _ | exact .h | apply Pick.t | apply Picks.cons | apply Picks.skip)); done) | fail)
  have e1 : put (put (pre ++ ys ++ spare) (pre.length + i * 1) (ys.drop j)) (so c (i + (k - j)) pre.length 1) (Builtin.zeroCells (Value.int .u64 0).cells (k - (i + (k - j)))).toList = pre ++ (ys.take i ++ ys.drop j) ++ ((Builtin.zeroCells (Value.int .u64 0).cells (k - (i + (k - j)))).toList ++ spare) := by
    have h3 := put_del (pre := pre) (A := ys.take i) (B := (ys.take j).drop i) (C := ys.drop j) (spare := spare) (Z := (Builtin.zeroCells (Value.int .u64 0).cells (k - (i + (k - j)))).toList) (by rw [zero_len rfl]; simp; omega)
    rw [show ys.take i ++ (ys.take j).drop i ++ ys.drop j = ys by
      rw [show ys.take i = (ys.take j).take i by rw [List.take_take, Nat.min_eq_left (by omega)], List.take_append_drop, List.take_append_drop]] at h3
    rw [← h3, e0]
    congr 2
    · simp; omega
    · simp; omega
  refine H_slcclose .h e1 (k := i + (k - j)) (c := c) (sz := 1) (by omega) hcm (by simp; omega) (by rw [List.length_append, zero_len rfl]; omega) (fun u hu => (List.mem_append.1 hu).elim (fun h => h1 u (List.mem_of_mem_take h)) fun h => h1 u (List.mem_of_mem_drop h)) ?_
  exact X_fin1 () (by trivial) (by first | exact .inl rfl | exact .inr rfl) (by rfl) (by rfl) (by rfl) (by (repeat (first | exact .nil | exact .refl _ | exact .h | apply Pick.t | apply Picks.cons | apply Picks.skip)); done)
end Go.Proofs
namespace Go.Proofs
open Go Go.SL
attribute [local irreducible] H W TL XL Y cl mp slc
set_option maxRecDepth 20000
set_option maxHeartbeats 1000000

/-- where q holds first -/
def idxq (q : Int → Bool) (l : List Int) : Int := if l.any q then (l.findIdx q : Int) else -1
theorem idxq_here {q : Int → Bool} {xs : List Int} {x : Int} {i : Nat} (h : xs[i]? = some x) (hn : (xs.take i).any q = false) (hx : q x = true) : idxq q xs = i := by
  obtain ⟨hi, rfl⟩ := List.getElem?_eq_some_iff.1 h
  have h1 : xs.any q = true := List.any_eq_true.2 ⟨_, List.getElem_mem hi, hx⟩
  have h2 : xs.findIdx q = i := by
    rw [List.findIdx_eq hi]
    refine ⟨hx, fun j hj => ?_⟩
    have := List.any_eq_false.1 hn xs[j] (List.mem_take_iff_getElem.2 ⟨j, by omega, rfl⟩)
    simpa using this
  simp [idxq, h1, h2]
theorem any_succ {q : Int → Bool} {xs : List Int} {x : Int} {i : Nat} (h : xs[i]? = some x) (hn : (xs.take i).any q = false) (hx : q x = false) : (xs.take (i + 1)).any q = false := by
  rw [List.take_add_one, h]
  simp [List.any_append, hn, hx]

theorem first_out {q : Int → Bool} {xs : List Int} {i : Nat} {x : Int} (hi : xs.findIdx q = i) (hx : xs[i]? = some x) : (xs.take (i + 1)).filter (! q ·) = xs.take i := by
  obtain ⟨hlt, rfl⟩ := List.getElem?_eq_some_iff.1 hx
  subst hi
  rw [List.take_add_one, List.getElem?_eq_getElem hlt, List.filter_append]
  have h1 : q xs[xs.findIdx q] = true := List.findIdx_getElem
  have h2 : (xs.take (xs.findIdx q)).filter (! q ·) = xs.take (xs.findIdx q) := List.filter_eq_self.2 fun y hy => by
    obtain ⟨k, hk, rfl⟩ := List.mem_take_iff_getElem.1 hy
    have := List.not_of_lt_findIdx (p := q) (xs := xs) (i := k) (by omega)
    simpa using this
  rw [h2]; simp [h1]
theorem indexFunc_u64 {a : Option Addr} {c : Nat} {xs : List Int} {fd : Nat} [FnT Try.prog fd] {cs : List Value} {D : Asn} {q : Int → Bool} (hd : ∀ x, CtA Try.prog fd ([u64v x] ++ cs) [D] (.bool (q x)) fun F => D :: F) (hk : xs.length ≤ 1000000) :
    CtA Try.prog 152 [.slice a xs.length c, .func (.func fd) #[] cs.toArray] [slc 36 1 a xs.length c (xs.map u64v), D] (i64v (idxq q xs)) fun F => slc 36 1 a xs.length c (xs.map u64v) :: D :: F := by
  intro F; simp only [List.cons_append, List.nil_append]; refine Ct_of Try.func152 rfl (n := 19) rfl rfl ?_
  repeat (first
    | refine H_seq ?_ | refine H_block ?_ | refine H_region ?_ | refine TL_nil ?_ | refine N_then ?_ | refine N_block ?_ | refine H_skip ?_ | refine H_ret ?_ | refine R_then ?_ | refine R_block ?_ | refine H_exit ?_
    | refine X_then ?_ | refine X_block_eq ?_ | refine X_block_ne rfl ?_ | refine H_cond_t rfl ?_ | refine H_cond_f rfl ?_
    | refine TL_y (by first | exact Y_move rfl | exact Y_assign rfl | exact Y_load rfl (Vl_cl (by (repeat (first | exact .h | apply Pick.t)); done) rfl) | exact Y_load rfl (by assumption) | exact Y_indexAddr rfl rfl (by omega) (by first | omega | (simp only [List.length_cons]; omega)) | exact Y_load rfl (Vl_elem (by (repeat (first | exact .h | apply Pick.t)); done) (by assumption)) | exact Y_loadAt rfl (by (repeat (first | exact .h | apply Pick.t)); done) (by rfl) | exact Y_lssd rfl rfl (by first | exact decide_eq_true (by omega) | exact decide_eq_false (by omega)) | exact Y_lss rfl rfl | exact Y_add' rfl rfl (w64 (by omega) (by omega)) | exact Y_add' rfl rfl (wu64 (by omega) (by omega)) | exact Y_len_slice rfl | fail) rfl ?_
    | refine H_loopk [0, 1, 7] (fun i : Nat => [(8, i64v i)]) (fun _ => slc 36 1 a xs.length c (xs.map u64v) :: D :: F) (fun i => i ≤ xs.length ∧ (xs.take i).any q = false) (fun i => xs.length - i) 0 ?_ ?_ ?_ ?_
    | exact E_fin1 (.inl rfl) rfl rfl rfl (by (repeat (first | exact .nil | exact .refl _ | exact .h | apply Pick.t | apply Picks.cons | apply Picks.skip)); done)
    | exact E_fin1 (.inr rfl) rfl rfl rfl (by (repeat (first | exact .nil | exact .refl _ | exact .h | apply Pick.t | apply Picks.cons | apply Picks.skip)); done)
    | exact E_fin2 (.inl rfl) rfl rfl rfl rfl (by (repeat (first | exact .nil | exact .refl _ | exact .h | apply Pick.t | apply Picks.cons | apply Picks.skip)); done)
    | exact E_fin2 (.inr rfl) rfl rfl rfl rfl (by (repeat (first | exact .nil | exact .refl _ | exact .h | apply Pick.t | apply Picks.cons | apply Picks.skip)); done)
    | exact E_fin3 (.inl rfl) rfl rfl rfl rfl rfl (by (repeat (first | exact .nil | exact .refl _ | exact .h | apply Pick.t | apply Picks.cons | apply Picks.skip)); done)
    | exact E_fin3 (.inr rfl) rfl rfl rfl rfl rfl (by (repeat (first | exact .nil | exact .refl _ | exact .h | apply Pick.t | apply Picks.cons | apply Picks.skip)); done)
    | exact E_fin0 (.inl rfl) rfl (by (repeat (first | exact .nil | exact .refl _ | exact .h | apply Pick.t | apply Picks.cons | apply Picks.skip)); done)
    | exact E_fin0 (.inr rfl) rfl (by (repeat (first | exact .nil | exact .refl _ | exact .h | apply Pick.t | apply Picks.cons | apply Picks.skip)); done) | fail)
  · exact ⟨Nat.zero_le _, by simp⟩
  · exact ⟨rfl, trivial⟩
  · exact fun _ h => h
  · rintro i ⟨hi, ht⟩
    by_cases hlt : i < xs.length
    · obtain ⟨x, hx⟩ := getSome hlt
      refine H_slccase .h (fun _ e => by omega) fun b o e => ?_
      subst e
      have hd1 := hd x
      cases hxt : q x with
      | true =>
        rw [hxt] at hd1
        have e1 := idxq_here hx ht hxt
        repeat (first
          | refine H_seq ?_ | refine H_block ?_ | refine H_region ?_ | refine TL_nil ?_ | refine N_then ?_ | refine N_block ?_ | refine H_skip ?_ | refine H_ret ?_ | refine R_then ?_ | refine R_block ?_
          | refine H_exit ?_ | refine X_then ?_ | refine X_block_eq ?_ | refine X_block_ne rfl ?_ | refine H_cond_t rfl ?_ | refine H_cond_f rfl ?_
          | refine TL_y (by first | exact Y_move rfl | exact Y_assign rfl | exact Y_load rfl (Vl_cl (by (repeat (first | exact .h | apply Pick.t)); done) rfl) | exact Y_load rfl (by assumption) | exact Y_indexAddr rfl rfl (by omega) (by first | omega | (simp only [List.length_cons]; omega)) | exact Y_load rfl (Vl_elem (by (repeat (first | exact .h | apply Pick.t)); done) (by assumption)) | exact Y_loadAt rfl (by (repeat (first | exact .h | apply Pick.t)); done) (by rfl) | exact Y_lssd rfl rfl (by first | exact decide_eq_true (by omega) | exact decide_eq_false (by omega)) | exact Y_lss rfl rfl | exact Y_add' rfl rfl (w64 (by omega) (by omega)) | exact Y_add' rfl rfl (wu64 (by omega) (by omega)) | exact Y_len_slice rfl | fail) rfl ?_
          | refine T_callvA rfl rfl rfl (.cons (.t .h) .nil) hd1 ?_
          | exact E_fin1 (.inl rfl) rfl rfl rfl (by (repeat (first | exact .nil | exact .refl _ | exact .h | apply Pick.t | apply Picks.cons | apply Picks.skip)); done)
          | exact E_fin1 (.inr rfl) rfl rfl rfl (by (repeat (first | exact .nil | exact .refl _ | exact .h | apply Pick.t | apply Picks.cons | apply Picks.skip)); done)
          | exact E_fin2 (.inl rfl) rfl rfl rfl rfl (by (repeat (first | exact .nil | exact .refl _ | exact .h | apply Pick.t | apply Picks.cons | apply Picks.skip)); done)
          | exact E_fin2 (.inr rfl) rfl rfl rfl rfl (by (repeat (first | exact .nil | exact .refl _ | exact .h | apply Pick.t | apply Picks.cons | apply Picks.skip)); done)
          | exact E_fin3 (.inl rfl) rfl rfl rfl rfl rfl (by (repeat (first | exact .nil | exact .refl _ | exact .h | apply Pick.t | apply Picks.cons | apply Picks.skip)); done)
          | exact E_fin3 (.inr rfl) rfl rfl rfl rfl rfl (by (repeat (first | exact .nil | exact .refl _ | exact .h | apply Pick.t | apply Picks.cons | apply Picks.skip)); done)
          | exact E_fin0 (.inl rfl) rfl (by (repeat (first | exact .nil | exact .refl _ | exact .h | apply Pick.t | apply Picks.cons | apply Picks.skip)); done)
          | exact E_fin0 (.inr rfl) rfl (by (repeat (first | exact .nil | exact .refl _ | exact .h | apply Pick.t | apply Picks.cons | apply Picks.skip)); done) | fail)
        exact E_fin1 (.inl rfl) rfl rfl (by rw [e1]) (by (repeat (first | exact .nil | exact .refl _ | exact .h | apply Pick.t | apply Picks.cons)); done)
      | false =>
        rw [hxt] at hd1
        repeat (first
          | refine H_seq ?_ | refine H_block ?_ | refine H_region ?_ | refine TL_nil ?_ | refine N_then ?_ | refine N_block ?_ | refine H_skip ?_ | refine H_ret ?_ | refine R_then ?_ | refine R_block ?_
          | refine H_exit ?_ | refine X_then ?_ | refine X_block_eq ?_ | refine X_block_ne rfl ?_ | refine H_cond_t rfl ?_ | refine H_cond_f rfl ?_
          | refine TL_y (by first | exact Y_move rfl | exact Y_assign rfl | exact Y_load rfl (Vl_cl (by (repeat (first | exact .h | apply Pick.t)); done) rfl) | exact Y_load rfl (by assumption) | exact Y_indexAddr rfl rfl (by omega) (by first | omega | (simp only [List.length_cons]; omega)) | exact Y_load rfl (Vl_elem (by (repeat (first | exact .h | apply Pick.t)); done) (by assumption)) | exact Y_loadAt rfl (by (repeat (first | exact .h | apply Pick.t)); done) (by rfl) | exact Y_lssd rfl rfl (by first | exact decide_eq_true (by omega) | exact decide_eq_false (by omega)) | exact Y_lss rfl rfl | exact Y_add' rfl rfl (w64 (by omega) (by omega)) | exact Y_add' rfl rfl (wu64 (by omega) (by omega)) | exact Y_len_slice rfl | fail) rfl ?_
          | refine T_callvA rfl rfl rfl (.cons (.t .h) .nil) hd1 ?_
          | exact E_fin1 (.inl rfl) rfl rfl rfl (by (repeat (first | exact .nil | exact .refl _ | exact .h | apply Pick.t | apply Picks.cons | apply Picks.skip)); done)
          | exact E_fin1 (.inr rfl) rfl rfl rfl (by (repeat (first | exact .nil | exact .refl _ | exact .h | apply Pick.t | apply Picks.cons | apply Picks.skip)); done)
          | exact E_fin2 (.inl rfl) rfl rfl rfl rfl (by (repeat (first | exact .nil | exact .refl _ | exact .h | apply Pick.t | apply Picks.cons | apply Picks.skip)); done)
          | exact E_fin2 (.inr rfl) rfl rfl rfl rfl (by (repeat (first | exact .nil | exact .refl _ | exact .h | apply Pick.t | apply Picks.cons | apply Picks.skip)); done)
          | exact E_fin3 (.inl rfl) rfl rfl rfl rfl rfl (by (repeat (first | exact .nil | exact .refl _ | exact .h | apply Pick.t | apply Picks.cons | apply Picks.skip)); done)
          | exact E_fin3 (.inr rfl) rfl rfl rfl rfl rfl (by (repeat (first | exact .nil | exact .refl _ | exact .h | apply Pick.t | apply Picks.cons | apply Picks.skip)); done)
          | exact E_fin0 (.inl rfl) rfl (by (repeat (first | exact .nil | exact .refl _ | exact .h | apply Pick.t | apply Picks.cons | apply Picks.skip)); done)
          | exact E_fin0 (.inr rfl) rfl (by (repeat (first | exact .nil | exact .refl _ | exact .h | apply Pick.t | apply Picks.cons | apply Picks.skip)); done) | fail)
        exact N_rk (i + 1) ⟨hlt, any_succ hx ht hxt⟩ (by omega) ⟨rfl, trivial⟩ ⟨rfl, rfl, rfl, trivial⟩ (fun _ hs => sat_ord (by (repeat (first | exact .nil | exact .refl _ | exact .h | apply Pick.t | apply Picks.cons)); done) hs)
    · have e1 : idxq q xs = -1 := by rw [List.take_of_length_le (by omega)] at ht; simp [idxq, ht]
      repeat (first
        | refine H_seq ?_ | refine H_block ?_ | refine H_region ?_ | refine TL_nil ?_ | refine N_then ?_ | refine N_block ?_ | refine H_skip ?_ | refine H_ret ?_ | refine R_then ?_ | refine R_block ?_ | refine H_exit ?_
        | refine X_then ?_ | refine X_block_eq ?_ | refine X_block_ne rfl ?_ | refine H_cond_t rfl ?_ | refine H_cond_f rfl ?_
        | refine TL_y (by first | exact Y_move rfl | exact Y_assign rfl | exact Y_load rfl (Vl_cl (by (repeat (first | exact .h | apply Pick.t)); done) rfl) | exact Y_load rfl (by assumption) | exact Y_indexAddr rfl rfl (by omega) (by first | omega | (simp only [List.length_cons]; omega)) | exact Y_load rfl (Vl_elem (by (repeat (first | exact .h | apply Pick.t)); done) (by assumption)) | exact Y_loadAt rfl (by (repeat (first | exact .h | apply Pick.t)); done) (by rfl) | exact Y_lssd rfl rfl (by first | exact decide_eq_true (by omega) | exact decide_eq_false (by omega)) | exact Y_lss rfl rfl | exact Y_add' rfl rfl (w64 (by omega) (by omega)) | exact Y_add' rfl rfl (wu64 (by omega) (by omega)) | exact Y_len_slice rfl | fail) rfl ?_
        | exact E_fin1 (.inl rfl) rfl rfl rfl (by (repeat (first | exact .nil | exact .refl _ | exact .h | apply Pick.t | apply Picks.cons | apply Picks.skip)); done)
        | exact E_fin1 (.inr rfl) rfl rfl rfl (by (repeat (first | exact .nil | exact .refl _ | exact .h | apply Pick.t | apply Picks.cons | apply Picks.skip)); done)
        | exact E_fin2 (.inl rfl) rfl rfl rfl rfl (by (repeat (first | exact .nil | exact .refl _ | exact .h | apply Pick.t | apply Picks.cons | apply Picks.skip)); done)
        | exact E_fin2 (.inr rfl) rfl rfl rfl rfl (by (repeat (first | exact .nil | exact .refl _ | exact .h | apply Pick.t | apply Picks.cons | apply Picks.skip)); done)
        | exact E_fin3 (.inl rfl) rfl rfl rfl rfl rfl (by (repeat (first | exact .nil | exact .refl _ | exact .h | apply Pick.t | apply Picks.cons | apply Picks.skip)); done)
        | exact E_fin3 (.inr rfl) rfl rfl rfl rfl rfl (by (repeat (first | exact .nil | exact .refl _ | exact .h | apply Pick.t | apply Picks.cons | apply Picks.skip)); done)
        | exact E_fin0 (.inl rfl) rfl (by (repeat (first | exact .nil | exact .refl _ | exact .h | apply Pick.t | apply Picks.cons | apply Picks.skip)); done)
        | exact E_fin0 (.inr rfl) rfl (by (repeat (first | exact .nil | exact .refl _ | exact .h | apply Pick.t | apply Picks.cons | apply Picks.skip)); done) | fail)
      exact E_fin1 (.inl rfl) rfl rfl (by rw [e1]) (by (repeat (first | exact .nil | exact .refl _ | exact .h | apply Pick.t | apply Picks.cons)); done)

theorem deleteFunc_u64 {a : Option Addr} {c : Nat} {xs : List Int} {fd : Nat} [FnT Try.prog fd] {cs : List Value} {D : Asn} {q : Int → Bool} (hd : ∀ x, CtA Try.prog fd ([u64v x] ++ cs) [D] (.bool (q x)) fun F => D :: F) (hk : xs.length ≤ 1000000) :
    CtE Try.prog 129 [.slice a xs.length c, .func (.func fd) #[] cs.toArray] [slc 36 1 a xs.length c (xs.map u64v), D] (fun _ : Unit => True) (fun _ => .slice a (xs.filter (! q ·)).length c)
      fun _ F => slc 36 1 a (xs.filter (! q ·)).length c ((xs.filter (! q ·)).map u64v) :: D :: F := by
  intro F; simp only [List.cons_append, List.nil_append]; refine Ct_of Try.func129 rfl (n := 42) rfl rfl ?_
  by_cases hq : xs.any q = true
  · have e1 : idxq q xs = (xs.findIdx q : Int) := by simp [idxq, hq]
    have hix := indexFunc_u64 (a := a) (c := c) hd hk
    rw [e1] at hix
    have hlt : xs.findIdx q < xs.length := by obtain ⟨x, hx, hqx⟩ := List.any_eq_true.1 hq; exact List.findIdx_lt_length_of_exists ⟨x, hx, hqx⟩
    generalize hi0 : xs.findIdx q = i0 at hix hlt
    repeat (first
      | refine H_seq ?_ | refine H_block ?_ | refine H_region ?_ | refine TL_nil ?_ | refine N_then ?_ | refine N_block ?_ | refine H_skip ?_ | refine H_ret ?_ | refine R_then ?_ | refine R_block ?_ | refine H_exit ?_
      | refine X_then ?_ | refine X_block_eq ?_ | refine X_block_ne rfl ?_ | refine H_cond_t rfl ?_ | refine H_cond_f rfl ?_
      | refine TL_y (by first | exact Y_move rfl | exact Y_assign rfl | exact Y_load rfl (Vl_cl (by (repeat (first | exact .h | apply Pick.t)); done) rfl) | exact Y_load rfl (by assumption) | exact Y_indexAddr rfl rfl (by omega) (by first | omega | (simp only [List.length_cons]; omega)) | exact Y_load rfl (Vl_elem (by (repeat (first | exact .h | apply Pick.t)); done) (by assumption)) | exact Y_loadAt rfl (by (repeat (first | exact .h | apply Pick.t)); done) (by rfl) | exact Y_not rfl | exact Y_lssd rfl rfl (by first | exact decide_eq_true (by omega) | exact decide_eq_false (by omega)) | exact Y_lss rfl rfl | exact Y_eqld rfl rfl (by first | exact decide_eq_true (by omega) | exact decide_eq_false (by omega)) | exact Y_eql rfl rfl | exact Y_eql_nil rfl rfl | exact Y_slice_eq_nil rfl rfl | exact Y_map_eq_nil rfl rfl | exact Y_add' rfl rfl (w64 (by omega) (by omega)) | exact Y_add' rfl rfl (wu64 (by omega) (by omega)) | exact Y_slhi rfl rfl (by omega) (by omega) | exact Y_sllo rfl rfl (by omega) (by omega) (by omega) | exact Y_sllh rfl rfl rfl (by omega) (by omega) (by omega) | exact Y_slhm rfl rfl rfl (by omega) (by omega) (by omega) | exact Y_sllhm rfl rfl rfl rfl (by omega) (by omega) (by omega) (by omega) | exact Y_len_slice rfl | fail) rfl ?_
      | refine T_store rfl rfl rfl (by (repeat (first | exact .h | apply Pick.t)); done) rfl ?_ | refine T_storeAt rfl rfl (by (repeat (first | exact .h | apply Pick.t)); done) (by rfl) (by rfl) (by rfl) ?_
      | refine T_callA rfl rfl (by (repeat (first | exact .nil | exact .refl _ | exact .h | apply Pick.t | apply Picks.cons)); done) hix ?_
      | exact E_fin1 (.inl rfl) rfl rfl rfl (by (repeat (first | exact .nil | exact .refl _ | exact .h | apply Pick.t | apply Picks.cons | apply Picks.skip)); done)
      | exact E_fin1 (.inr rfl) rfl rfl rfl (by (repeat (first | exact .nil | exact .refl _ | exact .h | apply Pick.t | apply Picks.cons | apply Picks.skip)); done)
      | exact E_fin2 (.inl rfl) rfl rfl rfl rfl (by (repeat (first | exact .nil | exact .refl _ | exact .h | apply Pick.t | apply Picks.cons | apply Picks.skip)); done)
      | exact E_fin2 (.inr rfl) rfl rfl rfl rfl (by (repeat (first | exact .nil | exact .refl _ | exact .h | apply Pick.t | apply Picks.cons | apply Picks.skip)); done)
      | exact E_fin3 (.inl rfl) rfl rfl rfl rfl rfl (by (repeat (first | exact .nil | exact .refl _ | exact .h | apply Pick.t | apply Picks.cons | apply Picks.skip)); done)
      | exact E_fin3 (.inr rfl) rfl rfl rfl rfl rfl (by (repeat (first | exact .nil | exact .refl _ | exact .h | apply Pick.t | apply Picks.cons | apply Picks.skip)); done)
      | exact E_fin0 (.inl rfl) rfl (by (repeat (first | exact .nil | exact .refl _ | exact .h | apply Pick.t | apply Picks.cons | apply Picks.skip)); done)
      | exact E_fin0 (.inr rfl) rfl (by (repeat (first | exact .nil | exact .refl _ | exact .h | apply Pick.t | apply Picks.cons | apply Picks.skip)); done) | fail)
    refine H_slccase .h (fun _ e => by omega) fun b o e => ?_
    subst e
    refine H_slcopen .h fun pre spare ho hkc hcm hl hsp h1 => ?_
    subst ho
    rw [Nat.mul_one] at hsp
    obtain ⟨x0, hx0⟩ := getSome hlt
    have e3 : (xs.take (i0 + 1)).filter (! q ·) = xs.take i0 := first_out hi0 hx0
    have hl0 : (xs.take i0).length = i0 := by simp; omega
    refine H_loopk [0, 1] (ι := Nat × List Value) (fun x => [(6, i64v x.1), (5, i64v ((xs.take x.1).filter (! q ·)).length)])
      (fun x => cl b (pre ++ (((xs.take x.1).filter (! q ·)).map u64v ++ x.2 ++ (xs.drop x.1).map u64v) ++ spare) 36 :: D :: F)
      (fun x => x.1 ≤ xs.length ∧ x.2 ≠ [] ∧ ((xs.take x.1).filter (! q ·)).length + x.2.length = x.1 ∧ one x.2) (fun x => xs.length - x.1) (i0 + 1, [u64v x0]) ?_ ?_ ?_ ?_
    · refine ⟨hlt, by simp, ?_, one_map (fun _ => rfl) [x0]⟩
      show (List.filter _ _).length + 1 = i0 + 1
      rw [e3, hl0]
    · refine ⟨rfl, ?_, trivial⟩
      show some (i64v i0) = some (i64v ((xs.take (i0 + 1)).filter (! q ·)).length)
      rw [e3, hl0]
    · intro w hs
      show sat (cl b (pre ++ (((xs.take (i0 + 1)).filter (! q ·)).map u64v ++ [u64v x0] ++ (xs.drop (i0 + 1)).map u64v) ++ spare) 36 :: D :: F) w
      rw [e3]
      have : xs.map u64v = (xs.take i0).map u64v ++ [u64v x0] ++ (xs.drop (i0 + 1)).map u64v := by
        have h4 : xs = xs.take i0 ++ x0 :: xs.drop (i0 + 1) := by
          conv => lhs; rw [← List.take_append_drop i0 xs, List.drop_eq_getElem_cons hlt]
          rw [(List.getElem?_eq_some_iff.1 hx0).2]
        conv => lhs; rw [h4]
        simp
      rw [← this]; exact hs
    · rintro ⟨j, mid⟩ ⟨hj, hm, hl2, h1m⟩
      simp only at hj hm hl2 h1m ⊢
      generalize hfl : (xs.take j).filter (! q ·) = fl at hl2 ⊢
      obtain ⟨m, ms, rfl⟩ : ∃ m ms, mid = m :: ms := by cases mid with | nil => exact absurd rfl hm | cons m ms => exact ⟨m, ms, rfl⟩
      simp only [List.length_cons] at hl2
      by_cases hlt2 : j < xs.length
      · obtain ⟨x, hx⟩ := getSome hlt2
        have hdr : xs.drop j = x :: xs.drop (j + 1) := by rw [List.drop_eq_getElem_cons hlt2, (List.getElem?_eq_some_iff.1 hx).2]
        rw [hdr]
        have hv : (pre ++ (fl.map u64v ++ (m :: ms) ++ (x :: xs.drop (j + 1)).map u64v) ++ spare)[pre.length + ((j : Int)).toNat * 1]? = some (u64v x) := by
          refine mid_get ?_
          rw [Int.toNat_natCast, Nat.mul_one, List.getElem?_append_right (by simp; omega)]
          rw [show j - (fl.map u64v ++ m :: ms).length = 0 by simp; omega]; rfl
        have hd1 := hd x
        cases hxt : q x with
        | true =>
          rw [hxt] at hd1
          have e4 : (xs.take (j + 1)).filter (! q ·) = fl := by rw [List.take_add_one, hx, List.filter_append, hfl]; simp [hxt]
          repeat (first
            | refine H_seq ?_ | refine H_block ?_ | refine H_region ?_ | refine TL_nil ?_ | refine N_then ?_ | refine N_block ?_ | refine H_skip ?_ | refine H_ret ?_ | refine R_then ?_ | refine R_block ?_
            | refine H_exit ?_ | refine X_then ?_ | refine X_block_eq ?_ | refine X_block_ne rfl ?_ | refine H_cond_t rfl ?_ | refine H_cond_f rfl ?_
            | refine TL_y (by first | exact Y_move rfl | exact Y_assign rfl | exact Y_load rfl (Vl_cl (by (repeat (first | exact .h | apply Pick.t)); done) rfl) | exact Y_load rfl (by assumption) | exact Y_indexAddr rfl rfl (by omega) (by first | omega | (simp only [List.length_cons]; omega)) | exact Y_load rfl (Vl_elem (by (repeat (first | exact .h | apply Pick.t)); done) (by assumption)) | exact Y_loadAt rfl (by (repeat (first | exact .h | apply Pick.t)); done) (by rfl) | exact Y_not rfl | exact Y_lssd rfl rfl (by first | exact decide_eq_true (by omega) | exact decide_eq_false (by omega)) | exact Y_lss rfl rfl | exact Y_eqld rfl rfl (by first | exact decide_eq_true (by omega) | exact decide_eq_false (by omega)) | exact Y_eql rfl rfl | exact Y_eql_nil rfl rfl | exact Y_slice_eq_nil rfl rfl | exact Y_map_eq_nil rfl rfl | exact Y_add' rfl rfl (w64 (by omega) (by omega)) | exact Y_add' rfl rfl (wu64 (by omega) (by omega)) | exact Y_slhi rfl rfl (by omega) (by omega) | exact Y_sllo rfl rfl (by omega) (by omega) (by omega) | exact Y_sllh rfl rfl rfl (by omega) (by omega) (by omega) | exact Y_slhm rfl rfl rfl (by omega) (by omega) (by omega) | exact Y_sllhm rfl rfl rfl rfl (by omega) (by omega) (by omega) (by omega) | exact Y_len_slice rfl | fail) rfl ?_
            | refine T_store rfl rfl rfl (by (repeat (first | exact .h | apply Pick.t)); done) rfl ?_ | refine T_storeAt rfl rfl (by (repeat (first | exact .h | apply Pick.t)); done) (by rfl) (by rfl) (by rfl) ?_
            | refine T_callvA rfl rfl rfl (.cons (.t .h) .nil) hd1 ?_ | (refine TL_y (Y_load rfl (Vl_cl .h hv)) rfl ?_)
            | exact E_fin1 (.inl rfl) rfl rfl rfl (by (repeat (first | exact .nil | exact .refl _ | exact .h | apply Pick.t | apply Picks.cons | apply Picks.skip)); done)
            | exact E_fin1 (.inr rfl) rfl rfl rfl (by (repeat (first | exact .nil | exact .refl _ | exact .h | apply Pick.t | apply Picks.cons | apply Picks.skip)); done)
            | exact E_fin2 (.inl rfl) rfl rfl rfl rfl (by (repeat (first | exact .nil | exact .refl _ | exact .h | apply Pick.t | apply Picks.cons | apply Picks.skip)); done)
            | exact E_fin2 (.inr rfl) rfl rfl rfl rfl (by (repeat (first | exact .nil | exact .refl _ | exact .h | apply Pick.t | apply Picks.cons | apply Picks.skip)); done)
            | exact E_fin3 (.inl rfl) rfl rfl rfl rfl rfl (by (repeat (first | exact .nil | exact .refl _ | exact .h | apply Pick.t | apply Picks.cons | apply Picks.skip)); done)
            | exact E_fin3 (.inr rfl) rfl rfl rfl rfl rfl (by (repeat (first | exact .nil | exact .refl _ | exact .h | apply Pick.t | apply Picks.cons | apply Picks.skip)); done)
            | exact E_fin0 (.inl rfl) rfl (by (repeat (first | exact .nil | exact .refl _ | exact .h | apply Pick.t | apply Picks.cons | apply Picks.skip)); done)
            | exact E_fin0 (.inr rfl) rfl (by (repeat (first | exact .nil | exact .refl _ | exact .h | apply Pick.t | apply Picks.cons | apply Picks.skip)); done) | fail)
          refine N_rk (i := (j, m :: ms)) (j + 1, m :: ms ++ [u64v x]) ⟨hlt2, by simp, ?_, one_append h1m (one_map (fun _ => rfl) [x])⟩ (by show xs.length - (j + 1) < xs.length - j; omega) ⟨rfl, ?_, trivial⟩ ⟨rfl, rfl, trivial⟩ fun w hs => ?_
          · show (List.filter _ _).length + _ = j + 1
            rw [e4]; simp; omega
          · show some (i64v fl.length) = some (i64v ((xs.take (j + 1)).filter (! q ·)).length)
            rw [e4]
          · show sat (cl b (pre ++ (((xs.take (j + 1)).filter (! q ·)).map u64v ++ (m :: ms ++ [u64v x]) ++ (xs.drop (j + 1)).map u64v) ++ spare) 36 :: D :: F) w
            rw [e4]
            have hs := sat_ord (L1 := cl b _ 36 :: D :: F) (by (repeat (first | exact .nil | exact .refl _ | exact .h | apply Pick.t | apply Picks.cons)); done) hs
            simpa using hs
        | false =>
          rw [hxt] at hd1
          have e4 : (xs.take (j + 1)).filter (! q ·) = fl ++ [x] := by rw [List.take_add_one, hx, List.filter_append, hfl]; simp [hxt]
          repeat (first
            | refine H_seq ?_ | refine H_block ?_ | refine H_region ?_ | refine TL_nil ?_ | refine N_then ?_ | refine N_block ?_ | refine H_skip ?_ | refine H_ret ?_ | refine R_then ?_ | refine R_block ?_
            | refine H_exit ?_ | refine X_then ?_ | refine X_block_eq ?_ | refine X_block_ne rfl ?_ | refine H_cond_t rfl ?_ | refine H_cond_f rfl ?_
            | refine TL_y (by first | exact Y_move rfl | exact Y_assign rfl | exact Y_load rfl (Vl_cl (by (repeat (first | exact .h | apply Pick.t)); done) rfl) | exact Y_load rfl (by assumption) | exact Y_indexAddr rfl rfl (by omega) (by first | omega | (simp only [List.length_cons]; omega)) | exact Y_load rfl (Vl_elem (by (repeat (first | exact .h | apply Pick.t)); done) (by assumption)) | exact Y_loadAt rfl (by (repeat (first | exact .h | apply Pick.t)); done) (by rfl) | exact Y_not rfl | exact Y_lssd rfl rfl (by first | exact decide_eq_true (by omega) | exact decide_eq_false (by omega)) | exact Y_lss rfl rfl | exact Y_eqld rfl rfl (by first | exact decide_eq_true (by omega) | exact decide_eq_false (by omega)) | exact Y_eql rfl rfl | exact Y_eql_nil rfl rfl | exact Y_slice_eq_nil rfl rfl | exact Y_map_eq_nil rfl rfl | exact Y_add' rfl rfl (w64 (by omega) (by omega)) | exact Y_add' rfl rfl (wu64 (by omega) (by omega)) | exact Y_slhi rfl rfl (by omega) (by omega) | exact Y_sllo rfl rfl (by omega) (by omega) (by omega) | exact Y_sllh rfl rfl rfl (by omega) (by omega) (by omega) | exact Y_slhm rfl rfl rfl (by omega) (by omega) (by omega) | exact Y_sllhm rfl rfl rfl rfl (by omega) (by omega) (by omega) (by omega) | exact Y_len_slice rfl | fail) rfl ?_
            | refine T_store rfl rfl rfl (by (repeat (first | exact .h | apply Pick.t)); done) rfl ?_ | refine T_storeAt rfl rfl (by (repeat (first | exact .h | apply Pick.t)); done) (by rfl) (by rfl) (by rfl) ?_
            | refine T_callvA rfl rfl rfl (.cons (.t .h) .nil) hd1 ?_ | (refine TL_y (Y_load rfl (Vl_cl .h hv)) rfl ?_)
            | exact E_fin1 (.inl rfl) rfl rfl rfl (by (repeat (first | exact .nil | exact .refl _ | exact .h | apply Pick.t | apply Picks.cons | apply Picks.skip)); done)
            | exact E_fin1 (.inr rfl) rfl rfl rfl (by (repeat (first | exact .nil | exact .refl _ | exact .h | apply Pick.t | apply Picks.cons | apply Picks.skip)); done)
            | exact E_fin2 (.inl rfl) rfl rfl rfl rfl (by (repeat (first | exact .nil | exact .refl _ | exact .h | apply Pick.t | apply Picks.cons | apply Picks.skip)); done)
            | exact E_fin2 (.inr rfl) rfl rfl rfl rfl (by (repeat (first | exact .nil | exact .refl _ | exact .h | apply Pick.t | apply Picks.cons | apply Picks.skip)); done)
            | exact E_fin3 (.inl rfl) rfl rfl rfl rfl rfl (by (repeat (first | exact .nil | exact .refl _ | exact .h | apply Pick.t | apply Picks.cons | apply Picks.skip)); done)
            | exact E_fin3 (.inr rfl) rfl rfl rfl rfl rfl (by (repeat (first | exact .nil | exact .refl _ | exact .h | apply Pick.t | apply Picks.cons | apply Picks.skip)); done)
            | exact E_fin0 (.inl rfl) rfl (by (repeat (first | exact .nil | exact .refl _ | exact .h | apply Pick.t | apply Picks.cons | apply Picks.skip)); done)
            | exact E_fin0 (.inr rfl) rfl (by (repeat (first | exact .nil | exact .refl _ | exact .h | apply Pick.t | apply Picks.cons | apply Picks.skip)); done) | fail)
          refine T_store rfl rfl rfl (.t .h) (by rw [Nat.blt_eq, Int.toNat_natCast]; simp only [List.length_append, List.length_map, List.length_cons]; omega) ?_
          have e5 : (pre ++ (fl.map u64v ++ (m :: ms) ++ (x :: xs.drop (j + 1)).map u64v) ++ spare).set (pre.length + ((fl.length : Int)).toNat * 1) (u64v x) = pre ++ ((fl ++ [x]).map u64v ++ (ms ++ [u64v x]) ++ (xs.drop (j + 1)).map u64v) ++ spare := by
            have := set_mid (A := pre ++ fl.map u64v) (B := ms ++ (x :: xs.drop (j + 1)).map u64v ++ spare) (m := m) (v := u64v x)
            rw [List.length_append, List.length_map] at this
            rw [Int.toNat_natCast, Nat.mul_one]
            simpa using this
          rw [e5]
          repeat (first
            | refine H_seq ?_ | refine H_block ?_ | refine H_region ?_ | refine TL_nil ?_ | refine N_then ?_ | refine N_block ?_ | refine H_skip ?_ | refine H_ret ?_ | refine R_then ?_ | refine R_block ?_
            | refine H_exit ?_ | refine X_then ?_ | refine X_block_eq ?_ | refine X_block_ne rfl ?_ | refine H_cond_t rfl ?_ | refine H_cond_f rfl ?_
            | refine TL_y (by first | exact Y_move rfl | exact Y_assign rfl | exact Y_load rfl (Vl_cl (by (repeat (first | exact .h | apply Pick.t)); done) rfl) | exact Y_load rfl (by assumption) | exact Y_indexAddr rfl rfl (by omega) (by first | omega | (simp only [List.length_cons]; omega)) | exact Y_load rfl (Vl_elem (by (repeat (first | exact .h | apply Pick.t)); done) (by assumption)) | exact Y_loadAt rfl (by (repeat (first | exact .h | apply Pick.t)); done) (by rfl) | exact Y_not rfl | exact Y_lssd rfl rfl (by first | exact decide_eq_true (by omega) | exact decide_eq_false (by omega)) | exact Y_lss rfl rfl | exact Y_eqld rfl rfl (by first | exact decide_eq_true (by omega) | exact decide_eq_false (by omega)) | exact Y_eql rfl rfl | exact Y_eql_nil rfl rfl | exact Y_slice_eq_nil rfl rfl | exact Y_map_eq_nil rfl rfl | exact Y_add' rfl rfl (w64 (by omega) (by omega)) | exact Y_add' rfl rfl (wu64 (by omega) (by omega)) | exact Y_slhi rfl rfl (by omega) (by omega) | exact Y_sllo rfl rfl (by omega) (by omega) (by omega) | exact Y_sllh rfl rfl rfl (by omega) (by omega) (by omega) | exact Y_slhm rfl rfl rfl (by omega) (by omega) (by omega) | exact Y_sllhm rfl rfl rfl rfl (by omega) (by omega) (by omega) (by omega) | exact Y_len_slice rfl | fail) rfl ?_
            | refine T_store rfl rfl rfl (by (repeat (first | exact .h | apply Pick.t)); done) rfl ?_ | refine T_storeAt rfl rfl (by (repeat (first | exact .h | apply Pick.t)); done) (by rfl) (by rfl) (by rfl) ?_
            | exact E_fin1 (.inl rfl) rfl rfl rfl (by (repeat (first | exact .nil | exact .refl _ | exact .h | apply Pick.t | apply Picks.cons | apply Picks.skip)); done)
            | exact E_fin1 (.inr rfl) rfl rfl rfl (by (repeat (first | exact .nil | exact .refl _ | exact .h | apply Pick.t | apply Picks.cons | apply Picks.skip)); done)
            | exact E_fin2 (.inl rfl) rfl rfl rfl rfl (by (repeat (first | exact .nil | exact .refl _ | exact .h | apply Pick.t | apply Picks.cons | apply Picks.skip)); done)
            | exact E_fin2 (.inr rfl) rfl rfl rfl rfl (by (repeat (first | exact .nil | exact .refl _ | exact .h | apply Pick.t | apply Picks.cons | apply Picks.skip)); done)
            | exact E_fin3 (.inl rfl) rfl rfl rfl rfl rfl (by (repeat (first | exact .nil | exact .refl _ | exact .h | apply Pick.t | apply Picks.cons | apply Picks.skip)); done)
            | exact E_fin3 (.inr rfl) rfl rfl rfl rfl rfl (by (repeat (first | exact .nil | exact .refl _ | exact .h | apply Pick.t | apply Picks.cons | apply Picks.skip)); done)
            | exact E_fin0 (.inl rfl) rfl (by (repeat (first | exact .nil | exact .refl _ | exact .h | apply Pick.t | apply Picks.cons | apply Picks.skip)); done)
            | exact E_fin0 (.inr rfl) rfl (by (repeat (first | exact .nil | exact .refl _ | exact .h | apply Pick.t | apply Picks.cons | apply Picks.skip)); done) | fail)
          refine N_rk (i := (j, m :: ms)) (j + 1, ms ++ [u64v x]) ⟨hlt2, by simp, ?_, one_append (fun u hu => h1m u (List.mem_cons_of_mem _ hu)) (one_map (fun _ => rfl) [x])⟩ (by show xs.length - (j + 1) < xs.length - j; omega) ⟨rfl, ?_, trivial⟩ ⟨rfl, rfl, trivial⟩ fun w hs => ?_
          · show (List.filter _ _).length + _ = j + 1
            rw [e4]; simp; omega
          · show some (i64v (fl.length + 1)) = some (i64v ((xs.take (j + 1)).filter (! q ·)).length)
            rw [e4]; simp
          · show sat (cl b (pre ++ (((xs.take (j + 1)).filter (! q ·)).map u64v ++ (ms ++ [u64v x]) ++ (xs.drop (j + 1)).map u64v) ++ spare) 36 :: D :: F) w
            rw [e4]
            exact sat_ord (by (repeat (first | exact .nil | exact .refl _ | exact .h | apply Pick.t | apply Picks.cons)); done) hs
      · have ej : j = xs.length := by omega
        subst ej
        rw [List.take_length] at hfl
        rw [hfl, List.drop_length]
        have e6 : so c fl.length pre.length 1 = pre.length + fl.length := by rw [so_lt (by omega), Nat.mul_one]
        repeat (first
          | refine H_seq ?_ | refine H_block ?_ | refine H_region ?_ | refine TL_nil ?_ | refine N_then ?_ | refine N_block ?_ | refine H_skip ?_ | refine H_ret ?_ | refine R_then ?_ | refine R_block ?_
          | refine H_exit ?_ | refine X_then ?_ | refine X_block_eq ?_ | refine X_block_ne rfl ?_ | refine H_cond_t rfl ?_ | refine H_cond_f rfl ?_
          | refine TL_y (by first | exact Y_move rfl | exact Y_assign rfl | exact Y_load rfl (Vl_cl (by (repeat (first | exact .h | apply Pick.t)); done) rfl) | exact Y_load rfl (by assumption) | exact Y_indexAddr rfl rfl (by omega) (by first | omega | (simp only [List.length_cons]; omega)) | exact Y_load rfl (Vl_elem (by (repeat (first | exact .h | apply Pick.t)); done) (by assumption)) | exact Y_loadAt rfl (by (repeat (first | exact .h | apply Pick.t)); done) (by rfl) | exact Y_not rfl | exact Y_lssd rfl rfl (by first | exact decide_eq_true (by omega) | exact decide_eq_false (by omega)) | exact Y_lss rfl rfl | exact Y_eqld rfl rfl (by first | exact decide_eq_true (by omega) | exact decide_eq_false (by omega)) | exact Y_eql rfl rfl | exact Y_eql_nil rfl rfl | exact Y_slice_eq_nil rfl rfl | exact Y_map_eq_nil rfl rfl | exact Y_add' rfl rfl (w64 (by omega) (by omega)) | exact Y_add' rfl rfl (wu64 (by omega) (by omega)) | exact Y_slhi rfl rfl (by omega) (by omega) | exact Y_sllo rfl rfl (by omega) (by omega) (by omega) | exact Y_sllh rfl rfl rfl (by omega) (by omega) (by omega) | exact Y_slhm rfl rfl rfl (by omega) (by omega) (by omega) | exact Y_sllhm rfl rfl rfl rfl (by omega) (by omega) (by omega) (by omega) | exact Y_len_slice rfl | fail) rfl ?_
          | refine T_store rfl rfl rfl (by (repeat (first | exact .h | apply Pick.t)); done) rfl ?_ | refine T_storeAt rfl rfl (by (repeat (first | exact .h | apply Pick.t)); done) (by rfl) (by rfl) (by rfl) ?_
          | exact E_fin1 (.inl rfl) rfl rfl rfl (by (repeat (first | exact .nil | exact .refl _ | exact .h | apply Pick.t | apply Picks.cons | apply Picks.skip)); done)
          | exact E_fin1 (.inr rfl) rfl rfl rfl (by (repeat (first | exact .nil | exact .refl _ | exact .h | apply Pick.t | apply Picks.cons | apply Picks.skip)); done)
          | exact E_fin2 (.inl rfl) rfl rfl rfl rfl (by (repeat (first | exact .nil | exact .refl _ | exact .h | apply Pick.t | apply Picks.cons | apply Picks.skip)); done)
          | exact E_fin2 (.inr rfl) rfl rfl rfl rfl (by (repeat (first | exact .nil | exact .refl _ | exact .h | apply Pick.t | apply Picks.cons | apply Picks.skip)); done)
          | exact E_fin3 (.inl rfl) rfl rfl rfl rfl rfl (by (repeat (first | exact .nil | exact .refl _ | exact .h | apply Pick.t | apply Picks.cons | apply Picks.skip)); done)
          | exact E_fin3 (.inr rfl) rfl rfl rfl rfl rfl (by (repeat (first | exact .nil | exact .refl _ | exact .h | apply Pick.t | apply Picks.cons | apply Picks.skip)); done)
          | exact E_fin0 (.inl rfl) rfl (by (repeat (first | exact .nil | exact .refl _ | exact .h | apply Pick.t | apply Picks.cons | apply Picks.skip)); done)
          | exact E_fin0 (.inr rfl) rfl (by (repeat (first | exact .nil | exact .refl _ | exact .h | apply Pick.t | apply Picks.cons | apply Picks.skip)); done) | fail)
        refine T_clearAt rfl .h (ones_one rfl) (by show so c fl.length pre.length 1 + (xs.length - fl.length) * 1 ≤ _; rw [e6]; simp; omega) ?_
        have e7 : put (pre ++ (fl.map u64v ++ (m :: ms) ++ ([] : List Int).map u64v) ++ spare) (so c (fl.length : Int).toNat pre.length 1) (Builtin.zeroCells (Value.int .u64 0).cells (xs.length - (fl.length : Int).toNat)).toList = pre ++ fl.map u64v ++ ((Builtin.zeroCells (Value.int .u64 0).cells (xs.length - fl.length)).toList ++ spare) := by
          rw [Int.toNat_natCast, e6]
          have := put_mid (pre := pre ++ fl.map u64v) (mid := m :: ms) (ys := (Builtin.zeroCells (Value.int .u64 0).cells (xs.length - fl.length)).toList) (spare := spare) (by rw [zero_len rfl]; simp; omega)
          rw [List.length_append, List.length_map] at this
          simpa using this
        refine H_slcclose .h e7 (k := fl.length) (c := c) (sz := 1) (by omega) hcm (by simp) (by rw [List.length_append, zero_len rfl]; omega) (one_map (fun _ => rfl) fl) ?_
        repeat (first
          | refine H_seq ?_ | refine H_block ?_ | refine H_region ?_ | refine TL_nil ?_ | refine N_then ?_ | refine N_block ?_ | refine H_skip ?_ | refine H_ret ?_ | refine R_then ?_ | refine R_block ?_
          | refine H_exit ?_ | refine X_then ?_ | refine X_block_eq ?_ | refine X_block_ne rfl ?_ | refine H_cond_t rfl ?_ | refine H_cond_f rfl ?_
          | refine TL_y (by first | exact Y_move rfl | exact Y_assign rfl | exact Y_load rfl (Vl_cl (by (repeat (first | exact .h | apply Pick.t)); done) rfl) | exact Y_load rfl (by assumption) | exact Y_indexAddr rfl rfl (by omega) (by first | omega | (simp only [List.length_cons]; omega)) | exact Y_load rfl (Vl_elem (by (repeat (first | exact .h | apply Pick.t)); done) (by assumption)) | exact Y_loadAt rfl (by (repeat (first | exact .h | apply Pick.t)); done) (by rfl) | exact Y_not rfl | exact Y_lssd rfl rfl (by first | exact decide_eq_true (by omega) | exact decide_eq_false (by omega)) | exact Y_lss rfl rfl | exact Y_eqld rfl rfl (by first | exact decide_eq_true (by omega) | exact decide_eq_false (by omega)) | exact Y_eql rfl rfl | exact Y_eql_nil rfl rfl | exact Y_slice_eq_nil rfl rfl | exact Y_map_eq_nil rfl rfl | exact Y_add' rfl rfl (w64 (by omega) (by omega)) | exact Y_add' rfl rfl (wu64 (by omega) (by omega)) | exact Y_slhi rfl rfl (by omega) (by omega) | exact Y_sllo rfl rfl (by omega) (by omega) (by omega) | exact Y_sllh rfl rfl rfl (by omega) (by omega) (by omega) | exact Y_slhm rfl rfl rfl (by omega) (by omega) (by omega) | exact Y_sllhm rfl rfl rfl rfl (by omega) (by omega) (by omega) (by omega) | exact Y_len_slice rfl | fail) rfl ?_
          | refine T_store rfl rfl rfl (by (repeat (first | exact .h | apply Pick.t)); done) rfl ?_ | refine T_storeAt rfl rfl (by (repeat (first | exact .h | apply Pick.t)); done) (by rfl) (by rfl) (by rfl) ?_
          | exact E_fin1 (.inl rfl) rfl rfl rfl (by (repeat (first | exact .nil | exact .refl _ | exact .h | apply Pick.t | apply Picks.cons | apply Picks.skip)); done)
          | exact E_fin1 (.inr rfl) rfl rfl rfl (by (repeat (first | exact .nil | exact .refl _ | exact .h | apply Pick.t | apply Picks.cons | apply Picks.skip)); done)
          | exact E_fin2 (.inl rfl) rfl rfl rfl rfl (by (repeat (first | exact .nil | exact .refl _ | exact .h | apply Pick.t | apply Picks.cons | apply Picks.skip)); done)
          | exact E_fin2 (.inr rfl) rfl rfl rfl rfl (by (repeat (first | exact .nil | exact .refl _ | exact .h | apply Pick.t | apply Picks.cons | apply Picks.skip)); done)
          | exact E_fin3 (.inl rfl) rfl rfl rfl rfl rfl (by (repeat (first | exact .nil | exact .refl _ | exact .h | apply Pick.t | apply Picks.cons | apply Picks.skip)); done)
          | exact E_fin3 (.inr rfl) rfl rfl rfl rfl rfl (by (repeat (first | exact .nil | exact .refl _ | exact .h | apply Pick.t | apply Picks.cons | apply Picks.skip)); done)
          | exact E_fin0 (.inl rfl) rfl (by (repeat (first | exact .nil | exact .refl _ | exact .h | apply Pick.t | apply Picks.cons | apply Picks.skip)); done)
          | exact E_fin0 (.inr rfl) rfl (by (repeat (first | exact .nil | exact .refl _ | exact .h | apply Pick.t | apply Picks.cons | apply Picks.skip)); done) | fail)
        exact X_fin1 () (by trivial) (by first | exact .inl rfl | exact .inr rfl) (by rfl) (by rfl) (by rfl) (by (repeat (first | exact .nil | exact .refl _ | exact .h | apply Pick.t | apply Picks.cons | apply Picks.skip)); done)
  · have e1 : idxq q xs = -1 := by simp [idxq, hq]
    have e2 : xs.filter (! q ·) = xs := List.filter_eq_self.2 fun x hx => by
      have := List.any_eq_false.1 (by simpa using hq) x hx; simpa using this
    rw [e2]
    have hix := indexFunc_u64 (a := a) (c := c) hd hk
    rw [e1] at hix
    repeat (first
      | refine H_seq ?_ | refine H_block ?_ | refine H_region ?_ | refine TL_nil ?_ | refine N_then ?_ | refine N_block ?_ | refine H_skip ?_ | refine H_ret ?_ | refine R_then ?_ | refine R_block ?_ | refine H_exit ?_
      | refine X_then ?_ | refine X_block_eq ?_ | refine X_block_ne rfl ?_ | refine H_cond_t rfl ?_ | refine H_cond_f rfl ?_
      | refine TL_y (by first | exact Y_move rfl | exact Y_assign rfl | exact Y_load rfl (Vl_cl (by (repeat (first | exact .h | apply Pick.t)); done) rfl) | exact Y_load rfl (by assumption) | exact Y_indexAddr rfl rfl (by omega) (by first | omega | (simp only [List.length_cons]; omega)) | exact Y_load rfl (Vl_elem (by (repeat (first | exact .h | apply Pick.t)); done) (by assumption)) | exact Y_loadAt rfl (by (repeat (first | exact .h | apply Pick.t)); done) (by rfl) | exact Y_not rfl | exact Y_lssd rfl rfl (by first | exact decide_eq_true (by omega) | exact decide_eq_false (by omega)) | exact Y_lss rfl rfl | exact Y_eqld rfl rfl (by first | exact decide_eq_true (by omega) | exact decide_eq_false (by omega)) | exact Y_eql rfl rfl | exact Y_eql_nil rfl rfl | exact Y_slice_eq_nil rfl rfl | exact Y_map_eq_nil rfl rfl | exact Y_add' rfl rfl (w64 (by omega) (by omega)) | exact Y_add' rfl rfl (wu64 (by omega) (by omega)) | exact Y_slhi rfl rfl (by omega) (by omega) | exact Y_sllo rfl rfl (by omega) (by omega) (by omega) | exact Y_sllh rfl rfl rfl (by omega) (by omega) (by omega) | exact Y_slhm rfl rfl rfl (by omega) (by omega) (by omega) | exact Y_sllhm rfl rfl rfl rfl (by omega) (by omega) (by omega) (by omega) | exact Y_len_slice rfl | fail) rfl ?_
      | refine T_store rfl rfl rfl (by (repeat (first | exact .h | apply Pick.t)); done) rfl ?_ | refine T_storeAt rfl rfl (by (repeat (first | exact .h | apply Pick.t)); done) (by rfl) (by rfl) (by rfl) ?_
      | refine T_callA rfl rfl (by (repeat (first | exact .nil | exact .refl _ | exact .h | apply Pick.t | apply Picks.cons)); done) hix ?_
      | exact E_fin1 (.inl rfl) rfl rfl rfl (by (repeat (first | exact .nil | exact .refl _ | exact .h | apply Pick.t | apply Picks.cons | apply Picks.skip)); done)
      | exact E_fin1 (.inr rfl) rfl rfl rfl (by (repeat (first | exact .nil | exact .refl _ | exact .h | apply Pick.t | apply Picks.cons | apply Picks.skip)); done)
      | exact E_fin2 (.inl rfl) rfl rfl rfl rfl (by (repeat (first | exact .nil | exact .refl _ | exact .h | apply Pick.t | apply Picks.cons | apply Picks.skip)); done)
      | exact E_fin2 (.inr rfl) rfl rfl rfl rfl (by (repeat (first | exact .nil | exact .refl _ | exact .h | apply Pick.t | apply Picks.cons | apply Picks.skip)); done)
      | exact E_fin3 (.inl rfl) rfl rfl rfl rfl rfl (by (repeat (first | exact .nil | exact .refl _ | exact .h | apply Pick.t | apply Picks.cons | apply Picks.skip)); done)
      | exact E_fin3 (.inr rfl) rfl rfl rfl rfl rfl (by (repeat (first | exact .nil | exact .refl _ | exact .h | apply Pick.t | apply Picks.cons | apply Picks.skip)); done)
      | exact E_fin0 (.inl rfl) rfl (by (repeat (first | exact .nil | exact .refl _ | exact .h | apply Pick.t | apply Picks.cons | apply Picks.skip)); done)
      | exact E_fin0 (.inr rfl) rfl (by (repeat (first | exact .nil | exact .refl _ | exact .h | apply Pick.t | apply Picks.cons | apply Picks.skip)); done) | fail)
    exact X_fin1 () (by trivial) (by first | exact .inl rfl | exact .inr rfl) (by rfl) (by rfl) (by rfl) (by (repeat (first | exact .nil | exact .refl _ | exact .h | apply Pick.t | apply Picks.cons | apply Picks.skip)); done)
end Go.Proofs
namespace Go.Proofs
open Go Go.SL
attribute [local irreducible] H W TL XL Y cl mp slc
set_option maxRecDepth 20000
set_option maxHeartbeats 1000000

/-- a queue: its tickets, the last one that has come -/
def tq (p : Nat) (xs : List Int) (last : Int) : Asn := ex fun y : Option Addr × Nat => stars [cl p [.slice y.1 xs.length y.2, u64v last] 105, slc 36 1 y.1 xs.length y.2 (xs.map u64v)]
section
variable {n : Nat} {ds : List Deferred} {S : Sp} {L : List Asn} {G : Act → World → Prop}
theorem H_tq {p : Nat} {xs : List Int} {last : Int} {L' : List Asn} (pk : Pick (tq p xs last) L L') (h : ∀ a c, H n ds S (cl p [.slice a xs.length c, u64v last] 105 :: slc 36 1 a xs.length c (xs.map u64v) :: L') G) : H n ds S L G :=
  H_pick pk (H_ex fun y => H_big (h y.1 y.2))
theorem sat_tqc {w : World} {p : Nat} {a : Option Addr} {c k : Nat} {xs : List Int} {last : Int} {L' : List Asn} (hk : k = xs.length) (hp : Picks [cl p [.slice a k c, u64v last] 105, slc 36 1 a k c (xs.map u64v)] L L') (hs : sat L w) : sat (tq p xs last :: L') w := by
  subst hk
  exact sat_ex.2 ⟨(a, c), sat_big.2 (hp.sat hs)⟩
theorem H_tqc {p : Nat} {a : Option Addr} {c k : Nat} {xs : List Int} {last : Int} {L' : List Asn} (hk : k = xs.length) (hp : Picks [cl p [.slice a k c, u64v last] 105, slc 36 1 a k c (xs.map u64v)] L L') (h : H n ds S (tq p xs last :: L') G) : H n ds S L G :=
  H_to h fun _ hs => sat_tqc hk hp hs
end
attribute [local irreducible] tq

theorem tq_len {p : Nat} {xs : List Int} {last : Int} : CtA Try.prog 132 [ptrv p] [tq p xs last] (i64v xs.length) fun F => tq p xs last :: F := by
  intro F; simp only [List.cons_append, List.nil_append]; refine Ct_of Try.func132 rfl (n := 10) rfl rfl ?_
  refine H_tq .h fun a c => ?_
  repeat (first
    | refine H_seq ?_ | refine H_block ?_ | refine H_region ?_ | refine TL_nil ?_ | refine N_then ?_ | refine N_block ?_ | refine H_skip ?_ | refine H_ret ?_ | refine R_then ?_ | refine R_block ?_ | refine H_exit ?_
    | refine X_then ?_ | refine X_block_eq ?_ | refine X_block_ne rfl ?_ | refine H_cond_t rfl ?_ | refine H_cond_f rfl ?_
    | refine TL_y (by first | exact Y_move rfl | exact Y_assign rfl | exact Y_nilCheck rfl | exact Y_nilCheckF rfl | exact Y_fieldAddr rfl | exact Y_load rfl (Vl_cl (by (repeat (first | exact .h | apply Pick.t)); done) rfl) | exact Y_load rfl (by assumption) | exact Y_loadAt rfl (by (repeat (first | exact .h | apply Pick.t)); done) (by rfl) | exact Y_eqld rfl rfl (by first | exact decide_eq_true (by omega) | exact decide_eq_false (by omega)) | exact Y_eql rfl rfl | exact Y_eql_nil rfl rfl | exact Y_slice_eq_nil rfl rfl | exact Y_map_eq_nil rfl rfl | exact Y_len_slice rfl | fail) rfl ?_
    | refine H_tqc rfl (by (repeat (first | exact .nil | exact .refl _ | exact .h | apply Pick.t | apply Picks.cons)); done) ?_
    | exact E_fin1 (.inl rfl) rfl rfl rfl (by (repeat (first | exact .nil | exact .refl _ | exact .h | apply Pick.t | apply Picks.cons | apply Picks.skip)); done)
    | exact E_fin1 (.inr rfl) rfl rfl rfl (by (repeat (first | exact .nil | exact .refl _ | exact .h | apply Pick.t | apply Picks.cons | apply Picks.skip)); done)
    | exact E_fin2 (.inl rfl) rfl rfl rfl rfl (by (repeat (first | exact .nil | exact .refl _ | exact .h | apply Pick.t | apply Picks.cons | apply Picks.skip)); done)
    | exact E_fin2 (.inr rfl) rfl rfl rfl rfl (by (repeat (first | exact .nil | exact .refl _ | exact .h | apply Pick.t | apply Picks.cons | apply Picks.skip)); done)
    | exact E_fin3 (.inl rfl) rfl rfl rfl rfl rfl (by (repeat (first | exact .nil | exact .refl _ | exact .h | apply Pick.t | apply Picks.cons | apply Picks.skip)); done)
    | exact E_fin3 (.inr rfl) rfl rfl rfl rfl rfl (by (repeat (first | exact .nil | exact .refl _ | exact .h | apply Pick.t | apply Picks.cons | apply Picks.skip)); done)
    | exact E_fin0 (.inl rfl) rfl (by (repeat (first | exact .nil | exact .refl _ | exact .h | apply Pick.t | apply Picks.cons | apply Picks.skip)); done)
    | exact E_fin0 (.inr rfl) rfl (by (repeat (first | exact .nil | exact .refl _ | exact .h | apply Pick.t | apply Picks.cons | apply Picks.skip)); done) | fail)
theorem tq_first {p : Nat} {x : Int} {xs : List Int} {last : Int} : CtA Try.prog 86 [ptrv p] [tq p (x :: xs) last] (.tuple #[u64v x, .bool true]) fun F => tq p (x :: xs) last :: F := by
  intro F; simp only [List.cons_append, List.nil_append]; refine Ct_of Try.func86 rfl (n := 13) rfl rfl ?_
  repeat (first
    | refine H_seq ?_ | refine H_block ?_ | refine H_region ?_ | refine TL_nil ?_ | refine N_then ?_ | refine N_block ?_ | refine H_skip ?_ | refine H_ret ?_ | refine R_then ?_ | refine R_block ?_ | refine H_exit ?_
    | refine X_then ?_ | refine X_block_eq ?_ | refine X_block_ne rfl ?_ | refine H_cond_t rfl ?_ | refine H_cond_f rfl ?_
    | refine TL_y (by first | exact Y_move rfl | exact Y_assign rfl | exact Y_nilCheck rfl | exact Y_nilCheckF rfl | exact Y_fieldAddr rfl | exact Y_load rfl (Vl_cl (by (repeat (first | exact .h | apply Pick.t)); done) rfl) | exact Y_load rfl (by assumption) | exact Y_indexAddr rfl rfl (by omega) (by first | omega | (simp only [List.length_cons]; omega)) | exact Y_load rfl (Vl_elem (by (repeat (first | exact .h | apply Pick.t)); done) (by assumption)) | exact Y_loadAt rfl (by (repeat (first | exact .h | apply Pick.t)); done) (by rfl) | exact Y_eqld rfl rfl (by first | exact decide_eq_true (by omega) | exact decide_eq_false (by omega)) | exact Y_eql rfl rfl | exact Y_eql_nil rfl rfl | exact Y_slice_eq_nil rfl rfl | exact Y_map_eq_nil rfl rfl | fail) rfl ?_
    | refine T_callA rfl rfl (by (repeat (first | exact .nil | exact .refl _ | exact .h | apply Pick.t | apply Picks.cons)); done) tq_len ?_
    | exact E_fin1 (.inl rfl) rfl rfl rfl (by (repeat (first | exact .nil | exact .refl _ | exact .h | apply Pick.t | apply Picks.cons | apply Picks.skip)); done)
    | exact E_fin1 (.inr rfl) rfl rfl rfl (by (repeat (first | exact .nil | exact .refl _ | exact .h | apply Pick.t | apply Picks.cons | apply Picks.skip)); done)
    | exact E_fin2 (.inl rfl) rfl rfl rfl rfl (by (repeat (first | exact .nil | exact .refl _ | exact .h | apply Pick.t | apply Picks.cons | apply Picks.skip)); done)
    | exact E_fin2 (.inr rfl) rfl rfl rfl rfl (by (repeat (first | exact .nil | exact .refl _ | exact .h | apply Pick.t | apply Picks.cons | apply Picks.skip)); done)
    | exact E_fin3 (.inl rfl) rfl rfl rfl rfl rfl (by (repeat (first | exact .nil | exact .refl _ | exact .h | apply Pick.t | apply Picks.cons | apply Picks.skip)); done)
    | exact E_fin3 (.inr rfl) rfl rfl rfl rfl rfl (by (repeat (first | exact .nil | exact .refl _ | exact .h | apply Pick.t | apply Picks.cons | apply Picks.skip)); done)
    | exact E_fin0 (.inl rfl) rfl (by (repeat (first | exact .nil | exact .refl _ | exact .h | apply Pick.t | apply Picks.cons | apply Picks.skip)); done)
    | exact E_fin0 (.inr rfl) rfl (by (repeat (first | exact .nil | exact .refl _ | exact .h | apply Pick.t | apply Picks.cons | apply Picks.skip)); done) | fail)
  refine H_tq .h fun a c => ?_
  refine H_slccase (.t .h) (fun _ e => by simp at e) fun b o e => ?_
  subst e
  have hx : (x :: xs)[(0 : Int).toNat]? = some x := rfl
  repeat (first
    | refine H_seq ?_ | refine H_block ?_ | refine H_region ?_ | refine TL_nil ?_ | refine N_then ?_ | refine N_block ?_ | refine H_skip ?_ | refine H_ret ?_ | refine R_then ?_ | refine R_block ?_ | refine H_exit ?_
    | refine X_then ?_ | refine X_block_eq ?_ | refine X_block_ne rfl ?_ | refine H_cond_t rfl ?_ | refine H_cond_f rfl ?_
    | refine TL_y (by first | exact Y_move rfl | exact Y_assign rfl | exact Y_nilCheck rfl | exact Y_nilCheckF rfl | exact Y_fieldAddr rfl | exact Y_load rfl (Vl_cl (by (repeat (first | exact .h | apply Pick.t)); done) rfl) | exact Y_load rfl (by assumption) | exact Y_indexAddr rfl rfl (by omega) (by first | omega | (simp only [List.length_cons]; omega)) | exact Y_load rfl (Vl_elem (by (repeat (first | exact .h | apply Pick.t)); done) (by assumption)) | exact Y_loadAt rfl (by (repeat (first | exact .h | apply Pick.t)); done) (by rfl) | exact Y_eqld rfl rfl (by first | exact decide_eq_true (by omega) | exact decide_eq_false (by omega)) | exact Y_eql rfl rfl | exact Y_eql_nil rfl rfl | exact Y_slice_eq_nil rfl rfl | exact Y_map_eq_nil rfl rfl | fail) rfl ?_
    | exact E_fin1 (.inl rfl) rfl rfl rfl (by (repeat (first | exact .nil | exact .refl _ | exact .h | apply Pick.t | apply Picks.cons | apply Picks.skip)); done)
    | exact E_fin1 (.inr rfl) rfl rfl rfl (by (repeat (first | exact .nil | exact .refl _ | exact .h | apply Pick.t | apply Picks.cons | apply Picks.skip)); done)
    | exact E_fin2 (.inl rfl) rfl rfl rfl rfl (by (repeat (first | exact .nil | exact .refl _ | exact .h | apply Pick.t | apply Picks.cons | apply Picks.skip)); done)
    | exact E_fin2 (.inr rfl) rfl rfl rfl rfl (by (repeat (first | exact .nil | exact .refl _ | exact .h | apply Pick.t | apply Picks.cons | apply Picks.skip)); done)
    | exact E_fin3 (.inl rfl) rfl rfl rfl rfl rfl (by (repeat (first | exact .nil | exact .refl _ | exact .h | apply Pick.t | apply Picks.cons | apply Picks.skip)); done)
    | exact E_fin3 (.inr rfl) rfl rfl rfl rfl rfl (by (repeat (first | exact .nil | exact .refl _ | exact .h | apply Pick.t | apply Picks.cons | apply Picks.skip)); done)
    | exact E_fin0 (.inl rfl) rfl (by (repeat (first | exact .nil | exact .refl _ | exact .h | apply Pick.t | apply Picks.cons | apply Picks.skip)); done)
    | exact E_fin0 (.inr rfl) rfl (by (repeat (first | exact .nil | exact .refl _ | exact .h | apply Pick.t | apply Picks.cons | apply Picks.skip)); done) | fail)
  refine H_tqc rfl (by (repeat (first | exact .nil | exact .refl _ | exact .h | apply Pick.t | apply Picks.cons)); done) ?_
  exact E_fin2 (by first | exact .inl rfl | exact .inr rfl) (by rfl) (by rfl) (by rfl) (by rfl) (by (repeat (first | exact .nil | exact .refl _ | exact .h | apply Pick.t | apply Picks.cons | apply Picks.skip)); done)
theorem tq_first0 {p : Nat} {last : Int} : CtA Try.prog 86 [ptrv p] [tq p [] last] (.tuple #[u64v 0, .bool false]) fun F => tq p [] last :: F := by
  intro F; simp only [List.cons_append, List.nil_append]; refine Ct_of Try.func86 rfl (n := 13) rfl rfl ?_
  repeat (first
    | refine H_seq ?_ | refine H_block ?_ | refine H_region ?_ | refine TL_nil ?_ | refine N_then ?_ | refine N_block ?_ | refine H_skip ?_ | refine H_ret ?_ | refine R_then ?_ | refine R_block ?_ | refine H_exit ?_
    | refine X_then ?_ | refine X_block_eq ?_ | refine X_block_ne rfl ?_ | refine H_cond_t rfl ?_ | refine H_cond_f rfl ?_
    | refine TL_y (by first | exact Y_move rfl | exact Y_assign rfl | exact Y_nilCheck rfl | exact Y_nilCheckF rfl | exact Y_fieldAddr rfl | exact Y_load rfl (Vl_cl (by (repeat (first | exact .h | apply Pick.t)); done) rfl) | exact Y_load rfl (by assumption) | exact Y_indexAddr rfl rfl (by omega) (by first | omega | (simp only [List.length_cons]; omega)) | exact Y_load rfl (Vl_elem (by (repeat (first | exact .h | apply Pick.t)); done) (by assumption)) | exact Y_loadAt rfl (by (repeat (first | exact .h | apply Pick.t)); done) (by rfl) | exact Y_eqld rfl rfl (by first | exact decide_eq_true (by omega) | exact decide_eq_false (by omega)) | exact Y_eql rfl rfl | exact Y_eql_nil rfl rfl | exact Y_slice_eq_nil rfl rfl | exact Y_map_eq_nil rfl rfl | fail) rfl ?_
    | refine T_callA rfl rfl (by (repeat (first | exact .nil | exact .refl _ | exact .h | apply Pick.t | apply Picks.cons)); done) tq_len ?_
    | exact E_fin1 (.inl rfl) rfl rfl rfl (by (repeat (first | exact .nil | exact .refl _ | exact .h | apply Pick.t | apply Picks.cons | apply Picks.skip)); done)
    | exact E_fin1 (.inr rfl) rfl rfl rfl (by (repeat (first | exact .nil | exact .refl _ | exact .h | apply Pick.t | apply Picks.cons | apply Picks.skip)); done)
    | exact E_fin2 (.inl rfl) rfl rfl rfl rfl (by (repeat (first | exact .nil | exact .refl _ | exact .h | apply Pick.t | apply Picks.cons | apply Picks.skip)); done)
    | exact E_fin2 (.inr rfl) rfl rfl rfl rfl (by (repeat (first | exact .nil | exact .refl _ | exact .h | apply Pick.t | apply Picks.cons | apply Picks.skip)); done)
    | exact E_fin3 (.inl rfl) rfl rfl rfl rfl rfl (by (repeat (first | exact .nil | exact .refl _ | exact .h | apply Pick.t | apply Picks.cons | apply Picks.skip)); done)
    | exact E_fin3 (.inr rfl) rfl rfl rfl rfl rfl (by (repeat (first | exact .nil | exact .refl _ | exact .h | apply Pick.t | apply Picks.cons | apply Picks.skip)); done)
    | exact E_fin0 (.inl rfl) rfl (by (repeat (first | exact .nil | exact .refl _ | exact .h | apply Pick.t | apply Picks.cons | apply Picks.skip)); done)
    | exact E_fin0 (.inr rfl) rfl (by (repeat (first | exact .nil | exact .refl _ | exact .h | apply Pick.t | apply Picks.cons | apply Picks.skip)); done) | fail)
theorem tq_put {p : Nat} {x : Int} {xs : List Int} {last : Int} (h : last < x) (hk : xs.length ≤ 100000) : CtA Try.prog 72 [ptrv p, u64v x] [tq p xs last] (i64v 0) fun F => tq p (xs ++ [x]) x :: F := by
  intro F; simp only [List.cons_append, List.nil_append]; refine Ct_of Try.func72 rfl (n := 29) rfl rfl ?_
  refine H_tq .h fun a c => ?_
  refine H_slclen (.t .h) fun _ hm _ h1 => ?_
  repeat (first
    | refine H_seq ?_ | refine H_block ?_ | refine H_region ?_ | refine TL_nil ?_ | refine N_then ?_ | refine N_block ?_ | refine H_skip ?_ | refine H_ret ?_ | refine R_then ?_ | refine R_block ?_ | refine H_exit ?_
    | refine X_then ?_ | refine X_block_eq ?_ | refine X_block_ne rfl ?_ | refine H_cond_t rfl ?_ | refine H_cond_f rfl ?_
    | refine TL_y (by first | exact Y_move rfl | exact Y_assign rfl | exact Y_nilCheck rfl | exact Y_nilCheckF rfl | exact Y_fieldAddr rfl | exact Y_load rfl (Vl_cl (by (repeat (first | exact .h | apply Pick.t)); done) rfl) | exact Y_load rfl (by assumption) | exact Y_loadAt rfl (by (repeat (first | exact .h | apply Pick.t)); done) (by rfl) | exact Y_leqd rfl rfl (by first | exact decide_eq_true (by omega) | exact decide_eq_false (by omega)) | exact Y_leq rfl rfl | exact Y_eqld rfl rfl (by first | exact decide_eq_true (by omega) | exact decide_eq_false (by omega)) | exact Y_eql rfl rfl | exact Y_eql_nil rfl rfl | exact Y_slice_eq_nil rfl rfl | exact Y_map_eq_nil rfl rfl | fail) rfl ?_
    | refine T_store rfl rfl rfl (by (repeat (first | exact .h | apply Pick.t)); done) rfl ?_ | refine T_bs0 rfl fun b1 => ?_ | refine T_bs1 rfl rfl rfl fun b1 => ?_ | refine T_bsn rfl rfl rfl rfl rfl rfl fun b1 => ?_
    | refine T_storeAt rfl rfl (by (repeat (first | exact .h | apply Pick.t)); done) (by rfl) (by rfl) (by rfl) ?_
    | refine T_append rfl rfl (.t (.t .h)) (Rd_cl .h) rfl (one_map (fun _ => rfl) [x]) (by omega) (by simp only [maxLen]; omega) rfl fun a' c' => ?_
    | exact E_fin1 (.inl rfl) rfl rfl rfl (by (repeat (first | exact .nil | exact .refl _ | exact .h | apply Pick.t | apply Picks.cons | apply Picks.skip)); done)
    | exact E_fin1 (.inr rfl) rfl rfl rfl (by (repeat (first | exact .nil | exact .refl _ | exact .h | apply Pick.t | apply Picks.cons | apply Picks.skip)); done)
    | exact E_fin2 (.inl rfl) rfl rfl rfl rfl (by (repeat (first | exact .nil | exact .refl _ | exact .h | apply Pick.t | apply Picks.cons | apply Picks.skip)); done)
    | exact E_fin2 (.inr rfl) rfl rfl rfl rfl (by (repeat (first | exact .nil | exact .refl _ | exact .h | apply Pick.t | apply Picks.cons | apply Picks.skip)); done)
    | exact E_fin3 (.inl rfl) rfl rfl rfl rfl rfl (by (repeat (first | exact .nil | exact .refl _ | exact .h | apply Pick.t | apply Picks.cons | apply Picks.skip)); done)
    | exact E_fin3 (.inr rfl) rfl rfl rfl rfl rfl (by (repeat (first | exact .nil | exact .refl _ | exact .h | apply Pick.t | apply Picks.cons | apply Picks.skip)); done)
    | exact E_fin0 (.inl rfl) rfl (by (repeat (first | exact .nil | exact .refl _ | exact .h | apply Pick.t | apply Picks.cons | apply Picks.skip)); done)
    | exact E_fin0 (.inr rfl) rfl (by (repeat (first | exact .nil | exact .refl _ | exact .h | apply Pick.t | apply Picks.cons | apply Picks.skip)); done) | fail)
  rw [show List.map u64v xs ++ [u64v x] = (xs ++ [x]).map u64v by simp]
  refine H_tqc (k := xs.length + 1) (xs := xs ++ [x]) (by simp) (by (repeat (first | exact .nil | exact .refl _ | exact .h | apply Pick.t | apply Picks.cons)); done) ?_
  exact E_fin1 (by first | exact .inl rfl | exact .inr rfl) (by rfl) (by rfl) (by rfl) (by (repeat (first | exact .nil | exact .refl _ | exact .h | apply Pick.t | apply Picks.cons | apply Picks.skip)); done)
theorem tq_take {p : Nat} {x : Int} {xs : List Int} {last : Int} (hk : xs.length ≤ 100000) : CtA Try.prog 76 [ptrv p] [tq p (x :: xs) last] (.tuple #[u64v x, .bool true]) fun F => tq p xs last :: F := by
  intro F; simp only [List.cons_append, List.nil_append]; refine Ct_of Try.func76 rfl (n := 22) rfl rfl ?_
  repeat (first
    | refine H_seq ?_ | refine H_block ?_ | refine H_region ?_ | refine TL_nil ?_ | refine N_then ?_ | refine N_block ?_ | refine H_skip ?_ | refine H_ret ?_ | refine R_then ?_ | refine R_block ?_ | refine H_exit ?_
    | refine X_then ?_ | refine X_block_eq ?_ | refine X_block_ne rfl ?_ | refine H_cond_t rfl ?_ | refine H_cond_f rfl ?_
    | refine TL_y (by first | exact Y_move rfl | exact Y_assign rfl | exact Y_nilCheck rfl | exact Y_nilCheckF rfl | exact Y_fieldAddr rfl | exact Y_load rfl (Vl_cl (by (repeat (first | exact .h | apply Pick.t)); done) rfl) | exact Y_load rfl (by assumption) | exact Y_loadAt rfl (by (repeat (first | exact .h | apply Pick.t)); done) (by rfl) | exact Y_ext rfl rfl | fail) rfl ?_
    | refine T_store rfl rfl rfl (by (repeat (first | exact .h | apply Pick.t)); done) rfl ?_ | refine T_storeAt rfl rfl (by (repeat (first | exact .h | apply Pick.t)); done) (by rfl) (by rfl) (by rfl) ?_
    | refine T_callA rfl rfl (by (repeat (first | exact .nil | exact .refl _ | exact .h | apply Pick.t | apply Picks.cons)); done) tq_first ?_
    | exact E_fin1 (.inl rfl) rfl rfl rfl (by (repeat (first | exact .nil | exact .refl _ | exact .h | apply Pick.t | apply Picks.cons | apply Picks.skip)); done)
    | exact E_fin1 (.inr rfl) rfl rfl rfl (by (repeat (first | exact .nil | exact .refl _ | exact .h | apply Pick.t | apply Picks.cons | apply Picks.skip)); done)
    | exact E_fin2 (.inl rfl) rfl rfl rfl rfl (by (repeat (first | exact .nil | exact .refl _ | exact .h | apply Pick.t | apply Picks.cons | apply Picks.skip)); done)
    | exact E_fin2 (.inr rfl) rfl rfl rfl rfl (by (repeat (first | exact .nil | exact .refl _ | exact .h | apply Pick.t | apply Picks.cons | apply Picks.skip)); done)
    | exact E_fin3 (.inl rfl) rfl rfl rfl rfl rfl (by (repeat (first | exact .nil | exact .refl _ | exact .h | apply Pick.t | apply Picks.cons | apply Picks.skip)); done)
    | exact E_fin3 (.inr rfl) rfl rfl rfl rfl rfl (by (repeat (first | exact .nil | exact .refl _ | exact .h | apply Pick.t | apply Picks.cons | apply Picks.skip)); done)
    | exact E_fin0 (.inl rfl) rfl (by (repeat (first | exact .nil | exact .refl _ | exact .h | apply Pick.t | apply Picks.cons | apply Picks.skip)); done)
    | exact E_fin0 (.inr rfl) rfl (by (repeat (first | exact .nil | exact .refl _ | exact .h | apply Pick.t | apply Picks.cons | apply Picks.skip)); done) | fail)
  refine H_tq .h fun a c => ?_
  repeat (first
    | refine H_seq ?_ | refine H_block ?_ | refine H_region ?_ | refine TL_nil ?_ | refine N_then ?_ | refine N_block ?_ | refine H_skip ?_ | refine H_ret ?_ | refine R_then ?_ | refine R_block ?_ | refine H_exit ?_
    | refine X_then ?_ | refine X_block_eq ?_ | refine X_block_ne rfl ?_ | refine H_cond_t rfl ?_ | refine H_cond_f rfl ?_
    | refine TL_y (by first | exact Y_move rfl | exact Y_assign rfl | exact Y_nilCheck rfl | exact Y_nilCheckF rfl | exact Y_fieldAddr rfl | exact Y_load rfl (Vl_cl (by (repeat (first | exact .h | apply Pick.t)); done) rfl) | exact Y_load rfl (by assumption) | exact Y_loadAt rfl (by (repeat (first | exact .h | apply Pick.t)); done) (by rfl) | exact Y_ext rfl rfl | fail) rfl ?_
    | refine T_store rfl rfl rfl (by (repeat (first | exact .h | apply Pick.t)); done) rfl ?_ | refine T_storeAt rfl rfl (by (repeat (first | exact .h | apply Pick.t)); done) (by rfl) (by rfl) (by rfl) ?_
    | refine T_callE rfl rfl (by (repeat (first | exact .nil | exact .refl _ | exact .h | apply Pick.t | apply Picks.cons)); done) (delete_u64 (i := 0) (j := 1) (by omega) (by simp) (by simp; omega)) fun y _ => ?_
    | exact E_fin1 (.inl rfl) rfl rfl rfl (by (repeat (first | exact .nil | exact .refl _ | exact .h | apply Pick.t | apply Picks.cons | apply Picks.skip)); done)
    | exact E_fin1 (.inr rfl) rfl rfl rfl (by (repeat (first | exact .nil | exact .refl _ | exact .h | apply Pick.t | apply Picks.cons | apply Picks.skip)); done)
    | exact E_fin2 (.inl rfl) rfl rfl rfl rfl (by (repeat (first | exact .nil | exact .refl _ | exact .h | apply Pick.t | apply Picks.cons | apply Picks.skip)); done)
    | exact E_fin2 (.inr rfl) rfl rfl rfl rfl (by (repeat (first | exact .nil | exact .refl _ | exact .h | apply Pick.t | apply Picks.cons | apply Picks.skip)); done)
    | exact E_fin3 (.inl rfl) rfl rfl rfl rfl rfl (by (repeat (first | exact .nil | exact .refl _ | exact .h | apply Pick.t | apply Picks.cons | apply Picks.skip)); done)
    | exact E_fin3 (.inr rfl) rfl rfl rfl rfl rfl (by (repeat (first | exact .nil | exact .refl _ | exact .h | apply Pick.t | apply Picks.cons | apply Picks.skip)); done)
    | exact E_fin0 (.inl rfl) rfl (by (repeat (first | exact .nil | exact .refl _ | exact .h | apply Pick.t | apply Picks.cons | apply Picks.skip)); done)
    | exact E_fin0 (.inr rfl) rfl (by (repeat (first | exact .nil | exact .refl _ | exact .h | apply Pick.t | apply Picks.cons | apply Picks.skip)); done) | fail)
  try simp only [List.length_cons, Nat.add_sub_cancel, Nat.zero_add, List.take_zero, List.nil_append, List.map_cons, List.drop_succ_cons, List.drop_zero]
  refine H_tqc (xs := xs) rfl (by (repeat (first | exact .nil | exact .refl _ | exact .h | apply Pick.t | apply Picks.cons)); done) ?_
  exact E_fin2 (by first | exact .inl rfl | exact .inr rfl) (by rfl) (by rfl) (by rfl) (by rfl) (by (repeat (first | exact .nil | exact .refl _ | exact .h | apply Pick.t | apply Picks.cons | apply Picks.skip)); done)
theorem tq_copy {p : Nat} {xs : List Int} {last : Int} (hk : xs.length ≤ 100000) : CtE Try.prog 54 [ptrv p] [tq p xs last] (fun _ : Nat => True) (fun y => ptrv y) fun y F => tq p xs last :: tq y xs last :: F := by
  intro F; simp only [List.cons_append, List.nil_append]; refine Ct_of Try.func54 rfl (n := 16) rfl rfl ?_
  refine H_tq .h fun a c => ?_
  repeat (first
    | refine H_seq ?_ | refine H_block ?_ | refine H_region ?_ | refine TL_nil ?_ | refine N_then ?_ | refine N_block ?_ | refine H_skip ?_ | refine H_ret ?_ | refine R_then ?_ | refine R_block ?_ | refine H_exit ?_
    | refine X_then ?_ | refine X_block_eq ?_ | refine X_block_ne rfl ?_ | refine H_cond_t rfl ?_ | refine H_cond_f rfl ?_
    | refine TL_y (by first | exact Y_move rfl | exact Y_assign rfl | exact Y_nilCheck rfl | exact Y_nilCheckF rfl | exact Y_fieldAddr rfl | exact Y_load rfl (Vl_cl (by (repeat (first | exact .h | apply Pick.t)); done) rfl) | exact Y_load rfl (by assumption) | exact Y_loadAt rfl (by (repeat (first | exact .h | apply Pick.t)); done) (by rfl) | exact Y_eqld rfl rfl (by first | exact decide_eq_true (by omega) | exact decide_eq_false (by omega)) | exact Y_eql rfl rfl | exact Y_eql_nil rfl rfl | exact Y_slice_eq_nil rfl rfl | exact Y_map_eq_nil rfl rfl | exact Y_buildp rfl rfl rfl | fail) rfl ?_
    | refine T_box rfl rfl fun p1 => ?_ | refine T_callE rfl rfl (by (repeat (first | exact .nil | exact .refl _ | exact .h | apply Pick.t | apply Picks.cons)); done) (clone_64 (by omega)) fun y _ => ?_
    | refine X_y rfl (by first | exact Y_move rfl | exact Y_assign rfl | exact Y_nilCheck rfl | exact Y_nilCheckF rfl | exact Y_fieldAddr rfl | exact Y_load rfl (Vl_cl (by (repeat (first | exact .h | apply Pick.t)); done) rfl) | exact Y_load rfl (by assumption) | exact Y_loadAt rfl (by (repeat (first | exact .h | apply Pick.t)); done) (by rfl) | exact Y_eqld rfl rfl (by first | exact decide_eq_true (by omega) | exact decide_eq_false (by omega)) | exact Y_eql rfl rfl | exact Y_eql_nil rfl rfl | exact Y_slice_eq_nil rfl rfl | exact Y_map_eq_nil rfl rfl | exact Y_buildp rfl rfl rfl | fail) rfl ?_
    | refine X_loud rfl rfl ?_ | refine X_bar rfl ?_ | refine X_next (fun _ h => h) ?_
    | (refine X_next ?_ ?_; · exact fun _ h => sat_sub (by (repeat (first | exact .nil | exact .refl _ | exact .h | apply Pick.t | apply Picks.cons | apply Picks.skip)); done) h) | refine X_next (fun _ _ => sat_nil') ?_
    | refine X_nil ?_
    | refine H_draw (id := 3) 9999 _ [(0, false), (1, false), (2, false), (3, false), (5, false), (6, false), (7, false), (8, false), (4, true), (9, false), (10, true), (11, false)] (by kernel_rfl) (fun _ h => h) ?_
    | exact E_fin1 (.inl rfl) rfl rfl rfl (by (repeat (first | exact .nil | exact .refl _ | exact .h | apply Pick.t | apply Picks.cons | apply Picks.skip)); done)
    | exact E_fin1 (.inr rfl) rfl rfl rfl (by (repeat (first | exact .nil | exact .refl _ | exact .h | apply Pick.t | apply Picks.cons | apply Picks.skip)); done)
    | exact E_fin2 (.inl rfl) rfl rfl rfl rfl (by (repeat (first | exact .nil | exact .refl _ | exact .h | apply Pick.t | apply Picks.cons | apply Picks.skip)); done)
    | exact E_fin2 (.inr rfl) rfl rfl rfl rfl (by (repeat (first | exact .nil | exact .refl _ | exact .h | apply Pick.t | apply Picks.cons | apply Picks.skip)); done)
    | exact E_fin3 (.inl rfl) rfl rfl rfl rfl rfl (by (repeat (first | exact .nil | exact .refl _ | exact .h | apply Pick.t | apply Picks.cons | apply Picks.skip)); done)
    | exact E_fin3 (.inr rfl) rfl rfl rfl rfl rfl (by (repeat (first | exact .nil | exact .refl _ | exact .h | apply Pick.t | apply Picks.cons | apply Picks.skip)); done)
    | exact E_fin0 (.inl rfl) rfl (by (repeat (first | exact .nil | exact .refl _ | exact .h | apply Pick.t | apply Picks.cons | apply Picks.skip)); done)
    | exact E_fin0 (.inr rfl) rfl (by (repeat (first | exact .nil | exact .refl _ | exact .h | apply Pick.t | apply Picks.cons | apply Picks.skip)); done) | fail)
  refine H_tqc rfl (by (repeat (first | exact .nil | exact .refl _ | exact .h | apply Pick.t | apply Picks.cons)); done) ?_
  refine H_tqc rfl (by (repeat (first | exact .nil | exact .refl _ | exact .h | apply Pick.t | apply Picks.cons)); done) ?_
  exact X_fin1 p1 (by trivial) (by first | exact .inl rfl | exact .inr rfl) (by rfl) (by rfl) (by rfl) (by (repeat (first | exact .nil | exact .refl _ | exact .h | apply Pick.t | apply Picks.cons | apply Picks.skip)); done)
theorem tq_all {p : Nat} : CtE Try.prog 74 [ptrv p] [] (fun _ : Nat => True) (fun y => .func (.func 125) #[] #[ptrv y]) fun y F => cl y [ptrv p] 103 :: F := by
  intro F; simp only [List.cons_append, List.nil_append]; refine Ct_of Try.func74 rfl (n := 4) rfl rfl ?_
  repeat (first
    | refine H_seq ?_ | refine H_block ?_ | refine H_region ?_ | refine TL_nil ?_ | refine N_then ?_ | refine N_block ?_ | refine H_skip ?_ | refine H_ret ?_ | refine R_then ?_ | refine R_block ?_ | refine H_exit ?_
    | refine X_then ?_ | refine X_block_eq ?_ | refine X_block_ne rfl ?_ | refine H_cond_t rfl ?_ | refine H_cond_f rfl ?_ | refine TL_y (by first | exact Y_assign rfl | exact Y_makeFunc rfl rfl | fail) rfl ?_
    | refine T_box rfl rfl fun p1 => ?_ | exact E_fin1 (.inl rfl) rfl rfl rfl (by (repeat (first | exact .nil | exact .refl _ | exact .h | apply Pick.t | apply Picks.cons | apply Picks.skip)); done)
    | exact E_fin1 (.inr rfl) rfl rfl rfl (by (repeat (first | exact .nil | exact .refl _ | exact .h | apply Pick.t | apply Picks.cons | apply Picks.skip)); done)
    | exact E_fin2 (.inl rfl) rfl rfl rfl rfl (by (repeat (first | exact .nil | exact .refl _ | exact .h | apply Pick.t | apply Picks.cons | apply Picks.skip)); done)
    | exact E_fin2 (.inr rfl) rfl rfl rfl rfl (by (repeat (first | exact .nil | exact .refl _ | exact .h | apply Pick.t | apply Picks.cons | apply Picks.skip)); done)
    | exact E_fin3 (.inl rfl) rfl rfl rfl rfl rfl (by (repeat (first | exact .nil | exact .refl _ | exact .h | apply Pick.t | apply Picks.cons | apply Picks.skip)); done)
    | exact E_fin3 (.inr rfl) rfl rfl rfl rfl rfl (by (repeat (first | exact .nil | exact .refl _ | exact .h | apply Pick.t | apply Picks.cons | apply Picks.skip)); done)
    | exact E_fin0 (.inl rfl) rfl (by (repeat (first | exact .nil | exact .refl _ | exact .h | apply Pick.t | apply Picks.cons | apply Picks.skip)); done)
    | exact E_fin0 (.inr rfl) rfl (by (repeat (first | exact .nil | exact .refl _ | exact .h | apply Pick.t | apply Picks.cons | apply Picks.skip)); done) | fail)
  exact X_fin1 p1 (by trivial) (by first | exact .inl rfl | exact .inr rfl) (by rfl) (by rfl) (by rfl) (by (repeat (first | exact .nil | exact .refl _ | exact .h | apply Pick.t | apply Picks.cons | apply Picks.skip)); done)
theorem tq_iter {y p : Nat} {xs : List Int} {last : Int} (hk : xs.length ≤ 100000) : Iter Try.prog 125 [ptrv y] (xs.map fun x => [u64v x]) [cl y [ptrv p] 103, tq p xs last] := by
  intro l J Jx hY M
  rw [List.length_map]
  simp only [List.cons_append, List.nil_append]
  refine Ct_of Try.func125 rfl (n := 21) rfl rfl ?_
  refine H_tq (.t (.t .h)) fun a c => ?_
  repeat (first
    | refine H_seq ?_ | refine H_block ?_ | refine H_region ?_ | refine TL_nil ?_ | refine N_then ?_ | refine N_block ?_ | refine H_skip ?_ | refine H_ret ?_ | refine R_then ?_ | refine R_block ?_ | refine H_exit ?_
    | refine X_then ?_ | refine X_block_eq ?_ | refine X_block_ne rfl ?_ | refine H_cond_t rfl ?_ | refine H_cond_f rfl ?_
    | refine TL_y (by first | exact Y_move rfl | exact Y_assign rfl | exact Y_nilCheck rfl | exact Y_nilCheckF rfl | exact Y_fieldAddr rfl | exact Y_load rfl (Vl_cl (by (repeat (first | exact .h | apply Pick.t)); done) rfl) | exact Y_load rfl (by assumption) | exact Y_indexAddr rfl rfl (by omega) (by first | omega | (simp only [List.length_cons]; omega)) | exact Y_load rfl (Vl_elem (by (repeat (first | exact .h | apply Pick.t)); done) (by assumption)) | exact Y_loadAt rfl (by (repeat (first | exact .h | apply Pick.t)); done) (by rfl) | exact Y_not rfl | exact Y_lssd rfl rfl (by first | exact decide_eq_true (by omega) | exact decide_eq_false (by omega)) | exact Y_lss rfl rfl | exact Y_eqld rfl rfl (by first | exact decide_eq_true (by omega) | exact decide_eq_false (by omega)) | exact Y_eql rfl rfl | exact Y_eql_nil rfl rfl | exact Y_slice_eq_nil rfl rfl | exact Y_map_eq_nil rfl rfl | exact Y_add' rfl rfl (w64 (by omega) (by omega)) | exact Y_add' rfl rfl (wu64 (by omega) (by omega)) | exact Y_len_slice rfl | fail) rfl ?_
    | refine H_loopk [0, 10, 11] (fun i : Nat => [(12, i64v i)]) (fun i => J i :: cl y [ptrv p] 103 :: cl p [.slice a xs.length c, u64v last] 105 :: slc 36 1 a xs.length c (xs.map u64v) :: M) (fun i => i ≤ xs.length) (fun i => xs.length - i) 0 (Nat.zero_le _) ⟨rfl, trivial⟩ (fun _ hs => sat_ord (by (repeat (first | exact .nil | exact .refl _ | exact .h | apply Pick.t | apply Picks.cons)); done) hs) ?_
    | exact E_fin1 (.inl rfl) rfl rfl rfl (by (repeat (first | exact .nil | exact .refl _ | exact .h | apply Pick.t | apply Picks.cons | apply Picks.skip)); done)
    | exact E_fin1 (.inr rfl) rfl rfl rfl (by (repeat (first | exact .nil | exact .refl _ | exact .h | apply Pick.t | apply Picks.cons | apply Picks.skip)); done)
    | exact E_fin2 (.inl rfl) rfl rfl rfl rfl (by (repeat (first | exact .nil | exact .refl _ | exact .h | apply Pick.t | apply Picks.cons | apply Picks.skip)); done)
    | exact E_fin2 (.inr rfl) rfl rfl rfl rfl (by (repeat (first | exact .nil | exact .refl _ | exact .h | apply Pick.t | apply Picks.cons | apply Picks.skip)); done)
    | exact E_fin3 (.inl rfl) rfl rfl rfl rfl rfl (by (repeat (first | exact .nil | exact .refl _ | exact .h | apply Pick.t | apply Picks.cons | apply Picks.skip)); done)
    | exact E_fin3 (.inr rfl) rfl rfl rfl rfl rfl (by (repeat (first | exact .nil | exact .refl _ | exact .h | apply Pick.t | apply Picks.cons | apply Picks.skip)); done)
    | exact E_fin0 (.inl rfl) rfl (by (repeat (first | exact .nil | exact .refl _ | exact .h | apply Pick.t | apply Picks.cons | apply Picks.skip)); done)
    | exact E_fin0 (.inr rfl) rfl (by (repeat (first | exact .nil | exact .refl _ | exact .h | apply Pick.t | apply Picks.cons | apply Picks.skip)); done) | fail)
  intro i hi
  by_cases hlt : i < xs.length
  · obtain ⟨x, hx⟩ := getSome hlt
    refine H_slccase (.t (.t (.t .h))) (fun _ e => by omega) fun b o e => ?_
    subst e
    repeat (first
      | refine H_seq ?_ | refine H_block ?_ | refine H_region ?_ | refine TL_nil ?_ | refine N_then ?_ | refine N_block ?_ | refine H_skip ?_ | refine H_ret ?_ | refine R_then ?_ | refine R_block ?_ | refine H_exit ?_
      | refine X_then ?_ | refine X_block_eq ?_ | refine X_block_ne rfl ?_ | refine H_cond_t rfl ?_ | refine H_cond_f rfl ?_
      | refine TL_y (by first | exact Y_move rfl | exact Y_assign rfl | exact Y_nilCheck rfl | exact Y_nilCheckF rfl | exact Y_fieldAddr rfl | exact Y_load rfl (Vl_cl (by (repeat (first | exact .h | apply Pick.t)); done) rfl) | exact Y_load rfl (by assumption) | exact Y_indexAddr rfl rfl (by omega) (by first | omega | (simp only [List.length_cons]; omega)) | exact Y_load rfl (Vl_elem (by (repeat (first | exact .h | apply Pick.t)); done) (by assumption)) | exact Y_loadAt rfl (by (repeat (first | exact .h | apply Pick.t)); done) (by rfl) | exact Y_not rfl | exact Y_lssd rfl rfl (by first | exact decide_eq_true (by omega) | exact decide_eq_false (by omega)) | exact Y_lss rfl rfl | exact Y_eqld rfl rfl (by first | exact decide_eq_true (by omega) | exact decide_eq_false (by omega)) | exact Y_eql rfl rfl | exact Y_eql_nil rfl rfl | exact Y_slice_eq_nil rfl rfl | exact Y_map_eq_nil rfl rfl | exact Y_add' rfl rfl (w64 (by omega) (by omega)) | exact Y_add' rfl rfl (wu64 (by omega) (by omega)) | exact Y_len_slice rfl | fail) rfl ?_
      | refine T_yield hY i rfl rfl (by rw [List.getElem?_map, hx]; rfl) .h rfl ?_ ?_
      | exact E_fin1 (.inl rfl) rfl rfl rfl (by (repeat (first | exact .nil | exact .refl _ | exact .h | apply Pick.t | apply Picks.cons | apply Picks.skip)); done)
      | exact E_fin1 (.inr rfl) rfl rfl rfl (by (repeat (first | exact .nil | exact .refl _ | exact .h | apply Pick.t | apply Picks.cons | apply Picks.skip)); done)
      | exact E_fin2 (.inl rfl) rfl rfl rfl rfl (by (repeat (first | exact .nil | exact .refl _ | exact .h | apply Pick.t | apply Picks.cons | apply Picks.skip)); done)
      | exact E_fin2 (.inr rfl) rfl rfl rfl rfl (by (repeat (first | exact .nil | exact .refl _ | exact .h | apply Pick.t | apply Picks.cons | apply Picks.skip)); done)
      | exact E_fin3 (.inl rfl) rfl rfl rfl rfl rfl (by (repeat (first | exact .nil | exact .refl _ | exact .h | apply Pick.t | apply Picks.cons | apply Picks.skip)); done)
      | exact E_fin3 (.inr rfl) rfl rfl rfl rfl rfl (by (repeat (first | exact .nil | exact .refl _ | exact .h | apply Pick.t | apply Picks.cons | apply Picks.skip)); done)
      | exact E_fin0 (.inl rfl) rfl (by (repeat (first | exact .nil | exact .refl _ | exact .h | apply Pick.t | apply Picks.cons | apply Picks.skip)); done)
      | exact E_fin0 (.inr rfl) rfl (by (repeat (first | exact .nil | exact .refl _ | exact .h | apply Pick.t | apply Picks.cons | apply Picks.skip)); done) | fail)
    · exact N_rk (i + 1) hlt (by omega) ⟨rfl, trivial⟩ ⟨rfl, rfl, rfl, trivial⟩ fun _ hs => sat_ord (by (repeat (first | exact .nil | exact .refl _ | exact .h | apply Pick.t | apply Picks.cons)); done) hs
    · repeat (first
        | refine H_seq ?_ | refine H_block ?_ | refine H_region ?_ | refine TL_nil ?_ | refine N_then ?_ | refine N_block ?_ | refine H_skip ?_ | refine H_ret ?_ | refine R_then ?_ | refine R_block ?_ | refine H_exit ?_
        | refine X_then ?_ | refine X_block_eq ?_ | refine X_block_ne rfl ?_ | refine H_cond_t rfl ?_ | refine H_cond_f rfl ?_
        | refine TL_y (by first | exact Y_move rfl | exact Y_assign rfl | exact Y_nilCheck rfl | exact Y_nilCheckF rfl | exact Y_fieldAddr rfl | exact Y_load rfl (Vl_cl (by (repeat (first | exact .h | apply Pick.t)); done) rfl) | exact Y_load rfl (by assumption) | exact Y_indexAddr rfl rfl (by omega) (by first | omega | (simp only [List.length_cons]; omega)) | exact Y_load rfl (Vl_elem (by (repeat (first | exact .h | apply Pick.t)); done) (by assumption)) | exact Y_loadAt rfl (by (repeat (first | exact .h | apply Pick.t)); done) (by rfl) | exact Y_not rfl | exact Y_lssd rfl rfl (by first | exact decide_eq_true (by omega) | exact decide_eq_false (by omega)) | exact Y_lss rfl rfl | exact Y_eqld rfl rfl (by first | exact decide_eq_true (by omega) | exact decide_eq_false (by omega)) | exact Y_eql rfl rfl | exact Y_eql_nil rfl rfl | exact Y_slice_eq_nil rfl rfl | exact Y_map_eq_nil rfl rfl | exact Y_add' rfl rfl (w64 (by omega) (by omega)) | exact Y_add' rfl rfl (wu64 (by omega) (by omega)) | exact Y_len_slice rfl | fail) rfl ?_
        | exact E_fin1 (.inl rfl) rfl rfl rfl (by (repeat (first | exact .nil | exact .refl _ | exact .h | apply Pick.t | apply Picks.cons | apply Picks.skip)); done)
        | exact E_fin1 (.inr rfl) rfl rfl rfl (by (repeat (first | exact .nil | exact .refl _ | exact .h | apply Pick.t | apply Picks.cons | apply Picks.skip)); done)
        | exact E_fin2 (.inl rfl) rfl rfl rfl rfl (by (repeat (first | exact .nil | exact .refl _ | exact .h | apply Pick.t | apply Picks.cons | apply Picks.skip)); done)
        | exact E_fin2 (.inr rfl) rfl rfl rfl rfl (by (repeat (first | exact .nil | exact .refl _ | exact .h | apply Pick.t | apply Picks.cons | apply Picks.skip)); done)
        | exact E_fin3 (.inl rfl) rfl rfl rfl rfl rfl (by (repeat (first | exact .nil | exact .refl _ | exact .h | apply Pick.t | apply Picks.cons | apply Picks.skip)); done)
        | exact E_fin3 (.inr rfl) rfl rfl rfl rfl rfl (by (repeat (first | exact .nil | exact .refl _ | exact .h | apply Pick.t | apply Picks.cons | apply Picks.skip)); done)
        | exact E_fin0 (.inl rfl) rfl (by (repeat (first | exact .nil | exact .refl _ | exact .h | apply Pick.t | apply Picks.cons | apply Picks.skip)); done)
        | exact E_fin0 (.inr rfl) rfl (by (repeat (first | exact .nil | exact .refl _ | exact .h | apply Pick.t | apply Picks.cons | apply Picks.skip)); done) | fail)
      exact H_fin0 (.inl rfl) rfl ⟨_, .inr rfl, fun _ hs => by have h1 := sat_tqc (xs := xs) (last := last) rfl (by (repeat (first | exact .nil | exact .refl _ | exact .h | apply Pick.t | apply Picks.cons)); done) hs; exact sat_ord (by (repeat (first | exact .nil | exact .refl _ | exact .h | apply Pick.t | apply Picks.cons)); done) h1⟩
  · have e : i = xs.length := by omega
    subst e
    repeat (first
      | refine H_seq ?_ | refine H_block ?_ | refine H_region ?_ | refine TL_nil ?_ | refine N_then ?_ | refine N_block ?_ | refine H_skip ?_ | refine H_ret ?_ | refine R_then ?_ | refine R_block ?_ | refine H_exit ?_
      | refine X_then ?_ | refine X_block_eq ?_ | refine X_block_ne rfl ?_ | refine H_cond_t rfl ?_ | refine H_cond_f rfl ?_
      | refine TL_y (by first | exact Y_move rfl | exact Y_assign rfl | exact Y_nilCheck rfl | exact Y_nilCheckF rfl | exact Y_fieldAddr rfl | exact Y_load rfl (Vl_cl (by (repeat (first | exact .h | apply Pick.t)); done) rfl) | exact Y_load rfl (by assumption) | exact Y_indexAddr rfl rfl (by omega) (by first | omega | (simp only [List.length_cons]; omega)) | exact Y_load rfl (Vl_elem (by (repeat (first | exact .h | apply Pick.t)); done) (by assumption)) | exact Y_loadAt rfl (by (repeat (first | exact .h | apply Pick.t)); done) (by rfl) | exact Y_not rfl | exact Y_lssd rfl rfl (by first | exact decide_eq_true (by omega) | exact decide_eq_false (by omega)) | exact Y_lss rfl rfl | exact Y_eqld rfl rfl (by first | exact decide_eq_true (by omega) | exact decide_eq_false (by omega)) | exact Y_eql rfl rfl | exact Y_eql_nil rfl rfl | exact Y_slice_eq_nil rfl rfl | exact Y_map_eq_nil rfl rfl | exact Y_add' rfl rfl (w64 (by omega) (by omega)) | exact Y_add' rfl rfl (wu64 (by omega) (by omega)) | exact Y_len_slice rfl | fail) rfl ?_
      | exact E_fin1 (.inl rfl) rfl rfl rfl (by (repeat (first | exact .nil | exact .refl _ | exact .h | apply Pick.t | apply Picks.cons | apply Picks.skip)); done)
      | exact E_fin1 (.inr rfl) rfl rfl rfl (by (repeat (first | exact .nil | exact .refl _ | exact .h | apply Pick.t | apply Picks.cons | apply Picks.skip)); done)
      | exact E_fin2 (.inl rfl) rfl rfl rfl rfl (by (repeat (first | exact .nil | exact .refl _ | exact .h | apply Pick.t | apply Picks.cons | apply Picks.skip)); done)
      | exact E_fin2 (.inr rfl) rfl rfl rfl rfl (by (repeat (first | exact .nil | exact .refl _ | exact .h | apply Pick.t | apply Picks.cons | apply Picks.skip)); done)
      | exact E_fin3 (.inl rfl) rfl rfl rfl rfl rfl (by (repeat (first | exact .nil | exact .refl _ | exact .h | apply Pick.t | apply Picks.cons | apply Picks.skip)); done)
      | exact E_fin3 (.inr rfl) rfl rfl rfl rfl rfl (by (repeat (first | exact .nil | exact .refl _ | exact .h | apply Pick.t | apply Picks.cons | apply Picks.skip)); done)
      | exact E_fin0 (.inl rfl) rfl (by (repeat (first | exact .nil | exact .refl _ | exact .h | apply Pick.t | apply Picks.cons | apply Picks.skip)); done)
      | exact E_fin0 (.inr rfl) rfl (by (repeat (first | exact .nil | exact .refl _ | exact .h | apply Pick.t | apply Picks.cons | apply Picks.skip)); done) | fail)
    exact H_fin0 (.inr rfl) rfl ⟨_, .inl rfl, fun _ hs => by have h1 := sat_tqc (xs := xs) (last := last) rfl (by (repeat (first | exact .nil | exact .refl _ | exact .h | apply Pick.t | apply Picks.cons)); done) hs; exact sat_ord (by (repeat (first | exact .nil | exact .refl _ | exact .h | apply Pick.t | apply Picks.cons)); done) h1⟩
end Go.Proofs
