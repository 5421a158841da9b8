/- Part of the proof of AdmitFairSaid: lemmas and contracts that it uses. -/
import Derived.WalkKit
import Derived.TacticsInMore
import Derived.RangeFuncNested
import Derived.RangeFuncCalls
import Derived.Deep.Quiet
import Derived.RangeFuncLeaves
import Derived.OrdersIn
import Derived.Laws.AppendOwn
import Derived.RangeFuncSeq
import Derived.Maps.RangeRun
import Derived.Shelf.SlMaps.Clone
set_option linter.all false
set_option linter.unusedVariables false
set_option linter.unusedSimpArgs false
set_option linter.unnecessarySimpa false
namespace Go.SL

/-! # Heaplets, assertions, lists of assertions that hold apart -/
/-- what stands in a place: of place 0 the outside world and what was written; of place b + 1 block b -/
inductive Cel where
  | o (x : Obj)
  | io (os : Os) (out : Array (Nat × ByteArray))
abbrev Hp := Nat → Option Cel
def wh (w : World) : Hp
  | 0 => some (.io w.os w.output)
  | b + 1 => (w.heap[b]?).map .o
abbrev Asn := Hp → Prop
def dj (h g : Hp) : Prop := ∀ b, h b = none ∨ g b = none
def un (h g : Hp) : Hp := fun b => match h b with | some o => some o | none => g b

def stars : List Asn → Asn
  | [] => fun h => ∀ b, h b = none
  | A :: L => fun h => ∃ h1 h2, dj h1 h2 ∧ h = un h1 h2 ∧ A h1 ∧ stars L h2

def sat (L : List Asn) (w : World) : Prop := ∃ h, stars L h ∧ ∀ b o, h b = some o → wh w b = some o

theorem un_assoc (f g h : Hp) : un (un f g) h = un f (un g h) := by
  funext b; simp only [un]; cases f b <;> rfl
theorem un_comm {f g : Hp} (d : dj f g) : un f g = un g f := by
  funext b; simp only [un]; rcases d b with h | h <;> rw [h]
  · cases g b <;> rfl
  · cases f b <;> rfl
theorem dj_comm {f g : Hp} (d : dj f g) : dj g f := fun b => (d b).symm
theorem dj_un {f g h : Hp} : dj (un f g) h ↔ dj f h ∧ dj g h := by
  constructor
  · intro d
    refine ⟨fun b => ?_, fun b => ?_⟩ <;> have := d b <;> simp only [un] at this
    · cases hf : f b <;> simp_all
    · cases hf : f b <;> simp_all
  · rintro ⟨d1, d2⟩ b
    simp only [un]
    rcases d1 b with h1 | h1
    · rw [h1]; exact d2 b
    · exact .inr h1
theorem dj_un' {f g h : Hp} : dj h (un f g) ↔ dj h f ∧ dj h g :=
  ⟨fun d => ⟨dj_comm (dj_un.1 (dj_comm d)).1, dj_comm (dj_un.1 (dj_comm d)).2⟩, fun d => dj_comm (dj_un.2 ⟨dj_comm d.1, dj_comm d.2⟩)⟩

theorem stars_swap {A B : Asn} {L : List Asn} {h : Hp} (hs : stars (A :: B :: L) h) : stars (B :: A :: L) h := by
  obtain ⟨h1, h23, d1, rfl, a, h2, h3, d2, rfl, b, c⟩ := hs
  obtain ⟨d12, d13⟩ := dj_un'.1 d1
  refine ⟨h2, un h1 h3, dj_un'.2 ⟨dj_comm d12, d2⟩, ?_, b, h1, h3, d13, rfl, a, c⟩
  rw [← un_assoc, un_comm d12, un_assoc]

theorem stars_cons_mono {A B : Asn} {L L' : List Asn} (ha : ∀ h, A h → B h) (hl : ∀ h, stars L h → stars L' h) {h : Hp} (hs : stars (A :: L) h) : stars (B :: L') h :=
  let ⟨h1, h2, d, e, a, l⟩ := hs; ⟨h1, h2, d, e, ha _ a, hl _ l⟩

/-- 'A' stands somewhere in the list; the rest is L'. -/
inductive Pick (A : Asn) : List Asn → List Asn → Prop
  | h {L : List Asn} : Pick A (A :: L) L
  | t {B : Asn} {L L' : List Asn} : Pick A L L' → Pick A (B :: L) (B :: L')

theorem Pick.stars {A : Asn} {L L' : List Asn} (p : Pick A L L') : ∀ {h : Hp}, SL.stars L h → SL.stars (A :: L') h := by
  induction p with
  | h => exact id
  | t _ ih => exact fun hs => stars_swap (stars_cons_mono (fun _ a => a) (fun _ => ih) hs)
theorem Pick.stars' {A : Asn} {L L' : List Asn} (p : Pick A L L') : ∀ {h : Hp}, SL.stars (A :: L') h → SL.stars L h := by
  induction p with
  | h => exact id
  | t _ ih => exact fun hs => stars_cons_mono (fun _ a => a) (fun _ => ih) (stars_swap hs)

theorem stars_append {L M : List Asn} : ∀ {h : Hp}, stars (L ++ M) h ↔ ∃ h1 h2, dj h1 h2 ∧ h = un h1 h2 ∧ stars L h1 ∧ stars M h2 := by
  induction L with
  | nil =>
    intro h
    constructor
    · intro hs; exact ⟨fun _ => none, h, fun _ => .inl rfl, by funext b; rfl, fun _ => rfl, hs⟩
    · rintro ⟨h1, h2, _, rfl, e, hs⟩
      have : un h1 h2 = h2 := by funext b; simp only [un, e b]
      rw [this]; exact hs
  | cons A L ih =>
    intro h
    constructor
    · rintro ⟨h1, h2, d, rfl, a, hs⟩
      obtain ⟨h3, h4, d', rfl, l, m⟩ := ih.1 hs
      obtain ⟨d3, d4⟩ := dj_un'.1 d
      exact ⟨un h1 h3, h4, dj_un.2 ⟨d4, d'⟩, (un_assoc _ _ _).symm, ⟨h1, h3, d3, rfl, a, l⟩, m⟩
    · rintro ⟨h1, h2, d, rfl, ⟨h3, h4, d', rfl, a, l⟩, m⟩
      obtain ⟨d3, d4⟩ := dj_un.1 d
      exact ⟨h3, un h4 h2, dj_un'.2 ⟨d', d3⟩, un_assoc _ _ _, a, ih.2 ⟨h4, h2, d4, rfl, l, m⟩⟩

def ex {α : Type} (F : α → Asn) : Asn := fun h => ∃ x, F x h
def pu (φ : Prop) : Asn := fun h => φ ∧ ∀ b, h b = none
def pt (b : Nat) (o : Obj) : Asn := fun h => ∀ b', h b' = if b' = b + 1 then some (.o o) else none

theorem sat_mono {L L' : List Asn} (hl : ∀ h, stars L h → stars L' h) {w : World} (hs : sat L w) : sat L' w :=
  let ⟨h, s, r⟩ := hs; ⟨h, hl h s, r⟩
theorem sat_pick {A : Asn} {L L' : List Asn} (p : Pick A L L') {w : World} (hs : sat L w) : sat (A :: L') w := sat_mono (fun _ => p.stars) hs
theorem sat_unpick {A : Asn} {L L' : List Asn} (p : Pick A L L') {w : World} (hs : sat (A :: L') w) : sat L w := sat_mono (fun _ => p.stars') hs

theorem stars_ex {α : Type} {F : α → Asn} {L : List Asn} {h : Hp} : stars (ex F :: L) h ↔ ∃ x, stars (F x :: L) h :=
  ⟨fun ⟨h1, h2, d, e, ⟨x, a⟩, l⟩ => ⟨x, h1, h2, d, e, a, l⟩, fun ⟨x, h1, h2, d, e, a, l⟩ => ⟨h1, h2, d, e, ⟨x, a⟩, l⟩⟩
theorem stars_pu {φ : Prop} {L : List Asn} {h : Hp} : stars (pu φ :: L) h ↔ φ ∧ stars L h := by
  constructor
  · rintro ⟨h1, h2, _, rfl, ⟨p, e⟩, l⟩
    have : un h1 h2 = h2 := by funext b; simp only [un, e b]
    rw [this]; exact ⟨p, l⟩
  · rintro ⟨p, l⟩
    exact ⟨fun _ => none, h, fun _ => .inl rfl, by funext b; rfl, ⟨p, fun _ => rfl⟩, l⟩
theorem stars_big {As L : List Asn} {h : Hp} : stars (stars As :: L) h ↔ stars (As ++ L) h := stars_append.symm

theorem sat_ex {α : Type} {F : α → Asn} {L : List Asn} {w : World} : sat (ex F :: L) w ↔ ∃ x, sat (F x :: L) w :=
  ⟨fun ⟨h, s, r⟩ => let ⟨x, s'⟩ := stars_ex.1 s; ⟨x, h, s', r⟩, fun ⟨x, h, s, r⟩ => ⟨h, stars_ex.2 ⟨x, s⟩, r⟩⟩
theorem sat_pu {φ : Prop} {L : List Asn} {w : World} : sat (pu φ :: L) w ↔ φ ∧ sat L w :=
  ⟨fun ⟨h, s, r⟩ => let ⟨p, s'⟩ := stars_pu.1 s; ⟨p, h, s', r⟩, fun ⟨p, h, s, r⟩ => ⟨h, stars_pu.2 ⟨p, s⟩, r⟩⟩
theorem sat_big {As L : List Asn} {w : World} : sat (stars As :: L) w ↔ sat (As ++ L) w :=
  ⟨sat_mono fun _ => stars_big.1, sat_mono fun _ => stars_big.2⟩
theorem sat_drop {A : Asn} {L : List Asn} {w : World} (hs : sat (A :: L) w) : sat L w := by
  obtain ⟨h, ⟨h1, h2, d, rfl, _, l⟩, r⟩ := hs
  refine ⟨h2, l, fun b o hb => r b o ?_⟩
  simp only [un]
  rcases d b with h | h
  · rw [h]; exact hb
  · rw [h] at hb; cases hb

theorem wh_succ {w : World} {b : Nat} {o : Obj} : wh w (b + 1) = some (.o o) ↔ w.heap[b]? = some o := by
  simp only [wh]
  cases w.heap[b]? with
  | none => simp
  | some x => simp
theorem wh_keep {w w' : World} (hio : w'.os = w.os ∧ w'.output = w.output) (hk : ∀ k, k < w.heap.size → w'.heap[k]? = w.heap[k]?) {b : Nat} {x : Cel} (h : wh w b = some x) : wh w' b = some x := by
  cases b with
  | zero => simp only [wh] at h ⊢; rw [hio.1, hio.2]; exact h
  | succ b =>
    simp only [wh] at h ⊢
    cases hb : w.heap[b]? with
    | none => rw [hb] at h; cases h
    | some o => rw [hk b (Array.getElem?_eq_some_iff.1 hb).1]; exact h
theorem sat_pt {b : Nat} {o : Obj} {L : List Asn} {w : World} (hs : sat (pt b o :: L) w) : w.heap[b]? = some o := by
  obtain ⟨h, ⟨h1, h2, _, rfl, a, _⟩, r⟩ := hs
  exact wh_succ.1 (r (b + 1) (.o o) (by simp only [un]; rw [a (b + 1)]; simp))

/-- what is needed to go on in another world: what lies in the owned places of the rest is kept -/
theorem sat_upd {b : Nat} {o o' : Obj} {L : List Asn} {w w' : World} (hs : sat (pt b o :: L) w) (h0 : w'.heap[b]? = some o') (hk : ∀ k, k ≠ b → k < w.heap.size → w'.heap[k]? = w.heap[k]?) (hio : w'.os = w.os ∧ w'.output = w.output) :
    sat (pt b o' :: L) w' := by
  obtain ⟨h, ⟨h1, h2, d, rfl, a, l⟩, r⟩ := hs
  refine ⟨un (fun b' => if b' = b + 1 then some (.o o') else none) h2, ⟨_, h2, ?_, rfl, fun _ => rfl, l⟩, ?_⟩
  · intro b'
    by_cases e : b' = b + 1
    · subst e; right
      rcases d (b + 1) with h | h
      · rw [a (b + 1)] at h; simp at h
      · exact h
    · left; simp [e]
  · intro b' x hx
    simp only [un] at hx
    by_cases e : b' = b + 1
    · subst e; simp at hx; rw [← hx]; exact wh_succ.2 h0
    · simp only [e, if_false] at hx
      have hr : wh w b' = some x := r b' x (by simp only [un]; rw [a b']; simp only [e, if_false]; exact hx)
      cases b' with
      | zero => simp only [wh] at hr ⊢; rw [hio.1, hio.2]; exact hr
      | succ k =>
        simp only [wh] at hr ⊢
        cases hb : w.heap[k]? with
        | none => rw [hb] at hr; cases hr
        | some y => rw [hk k (by omega) (Array.getElem?_eq_some_iff.1 hb).1]; exact hr

/-- a world that has what the old one had -/
theorem sat_more {L : List Asn} {w w' : World} (hs : sat L w) (hk : ∀ k, k < w.heap.size → w'.heap[k]? = w.heap[k]?) (hio : w'.os = w.os ∧ w'.output = w.output) : sat L w' := by
  obtain ⟨h, s, r⟩ := hs
  exact ⟨h, s, fun b o hb => wh_keep hio hk (r b o hb)⟩

theorem sat_new {L : List Asn} {w w' : World} {o : Obj} {b : Nat} (hs : sat L w) (hb : w.heap.size ≤ b) (h0 : w'.heap[b]? = some o) (hk : ∀ k, k < w.heap.size → w'.heap[k]? = w.heap[k]?) (hio : w'.os = w.os ∧ w'.output = w.output) : sat (pt b o :: L) w' := by
  obtain ⟨h, s, r⟩ := hs
  refine ⟨un (fun b' => if b' = b + 1 then some (.o o) else none) h, ⟨_, h, ?_, rfl, fun _ => rfl, s⟩, ?_⟩
  · intro b'
    by_cases e : b' = b + 1
    · right
      cases hh : h b' with
      | none => rfl
      | some x =>
        have h1 := r b' x hh
        subst e
        simp only [wh] at h1
        cases hb2 : w.heap[b]? with
        | none => rw [hb2] at h1; cases h1
        | some y => have := (Array.getElem?_eq_some_iff.1 hb2).1; omega
    · left; simp [e]
  · intro b' x hx
    simp only [un] at hx
    by_cases e : b' = b + 1
    · subst e; simp at hx; rw [← hx]; exact wh_succ.2 h0
    · simp only [e, if_false] at hx
      exact wh_keep hio hk (r b' x hx)

theorem sat_nil (w : World) : sat [] w := ⟨fun _ => none, fun _ => rfl, fun _ _ h => by cases h⟩

theorem sat_ne {b c : Nat} {o o' : Obj} {L : List Asn} {w : World} (hs : sat (pt b o :: pt c o' :: L) w) : b ≠ c := by
  obtain ⟨h, ⟨h1, h2, d, rfl, a, h3, h4, _, rfl, a', _⟩, _⟩ := hs
  rintro rfl
  have := d (b + 1)
  simp only [un] at this
  rw [a (b + 1), a' (b + 1)] at this
  simp at this

end Go.SL
namespace Go.SL

/-! # What is known of a frame; states -/
abbrev Sp := List (Nat × Value)
def look : Sp → Nat → Option Value
  | [], _ => none
  | (k, v) :: S, j => match Nat.beq k j with | true => some v | false => look S j

structure K (n : Nat) (ds : List Deferred) (S : Sp) (a : Act) : Prop where
  size : a.tmps.size = n
  ds : a.defers = ds
  at_ : ∀ k v, look S k = some v → a.tmps[k]? = some v

def ev (S : Sp) : Operand → Option Value
  | .tmp t => look S t
  | .const v => some v
  | .global g => some (.pointer (some ⟨g, 0, none⟩))
  | .func f => some (.func (.func f) #[] #[])

variable {n : Nat} {ds : List Deferred} {S : Sp} {a : Act} {L : List Asn} {w : World} {P : Program} {r : Option Nat} {Q : Exit → Act → World → Prop}

theorem K.ev {x : Operand} {v : Value} (hk : K n ds S a) (h : ev S x = some v) : a.eval x = v := by
  cases x with
  | tmp t => simp only [Act.eval]; simp [Array.getD_eq_getD_getElem?, hk.at_ t v h]
  | const u => exact Option.some.inj h
  | global g => exact Option.some.inj h
  | func f => exact Option.some.inj h

theorem K.put {d : Nat} {v : Value} (hk : K n ds S a) (hd : Nat.blt d n = true) : K n ds ((d, v) :: S) (a.put (some d) v) := by
  have hlt : d < n := by simpa [Nat.blt_eq] using hd
  refine ⟨by simp [Act.put, hk.size], by simp [Act.put, hk.ds], fun k u hu => ?_⟩
  simp only [look] at hu
  simp only [Act.put]
  by_cases e : d = k
  · subst e
    rw [show Nat.beq d d = true from Nat.beq_refl d] at hu
    simp at hu; subst hu
    have : d < a.tmps.size := by rw [hk.size]; exact hlt
    simp [this]
  · rw [show Nat.beq d k = false from by cases hb : Nat.beq d k; rfl; exact absurd (Nat.eq_of_beq_eq_true hb) e] at hu
    rw [Array.getElem?_setIfInBounds_ne e]
    exact hk.at_ k u hu

/-- frames: whatever function, no depth; in a round or not -/
def FW (r : Option Nat) : Fence := { Fence.wide with round := r }
theorem FW_none : FW none = Fence.wide := rfl
theorem FW_some (l : Nat) : FW (some l) = (FW r).inRound l := rfl
theorem FW_fn (f : FuncId) : (FW r).fn f := trivial

/-- A state: whatever frame and world fit, G. -/
def H (n : Nat) (ds : List Deferred) (S : Sp) (L : List Asn) (G : Act → World → Prop) : Prop := ∀ a w, K n ds S a → sat L w → G a w

def W (r : Option Nat) (P : Program) (c : Code) (Q : Exit → Act → World → Prop) : Act → World → Prop := fun a w => c.wpIn (FW r) 0 P Q a w
def TL (r : Option Nat) (P : Program) (l0 : List Oper) (Q : Exit → Act → World → Prop) (rest : List Oper) : Act → World → Prop := fun a w => wpListIn (FW r) 0 P l0.toArray Q rest a w

/-! ## the assertion's side -/
section
variable {G : Act → World → Prop}
theorem H_ex {α : Type} {F : α → Asn} (h : ∀ x, H n ds S (F x :: L) G) : H n ds S (ex F :: L) G := fun a w hk hs => let ⟨x, hs'⟩ := sat_ex.1 hs; h x a w hk hs'
theorem H_pu {φ : Prop} (h : φ → H n ds S L G) : H n ds S (pu φ :: L) G := fun a w hk hs => let ⟨p, hs'⟩ := sat_pu.1 hs; h p a w hk hs'
theorem H_big {As : List Asn} (h : H n ds S (As ++ L) G) : H n ds S (stars As :: L) G := fun a w hk hs => h a w hk (sat_big.1 hs)
theorem H_pick {A : Asn} {L' : List Asn} (p : Pick A L L') (h : H n ds S (A :: L') G) : H n ds S L G := fun a w hk hs => h a w hk (sat_pick p hs)
theorem H_to {L' : List Asn} (h : H n ds S L' G) (e : ∀ w, sat L w → sat L' w) : H n ds S L G := fun a w hk hs => h a w hk (e w hs)
theorem H_drop {A : Asn} (h : H n ds S L G) : H n ds S (A :: L) G := fun a w hk hs => h a w hk (sat_drop hs)
theorem H_mono {G' : Act → World → Prop} (h : H n ds S L G) (hg : ∀ a w, G a w → G' a w) : H n ds S L G' := fun a w hk hs => hg a w (h a w hk hs)
theorem H_out {φ : Prop} (e : ∀ w, sat L w → φ) (h : φ → H n ds S L G) : H n ds S L G := fun a w hk hs => h (e w hs) a w hk hs

/-- every pair of S' is what S says -/
def Sub : Sp → Sp → Prop
  | [], _ => True
  | (k, v) :: S', S => look S k = some v ∧ Sub S' S
theorem Sub.look {S' S : Sp} (h : Sub S' S) : ∀ k v, look S' k = some v → look S k = some v := by
  induction S' with
  | nil => intro k v hv; cases hv
  | cons x S' ih =>
    obtain ⟨j, u⟩ := x
    intro k v hv
    simp only [SL.look] at hv
    cases hb : Nat.beq j k with
    | true => rw [hb] at hv; simp at hv; subst hv; have := Nat.eq_of_beq_eq_true hb; subst this; exact h.1
    | false => rw [hb] at hv; exact ih h.2 k v hv
theorem K.sub {S' : Sp} (hk : K n ds S a) (h : Sub S' S) : K n ds S' a := ⟨hk.size, hk.ds, fun k v hv => hk.at_ k v (h.look k v hv)⟩
theorem H_sub {S' : Sp} (e : Sub S' S) (h : H n ds S' L G) : H n ds S L G := fun a w hk hs => h a w (hk.sub e) hs
end

/-! ## control -/
theorem H_seq {x y : Code} (h : H n ds S L (W r P x (Exit.then (W r P y Q) Q))) : H n ds S L (W r P (.seq x y) Q) := fun a w hk hs => wpIn_seq (h a w hk hs)
theorem H_block {id : Nat} {c : Code} (h : H n ds S L (W r P c (Exit.inBlock id Q))) : H n ds S L (W r P (.block id c) Q) := fun a w hk hs => wpIn_block (h a w hk hs)
theorem H_skip (h : H n ds S L (Q .normal)) : H n ds S L (W r P .skip Q) := fun a w hk hs => wpIn_skip (h a w hk hs)
theorem H_label {l : Nat} (h : H n ds S L (Q .normal)) : H n ds S L (W r P (.label l) Q) := fun a w hk hs => wpIn_label (h a w hk hs)
theorem H_exit {id : Nat} (h : H n ds S L (Q (.exit id))) : H n ds S L (W r P (.exit id) Q) := fun a w hk hs => wpIn_exit (h a w hk hs)
theorem H_ret (h : H n ds S L (Q .ret)) : H n ds S L (W r P .ret Q) := fun a w hk hs => wpIn_ret (h a w hk hs)
theorem H_cond {c : Operand} {x y : Code} {b : Bool} (hc : ev S c = some (.bool b)) (ht : b = true → H n ds S L (W r P x Q)) (hf : b = false → H n ds S L (W r P y Q)) :
    H n ds S L (W r P (.cond c x y) Q) := fun a w hk hs => wpIn_cond_split (hk.ev hc) (fun e => ht e a w hk hs) (fun e => hf e a w hk hs)
theorem H_cond_t {c : Operand} {x y : Code} (hc : ev S c = some (.bool true)) (h : H n ds S L (W r P x Q)) : H n ds S L (W r P (.cond c x y) Q) :=
  fun a w hk hs => wpIn_cond (hk.ev hc) (h a w hk hs)
theorem H_cond_f {c : Operand} {x y : Code} (hc : ev S c = some (.bool false)) (h : H n ds S L (W r P y Q)) : H n ds S L (W r P (.cond c x y) Q) :=
  fun a w hk hs => wpIn_cond (hk.ev hc) (h a w hk hs)
theorem H_region {id : Nat} {l : List Oper} (h : H n ds S L (TL r P l Q l)) : H n ds S L (W r P (.region id l.toArray false) Q) := fun a w hk hs => wpIn_region_lit (h a w hk hs)

theorem N_then {G : Act → World → Prop} (h : H n ds S L G) : H n ds S L (Exit.then G Q .normal) := h
theorem N_block {id : Nat} (h : H n ds S L (Q .normal)) : H n ds S L (Exit.inBlock id Q .normal) := h
theorem X_then {G : Act → World → Prop} {id : Nat} (h : H n ds S L (Q (.exit id))) : H n ds S L (Exit.then G Q (.exit id)) := h
theorem X_block_eq {id : Nat} (h : H n ds S L (Q .normal)) : H n ds S L (Exit.inBlock id Q (.exit id)) := by
  intro a w hk hs; simp only [Exit.inBlock, if_true]; exact h a w hk hs
theorem X_block_ne {id id' : Nat} (hne : Nat.beq id' id = false) (h : H n ds S L (Q (.exit id'))) : H n ds S L (Exit.inBlock id Q (.exit id')) := by
  intro a w hk hs
  have : id' ≠ id := fun e => by subst e; rw [show Nat.beq id' id' = true from Nat.beq_refl _] at hne; cases hne
  simp only [Exit.inBlock, if_neg this]; exact h a w hk hs
theorem R_then {G : Act → World → Prop} (h : H n ds S L (Q .ret)) : H n ds S L (Exit.then G Q .ret) := h
theorem R_block {id : Nat} (h : H n ds S L (Q .ret)) : H n ds S L (Exit.inBlock id Q .ret) := h

/-! ## a loop: 'S i', 'LL i' at each round's head, for an i with J i; the measure m falls -/
theorem H_loop {ι : Type} {c : Code} (S' : ι → Sp) (LL : ι → List Asn) (J : ι → Prop) (m : ι → Nat) (i0 : ι) (hJ : J i0) (hS : Sub (S' i0) S) (hL : ∀ w, sat L w → sat (LL i0) w)
    (round : ∀ i, J i → H n ds (S' i) (LL i) (W r P c (Exit.then (fun a w => ∃ j, J j ∧ m j < m i ∧ K n ds (S' j) a ∧ sat (LL j) w) Q))) : H n ds S L (W r P (.loop c) Q) := by
  intro a w hk hs
  classical
  let I : Act → World → Prop := fun a w => ∃ i, J i ∧ K n ds (S' i) a ∧ sat (LL i) w
  have h0 : I a w := ⟨i0, hJ, hk.sub hS, hL w hs⟩
  -- the measure: the least that any fitting i has
  have key : ∀ a w, I a w → ∃ k, (∃ i, J i ∧ K n ds (S' i) a ∧ sat (LL i) w ∧ m i = k) ∧ ∀ i, J i → K n ds (S' i) a → sat (LL i) w → k ≤ m i := by
    rintro a w ⟨i, h1, h2, h3⟩
    have : ∀ N, (∃ i, J i ∧ K n ds (S' i) a ∧ sat (LL i) w ∧ m i ≤ N) → ∃ k, (∃ i, J i ∧ K n ds (S' i) a ∧ sat (LL i) w ∧ m i = k) ∧ ∀ i, J i → K n ds (S' i) a → sat (LL i) w → k ≤ m i := by
      intro N
      induction N with
      | zero => rintro ⟨i, a1, a2, a3, a4⟩; exact ⟨0, ⟨i, a1, a2, a3, by omega⟩, fun _ _ _ _ => Nat.zero_le _⟩
      | succ N ih =>
        rintro ⟨i, a1, a2, a3, a4⟩
        by_cases h : ∃ i, J i ∧ K n ds (S' i) a ∧ sat (LL i) w ∧ m i ≤ N
        · exact ih h
        · exact ⟨N + 1, ⟨i, a1, a2, a3, by have h1 : ¬ m i ≤ N := fun hh => h ⟨i, a1, a2, a3, hh⟩; omega⟩, fun j b1 b2 b3 => by have h1 : ¬ m j ≤ N := fun hh => h ⟨j, b1, b2, b3, hh⟩; omega⟩
    exact this (m i) ⟨i, h1, h2, h3, Nat.le_refl _⟩
  let μ : Act → World → Nat := fun a w => if h : I a w then Classical.choose (key a w h) else 0
  refine wpIn_loop I μ h0 fun a w hI => ?_
  obtain ⟨⟨i, j1, j2, j3, j4⟩, _⟩ := Classical.choose_spec (key a w hI)
  refine Code.wpIn_mono (fun e a' w' q => ?_) (round i j1 a w j2 j3)
  cases e with
  | normal =>
    obtain ⟨j, q1, q2, q3, q4⟩ := q
    have hI' : I a' w' := ⟨j, q1, q3, q4⟩
    refine ⟨hI', ?_⟩
    have e1 : μ a w = m i := by simp only [μ, dif_pos hI]; exact j4.symm
    have e2 : μ a' w' ≤ m j := by simp only [μ, dif_pos hI']; exact (Classical.choose_spec (key a' w' hI')).2 j q1 q3 q4
    omega
  | exit id => exact q
  | goto l => exact q
  | ret => exact q
  | panic ch => exact q
  | outgrown => exact q

theorem N_round {ι : Type} {S' : ι → Sp} {LL : ι → List Asn} {J : ι → Prop} {m : ι → Nat} {i : ι} (j : ι) (hJ : J j) (hm : m j < m i) (hS : Sub (S' j) S) (hL : ∀ w, sat L w → sat (LL j) w) :
    H n ds S L (Exit.then (fun a w => ∃ j, J j ∧ m j < m i ∧ K n ds (S' j) a ∧ sat (LL j) w) Q .normal) :=
  fun _ w hk hs => ⟨j, hJ, hm, hk.sub hS, hL w hs⟩

/-! ## lists of operations -/
theorem TL_nil {l0 : List Oper} (h : H n ds S L (Q .normal)) : H n ds S L (TL r P l0 Q []) := fun a w hk hs => wpListIn_nil (h a w hk hs)

theorem TLg_run {l0 rest : List Oper} {dst : Option Tmp} {op : Op} {ty : TypeId} {ps : String} {af : Array Edge} {j : Nat} {b : Bool} {t : Nat}
    (hj : (l0[j]?).bind Oper.dst = some t) (ht : look S t = some (.bool b)) (h : H n ds S L (TL r P l0 Q (⟨dst, op, ty, ps, af, none⟩ :: rest))) :
    H n ds S L (TL r P l0 Q (⟨dst, op, ty, ps, af, some (j, b)⟩ :: rest)) := by
  intro a w hk hs
  have h' := h a w hk hs
  have hy : yielded l0.toArray a.tmps j = some b := by
    simp only [yielded, List.getElem?_toArray, hj, Option.bind_some, hk.at_ t _ ht]
  simp only [TL, wpListIn, Region.wanted, hy, beq_self_eq_true, if_true] at h' ⊢
  exact h'

theorem TLg_skip {l0 rest : List Oper} {d : Nat} {op : Op} {ty : TypeId} {ps : String} {af : Array Edge} {j : Nat} {b b' : Bool} {t : Nat}
    (hj : (l0[j]?).bind Oper.dst = some t) (ht : look S t = some (.bool b')) (hne : (b' == b) = false) (hlt : Nat.blt d n = true) (h : H n ds ((d, undef) :: S) L (TL r P l0 Q rest)) :
    H n ds S L (TL r P l0 Q (⟨some d, op, ty, ps, af, some (j, b)⟩ :: rest)) := by
  intro a w hk hs
  have hy : yielded l0.toArray a.tmps j = some b' := by
    simp only [yielded, List.getElem?_toArray, hj, Option.bind_some, hk.at_ t _ ht]
  have hn : (some b' == some b) = false := by simpa using hne
  simp only [TL, wpListIn, Region.wanted, hy, hn, if_false, Bool.false_eq_true]
  exact ⟨fun _ _ => trivial, h _ w (hk.put hlt) hs⟩

/-- a guard's value that is not known: both ways -/
theorem TLg_split {l0 rest : List Oper} {o : Oper} (b : Bool) (ht : b = true → H n ds S L (TL r P l0 Q (o :: rest))) (hf : b = false → H n ds S L (TL r P l0 Q (o :: rest))) :
    H n ds S L (TL r P l0 Q (o :: rest)) := by
  cases b
  · exact hf rfl
  · exact ht rfl

/-- In whatever frame and world fit, o yields v and leaves the world. -/
def Y (P : Program) (S : Sp) (L : List Asn) (o : Oper) (v : Value) : Prop :=
  (∀ c, o.op ≠ .defer c) ∧ ∀ n ds a w, K n ds S a → sat L w → (execOp a.eval o).run P w = .ok (.value v) w

theorem semAt_FW {o : Oper} (h : ∀ c, o.op ≠ .defer c) (ρ : Operand → Value) : o.semAt (FW r).round ρ = execOp ρ o := by
  cases r with
  | none => rfl
  | some l => exact Oper.semAt_some l ρ o h

theorem TL_run {l0 rest : List Oper} {o : Oper} (hg : o.guard = none) (hnd : ∀ c, o.op ≠ .defer c) (h : ∀ a w, K n ds S a → sat L w → ∃ v w', (execOp a.eval o).run P w = .ok v w' ∧
      o.uponIn (FW r) 0 P a (TL r P l0 Q rest) Q (.ok v w')) : H n ds S L (TL r P l0 Q (o :: rest)) := by
  intro a w hk hs
  obtain ⟨v, w', hr, hu⟩ := h a w hk hs
  have hw : Region.wanted o (yielded l0.toArray a.tmps) = true := by simp [Region.wanted, hg]
  simp only [TL, wpListIn, hw, if_true, Oper.wpIn]
  refine ⟨fun _ _ => trivial, ?_⟩
  rw [semAt_FW hnd, hr]
  exact hu

theorem TL_y {l0 rest : List Oper} {d : Nat} {op : Op} {ty : TypeId} {ps : String} {af : Array Edge} {v : Value} (hy : Y P S L ⟨some d, op, ty, ps, af, none⟩ v) (hlt : Nat.blt d n = true)
    (h : H n ds ((d, v) :: S) L (TL r P l0 Q rest)) : H n ds S L (TL r P l0 Q (⟨some d, op, ty, ps, af, none⟩ :: rest)) :=
  TL_run rfl hy.1 fun a w hk hs => ⟨_, _, hy.2 _ _ a w hk hs, h _ w (hk.put hlt) hs⟩

/-- an operation that makes the world w' out of w, and yields v -/
theorem TL_go {l0 rest : List Oper} {d : Nat} {op : Op} {ty : TypeId} {ps : String} {af : Array Edge} (hnd : ∀ c, op ≠ .defer c) (hlt : Nat.blt d n = true)
    (h : ∀ a w, K n ds S a → sat L w → ∃ v w' L', (execOp a.eval ⟨some d, op, ty, ps, af, none⟩).run P w = .ok (.value v) w' ∧ sat L' w' ∧ H n ds ((d, v) :: S) L' (TL r P l0 Q rest)) :
    H n ds S L (TL r P l0 Q (⟨some d, op, ty, ps, af, none⟩ :: rest)) :=
  TL_run rfl hnd fun a w hk hs => let ⟨v, w', _, h1, h2, h3⟩ := h a w hk hs; ⟨_, w', h1, h3 _ w' (hk.put hlt) h2⟩

theorem TL_go' {l0 rest : List Oper} {op : Op} {ty : TypeId} {ps : String} {af : Array Edge} (hnd : ∀ c, op ≠ .defer c)
    (h : ∀ a w, K n ds S a → sat L w → ∃ w' L', ((execOp a.eval ⟨none, op, ty, ps, af, none⟩).run P w = .ok .skip w' ∨ ∃ v, (execOp a.eval ⟨none, op, ty, ps, af, none⟩).run P w = .ok (.value v) w') ∧ sat L' w' ∧ H n ds S L' (TL r P l0 Q rest)) :
    H n ds S L (TL r P l0 Q (⟨none, op, ty, ps, af, none⟩ :: rest)) :=
  TL_run rfl hnd fun a w hk hs => by
    obtain ⟨w', _, h1 | ⟨v, h1⟩, h2, h3⟩ := h a w hk hs
    · exact ⟨_, w', h1, h3 _ w' hk h2⟩
    · exact ⟨_, w', h1, h3 _ w' hk h2⟩

end Go.SL
namespace Go.SL

variable {n : Nat} {ds : List Deferred} {S : Sp} {a : Act} {L : List Asn} {w : World} {P : Program} {r : Option Nat} {Q : Exit → Act → World → Prop}
variable {ty : TypeId} {ps : String} {af : Array Edge} {d : Nat} {dst : Option Tmp} {l0 rest : List Oper}

/-! # What is known of types (instances: a program writes them) -/
def isAggD : TypeDesc → Bool | .struct _ | .array _ _ => true | _ => false
class Scal (P : Program) (t : TypeId) : Prop where
  und : ∃ d, P.underlying t = some d ∧ isAggD d = false
  size : ∃ i, P.info? t = some i ∧ i.size = 1
class AggT (P : Program) (t : TypeId) (sz : outParam Nat) : Prop where
  und : ∃ d, P.underlying t = some d ∧ isAggD d = true
  size : ∃ i, P.info? t = some i ∧ i.size = sz
class FieldAt (P : Program) (t : TypeId) (f : Nat) (off : outParam Nat) (ft : outParam TypeId) (fs : outParam Nat) : Prop where
  und : ∃ fields fd, P.underlying t = some (.struct fields) ∧ fields[f]? = some fd ∧ fd.offset = off ∧ fd.type = ft
  size : ∃ i, P.info? ft = some i ∧ i.size = fs
  pos : fs ≠ 0
class SlT (P : Program) (t : TypeId) (e : outParam TypeId) (sz by_ : outParam Nat) : Prop where
  und : P.underlying t = some (.slice e)
  info : ∃ i, P.info? e = some i ∧ i.size = sz ∧ i.bytes = by_
  pos : 0 < sz
class ZeroT (P : Program) (t : TypeId) (z : outParam Value) (sz : outParam Nat) : Prop where
  info : ∃ i, P.info? t = some i ∧ i.zero = some z ∧ i.size = sz
  size : z.cells.size = sz
class IntT (P : Program) (t : TypeId) (k : outParam IntKind) : Prop where
  und : P.underlying t = some (.int k)
class PtrT (P : Program) (t : TypeId) : Prop where
  und : ∃ e, P.underlying t = some (.pointer e)
class MapT (P : Program) (t : TypeId) (k e : outParam TypeId) : Prop where
  und : P.underlying t = some (.map k e)
class StructT (P : Program) (t : TypeId) (pl : outParam (List (Nat × Nat))) (z : outParam (List Value)) : Prop where
  und : ∃ fields, P.underlying t = some (.struct fields) ∧ (∀ (w : World), (fields.mapM (m := Sem) fun f => do pure (f.offset, ← sizeOf f.type)).run P w = .ok pl.toArray w)
  zero : ∃ i, P.info? t = some i ∧ i.zero = some (.agg z.toArray)

/-! # cells -/
def cl (b : Nat) (cs : List Value) (e : TypeId) : Asn := pt b (.cells cs.toArray e (0, 0))
theorem sat_cl {b : Nat} {cs : List Value} {e : TypeId} (hs : sat (cl b cs e :: L) w) : w.heap[b]? = some (.cells cs.toArray e (0, 0)) := sat_pt hs
theorem sat_cell {b : Nat} {cs : List Value} {e : TypeId} (hs : sat (cl b cs e :: L) w) {o : Nat} {v : Value} (h : cs[o]? = some v) : w.cell? ⟨b, o, none⟩ = some v := by
  simp [World.cell?, sat_cl hs, h]

/-- in every world that fits, this cell holds v -/
def Vl (L : List Asn) (b o : Nat) (v : Value) : Prop := ∀ w, sat L w → w.cell? ⟨b, o, none⟩ = some v
theorem Vl_cl {b o : Nat} {cs : List Value} {e : TypeId} {L' : List Asn} {v : Value} (p : Pick (cl b cs e) L L') (h : cs[o]? = some v) : Vl L b o v :=
  fun _ hs => sat_cell (sat_pick p hs) h

/-- the memory that was there at first, as it was -/
def base (w0 : World) : Asn := fun h => ∀ b, h b = wh w0 b
theorem sat_base_wh {w0 : World} (hs : sat (base w0 :: L) w) {b : Nat} {x : Cel} (hb : wh w0 b = some x) : wh w b = some x := by
  obtain ⟨h, ⟨h1, h2, _, rfl, a, _⟩, rr⟩ := hs
  exact rr b _ (by simp only [un]; rw [a b, hb])
theorem sat_base {w0 : World} (hs : sat (base w0 :: L) w) {b : Nat} (hb : b < w0.heap.size) : w.heap[b]? = w0.heap[b]? := by
  have h1 : w0.heap[b]? = some w0.heap[b] := Array.getElem?_eq_getElem hb
  rw [h1]
  exact wh_succ.1 (sat_base_wh hs (wh_succ.2 h1))
theorem sat_base_io {w0 : World} (hs : sat (base w0 :: L) w) : w.os = w0.os ∧ w.output = w0.output := by
  have := sat_base_wh hs (b := 0) (x := .io w0.os w0.output) rfl
  simp only [wh, Option.some.injEq, Cel.io.injEq] at this
  exact this
theorem sat_base_self (w : World) : sat [base w] w := ⟨wh w, ⟨wh w, fun _ => none, fun _ => .inr rfl, by funext b; simp only [un]; cases wh w b <;> rfl, fun _ => rfl, fun _ => rfl⟩, fun _ _ h => h⟩
theorem Vl_base {w0 : World} {L' : List Asn} {b o : Nat} {v : Value} (p : Pick (base w0) L L') (h : w0.cell? ⟨b, o, none⟩ = some v) : Vl L b o v := fun w hs => by
  have hb := World.block_lt_of_cell? _ _ h
  have := sat_base (sat_pick p hs) hb
  rw [← h]; simp only [World.cell?, this]

theorem Addr.add_none (b o k : Nat) : (⟨b, o, none⟩ : Addr).add k = ⟨b, o + k, none⟩ := by
  unfold Addr.add; split <;> simp_all

/-! # operations that yield a value -/
section yields
theorem Y_move {x : Operand} {v : Value} (hx : ev S x = some v) : Y P S L ⟨dst, .move x, ty, ps, af, none⟩ v :=
  ⟨nofun, fun _ _ a w hk _ => by simp [execOp, hk.ev hx]⟩
theorem Y_assign {x : Operand} {v : Value} (hx : ev S x = some v) : Y P S L ⟨dst, .assign x, ty, ps, af, none⟩ v :=
  ⟨nofun, fun _ _ a w hk _ => by simp [execOp, hk.ev hx]⟩
theorem Y_nilCheck {x : Operand} {p : Addr} (hx : ev S x = some (.pointer (some p))) : Y P S L ⟨dst, .nilCheck x, ty, ps, af, none⟩ (.pointer (some p)) :=
  ⟨nofun, fun _ _ a w hk _ => by simp [execOp, hk.ev hx]⟩
theorem Y_nilCheckF {x : Operand} {f : FuncId} {f1 c1 : Array Value} (hx : ev S x = some (.func (.func f) f1 c1)) : Y P S L ⟨dst, .nilCheck x, ty, ps, af, none⟩ (.func (.func f) f1 c1) :=
  ⟨nofun, fun _ _ a w hk _ => by simp [execOp, hk.ev hx]⟩
theorem Y_fieldAddr {t f off ft fs : Nat} [hf : FieldAt P t f off ft fs] {x : Operand} {b o : Nat} (hx : ev S x = some (.pointer (some ⟨b, o, none⟩))) :
    Y P S L ⟨dst, .fieldAddr t x f, ty, ps, af, none⟩ (.pointer (some ⟨b, o + off, none⟩)) := by
  obtain ⟨fields, fd, h1, h2, h3, h4⟩ := hf.und
  obtain ⟨i, h5, h6⟩ := hf.size
  refine ⟨nofun, fun _ _ a w hk _ => ?_⟩
  subst h4
  have := hf.pos
  simp [execOp, hk.ev hx, Instr.fieldAt, run_underlying h1, h2, Instr.sureAddr, fieldPlace, sizeOf, typeInfo, h5, h6, this, h3, Addr.add_none]
theorem Y_load {t : TypeId} [ht : Scal P t] {x : Operand} {b o : Nat} {v : Value} (hx : ev S x = some (.pointer (some ⟨b, o, none⟩))) (hv : Vl L b o v) :
    Y P S L ⟨dst, .load t x, ty, ps, af, none⟩ v := by
  obtain ⟨D, h1, h2⟩ := ht.und
  refine ⟨nofun, fun _ _ a w hk hs => ?_⟩
  have hA : (isAgg t).run P w = .ok false w := by
    cases D <;> simp_all [isAgg, isAggD, run_underlying h1]
  simp [execOp, hk.ev hx, Instr.loadAt, Instr.sureAddr, loadVar, hA, hv w hs]
theorem Y_loadA {t sz : Nat} [ht : AggT P t sz] {x : Operand} {b o : Nat} {cs : List Value} (hx : ev S x = some (.pointer (some ⟨b, o, none⟩)))
    (hl : cs.length = sz) (hv : ∀ j v, cs[j]? = some v → Vl L b (o + j) v) : Y P S L ⟨dst, .load t x, ty, ps, af, none⟩ (.agg cs.toArray) := by
  obtain ⟨D, h1, h2⟩ := ht.und
  obtain ⟨i, h3, h4⟩ := ht.size
  refine ⟨nofun, fun _ _ a w hk hs => ?_⟩
  have hA : (isAgg t).run P w = .ok true w := by
    cases D <;> simp_all [isAgg, isAggD, run_underlying h1]
  have := run_loadCells_list (P := P) w ⟨b, o, none⟩ cs (fun j v h => by rw [Addr.add_none]; exact hv j v h w hs)
  rw [hl] at this
  simp [execOp, hk.ev hx, Instr.loadAt, Instr.sureAddr, loadVar, hA, sizeOf, typeInfo, h3, h4, this]
theorem Vls_cl {b o : Nat} {cs xs : List Value} {e : TypeId} {L' : List Asn} (p : Pick (cl b cs e) L L') (h : (cs.drop o).take xs.length = xs) : ∀ j v, xs[j]? = some v → Vl L b (o + j) v := by
  intro j v hj
  refine Vl_cl p ?_
  have hlt : j < xs.length := (List.getElem?_eq_some_iff.1 hj).1
  rw [← h, List.getElem?_take, if_pos hlt, List.getElem?_drop] at hj
  exact hj

/-- whatever the walk reckons of two operands -/
theorem Y_bin {op : BinOp} {t t2 : TypeId} {x y : Operand} {u v z : Value} (hx : ev S x = some u) (hy : ev S y = some v) (hne : (match op with | .eql | .neq => true | _ => false) = false)
    (h : ∀ w, (binOp op t u v).run P w = .ok z w) : Y P S L ⟨dst, .binOp op t x y t2, ty, ps, af, none⟩ z :=
  ⟨nofun, fun _ _ a w hk _ => by cases op <;> simp at hne <;> simp [execOp, hk.ev hx, hk.ev hy, eqGuard, h]⟩
section ints
variable {k : IntKind} {x y : Operand} {i j : Int} {t t2 : TypeId}
theorem Y_add (hx : ev S x = some (.int k i)) (hy : ev S y = some (.int k j)) : Y P S L ⟨dst, .binOp .add t x y t2, ty, ps, af, none⟩ (.int k (k.wrap (i + j))) :=
  Y_bin hx hy rfl fun _ => by simp [binOp, Op.intArith]
theorem Y_sub (hx : ev S x = some (.int k i)) (hy : ev S y = some (.int k j)) : Y P S L ⟨dst, .binOp .sub t x y t2, ty, ps, af, none⟩ (.int k (k.wrap (i - j))) :=
  Y_bin hx hy rfl fun _ => by simp [binOp, Op.intArith]
theorem Y_mul (hx : ev S x = some (.int k i)) (hy : ev S y = some (.int k j)) : Y P S L ⟨dst, .binOp .mul t x y t2, ty, ps, af, none⟩ (.int k (k.wrap (i * j))) :=
  Y_bin hx hy rfl fun _ => by simp [binOp, Op.intArith]
theorem Y_lss (hx : ev S x = some (.int k i)) (hy : ev S y = some (.int k j)) : Y P S L ⟨dst, .binOp .lss t x y t2, ty, ps, af, none⟩ (.bool (decide (i < j))) :=
  Y_bin hx hy rfl fun _ => by simp [binOp, Op.intCmp]
theorem Y_leq (hx : ev S x = some (.int k i)) (hy : ev S y = some (.int k j)) : Y P S L ⟨dst, .binOp .leq t x y t2, ty, ps, af, none⟩ (.bool (decide (i ≤ j))) :=
  Y_bin hx hy rfl fun _ => by simp [binOp, Op.intCmp]
theorem Y_gtr (hx : ev S x = some (.int k i)) (hy : ev S y = some (.int k j)) : Y P S L ⟨dst, .binOp .gtr t x y t2, ty, ps, af, none⟩ (.bool (decide (j < i))) :=
  Y_bin hx hy rfl fun _ => by simp [binOp, Op.intCmp]
theorem Y_geq (hx : ev S x = some (.int k i)) (hy : ev S y = some (.int k j)) : Y P S L ⟨dst, .binOp .geq t x y t2, ty, ps, af, none⟩ (.bool (decide (j ≤ i))) :=
  Y_bin hx hy rfl fun _ => by simp [binOp, Op.intCmp]
theorem Y_eql (hx : ev S x = some (.int k i)) (hy : ev S y = some (.int k j)) : Y P S L ⟨dst, .binOp .eql t x y t2, ty, ps, af, none⟩ (.bool (decide (i = j))) :=
  ⟨nofun, fun _ _ a w hk _ => by simp [execOp, hk.ev hx, hk.ev hy, eqGuard, binOp, Op.intCmp]; rfl⟩
theorem Y_neq (hx : ev S x = some (.int k i)) (hy : ev S y = some (.int k j)) : Y P S L ⟨dst, .binOp .neq t x y t2, ty, ps, af, none⟩ (.bool (!decide (i = j))) :=
  ⟨nofun, fun _ _ a w hk _ => by simp [execOp, hk.ev hx, hk.ev hy, eqGuard, binOp, Op.intCmp, bne]; rfl⟩
theorem Y_quo (hx : ev S x = some (.int k i)) (hy : ev S y = some (.int k j)) (hj : j ≠ 0) : Y P S L ⟨dst, .binOp .quo t x y t2, ty, ps, af, none⟩ (.int k (k.wrap (i.tdiv j))) :=
  Y_bin hx hy rfl fun _ => by simp [binOp, Op.intDiv, hj]
theorem Y_rem (hx : ev S x = some (.int k i)) (hy : ev S y = some (.int k j)) (hj : j ≠ 0) : Y P S L ⟨dst, .binOp .rem t x y t2, ty, ps, af, none⟩ (.int k (i.tmod j)) :=
  Y_bin hx hy rfl fun _ => by simp [binOp, Op.intDiv, hj]
/-- the same, in range -/
theorem Y_add' {z : Int} (hx : ev S x = some (.int k i)) (hy : ev S y = some (.int k j)) (hz : k.wrap (i + j) = z) : Y P S L ⟨dst, .binOp .add t x y t2, ty, ps, af, none⟩ (.int k z) := hz ▸ Y_add hx hy
theorem Y_sub' {z : Int} (hx : ev S x = some (.int k i)) (hy : ev S y = some (.int k j)) (hz : k.wrap (i - j) = z) : Y P S L ⟨dst, .binOp .sub t x y t2, ty, ps, af, none⟩ (.int k z) := hz ▸ Y_sub hx hy
theorem Y_mul' {z : Int} (hx : ev S x = some (.int k i)) (hy : ev S y = some (.int k j)) (hz : k.wrap (i * j) = z) : Y P S L ⟨dst, .binOp .mul t x y t2, ty, ps, af, none⟩ (.int k z) := hz ▸ Y_mul hx hy
end ints
theorem Y_not {t : TypeId} {x : Operand} {b : Bool} (hx : ev S x = some (.bool b)) : Y P S L ⟨dst, .unOp .not t x, ty, ps, af, none⟩ (.bool (!b)) :=
  ⟨nofun, fun _ _ a w hk _ => by simp [execOp, hk.ev hx, Op.unary]⟩
theorem Y_convInt {s t : TypeId} {k k' : IntKind} [h1 : IntT P s k'] [h2 : IntT P t k] {x : Operand} {i : Int} (hx : ev S x = some (.int k' i)) : Y P S L ⟨dst, .convert s t x, ty, ps, af, none⟩ (.int k (k.wrap i)) :=
  ⟨nofun, fun _ _ a w hk _ => by simp [execOp, hk.ev hx, convert, run_underlying h1.und, run_underlying h2.und, Conv.intToInt]⟩
theorem Y_convInt' {s t : TypeId} {k k' : IntKind} [h1 : IntT P s k'] [h2 : IntT P t k] {x : Operand} {i z : Int} (hx : ev S x = some (.int k' i)) (hz : k.wrap i = z) : Y P S L ⟨dst, .convert s t x, ty, ps, af, none⟩ (.int k z) := hz ▸ Y_convInt hx
theorem run_equal_nil {t e : TypeId} (h1 : P.underlying t = some (.pointer e)) (p : Option Addr) (w : World) : (Op.equal t (.pointer p) (.pointer none)).run P w = .ok p.isNone w := by
  unfold Op.equal Op.maxDepth
  rw [show (10000 : Nat) = 9999 + 1 from rfl, Op.equalIn]
  cases p <;> simp [run_underlying h1]
theorem run_eql_nil {t e : TypeId} (h1 : P.underlying t = some (.pointer e)) (p : Option Addr) (w : World) : (binOp .eql t (.pointer p) (.pointer none)).run P w = .ok (.bool p.isNone) w := by
  have : binOp .eql t (.pointer p) (.pointer none) = (do pure (.bool (← Op.equal t (.pointer p) (.pointer none)))) := rfl
  rw [this]; simp [run_equal_nil h1]
theorem run_neq_nil {t e : TypeId} (h1 : P.underlying t = some (.pointer e)) (p : Option Addr) (w : World) : (binOp .neq t (.pointer p) (.pointer none)).run P w = .ok (.bool !p.isNone) w := by
  have : binOp .neq t (.pointer p) (.pointer none) = (do pure (.bool (!(← Op.equal t (.pointer p) (.pointer none))))) := rfl
  rw [this]; simp [run_equal_nil h1]
theorem Y_eql_nil {t t2 : TypeId} [h1 : PtrT P t] {x y : Operand} {p : Option Addr} (hx : ev S x = some (.pointer p)) (hy : ev S y = some (.pointer none)) :
    Y P S L ⟨dst, .binOp .eql t x y t2, ty, ps, af, none⟩ (.bool p.isNone) := by
  obtain ⟨e, h1⟩ := h1.und
  exact ⟨nofun, fun _ _ a w hk _ => by simp [execOp, hk.ev hx, hk.ev hy, eqGuard, run_eql_nil h1]⟩
theorem Y_neq_nil {t t2 : TypeId} [h1 : PtrT P t] {x y : Operand} {p : Option Addr} (hx : ev S x = some (.pointer p)) (hy : ev S y = some (.pointer none)) :
    Y P S L ⟨dst, .binOp .neq t x y t2, ty, ps, af, none⟩ (.bool (!p.isNone)) := by
  obtain ⟨e, h1⟩ := h1.und
  exact ⟨nofun, fun _ _ a w hk _ => by simp [execOp, hk.ev hx, hk.ev hy, eqGuard, run_neq_nil h1]⟩
theorem Y_extract {x : Operand} {i : Nat} {vs : Array Value} {v : Value} (hx : ev S x = some (.tuple vs)) (hv : vs[i]? = some v) : Y P S L ⟨dst, .extract x i, ty, ps, af, none⟩ v :=
  ⟨nofun, fun _ _ a w hk _ => by simp [execOp, hk.ev hx, Instr.extract, hv]⟩
theorem Y_makeFunc {fn : Fn} {fs cs : Array Operand} {fv cv : List Value} (hf : fs.toList.mapM (ev S) = some fv) (hc : cs.toList.mapM (ev S) = some cv) :
    Y P S L ⟨dst, .makeFunc fn fs cs, ty, ps, af, none⟩ (.func fn fv.toArray cv.toArray) := by
  have key : ∀ (xs : List Operand) (vs : List Value) (a : Act) (n : Nat) (ds : List Deferred), K n ds S a → xs.mapM (ev S) = some vs → xs.map a.eval = vs := by
    intro xs
    induction xs with
    | nil => intro vs a n ds _ h; simpa using h
    | cons x xs ih =>
      intro vs a n ds hk h
      rw [List.mapM_cons] at h
      cases hx : ev S x with
      | none => simp [hx] at h
      | some v =>
        cases hxs : xs.mapM (ev S) with
        | none => simp [hx, hxs] at h
        | some us => simp [hx, hxs] at h; subst h; simp [hk.ev hx, ih us a n ds hk hxs]
  refine ⟨nofun, fun n ds a w hk _ => ?_⟩
  have e1 : fs.map a.eval = fv.toArray := by apply Array.ext'; simp [key _ _ a n ds hk hf]
  have e2 : cs.map a.eval = cv.toArray := by apply Array.ext'; simp [key _ _ a n ds hk hc]
  simp [execOp, Instr.makeFunc, e1, e2]
theorem Y_len_slice {t e sz by_ : Nat} [h1 : SlT P t e sz by_] {x : Operand} {p : Option Addr} {k c : Nat} (hx : ev S x = some (.slice p k c)) :
    Y P S L ⟨dst, .call ⟨.builtin .len, #[x], #[t]⟩, ty, ps, af, none⟩ (.int .i64 (k : Int)) :=
  ⟨nofun, fun _ _ a w hk _ => by simp [execOp, resolve, invoke, builtin, Builtin.len_, hk.ev hx, run_underlying h1.und, goInt]⟩
theorem Y_cap_slice {t e sz by_ : Nat} [h1 : SlT P t e sz by_] {x : Operand} {p : Option Addr} {k c : Nat} (hx : ev S x = some (.slice p k c)) :
    Y P S L ⟨dst, .call ⟨.builtin .cap, #[x], #[t]⟩, ty, ps, af, none⟩ (.int .i64 (c : Int)) :=
  ⟨nofun, fun _ _ a w hk _ => by simp [execOp, resolve, invoke, builtin, Builtin.cap_, hk.ev hx, run_underlying h1.und, goInt]⟩
theorem Y_indexAddr {t e sz by_ : Nat} [h1 : SlT P t e sz by_] {x y : Operand} {b o k c : Nat} {i : Int} {ik : IntKind} (hx : ev S x = some (.slice (some ⟨b, o, none⟩) k c)) (hy : ev S y = some (.int ik i))
    (h0 : 0 ≤ i) (hi : i < k) : Y P S L ⟨dst, .indexAddr t x y, ty, ps, af, none⟩ (.pointer (some ⟨b, o + i.toNat * sz, none⟩)) := by
  obtain ⟨inf, h2, h3, _⟩ := h1.info
  exact ⟨nofun, fun _ _ a w hk _ => by simp [execOp, hk.ev hx, hk.ev hy, Instr.indexAt, asIntOf, run_underlying h1.und, h0, hi, sizeOf, typeInfo, h2, h3, Addr.add_none]⟩
end yields

end Go.SL
namespace Go.SL

variable {n : Nat} {ds : List Deferred} {S : Sp} {a : Act} {L : List Asn} {w : World} {P : Program} {r : Option Nat} {Q : Exit → Act → World → Prop}
variable {ty : TypeId} {ps : String} {af : Array Edge} {d : Nat} {dst : Option Tmp} {l0 rest : List Oper}

/-! # operations that make or turn memory -/
theorem sat_alloc {o : Obj} (hs : sat L w) : sat (pt w.heap.size o :: L) (w.alloc o) :=
  sat_new hs (Nat.le_refl _) (World.alloc_heap_new w o) (fun _ hk => heap_alloc_old w o hk) ⟨rfl, rfl⟩
theorem sat_drew (hs : sat L w) : sat L w.drew := hs

theorem T_alloc {t sz : Nat} {z : Value} [hz : ZeroT P t z sz] (hlt : Nat.blt d n = true)
    (h : ∀ b, H n ds ((d, .pointer (some ⟨b, 0, none⟩)) :: S) (cl b z.cells.toList t :: L) (TL r P l0 Q rest)) :
    H n ds S L (TL r P l0 Q (⟨some d, .alloc t, ty, ps, af, none⟩ :: rest)) := by
  obtain ⟨i, h1, h2, h3⟩ := hz.info
  refine TL_go nofun hlt fun a w hk hs => ⟨_, _, _, ?_, sat_alloc (o := .cells z.cells.toList.toArray t (0, 0)) hs, h _⟩
  simp [execOp, Instr.alloc, zeroValue, typeInfo, h1, h2, newVar, newRow]

theorem T_box {t : Nat} {x : Operand} {v : Value} (hx : ev S x = some v) (hlt : Nat.blt d n = true)
    (h : ∀ b, H n ds ((d, .pointer (some ⟨b, 0, none⟩)) :: S) (cl b v.cells.toList t :: L) (TL r P l0 Q rest)) :
    H n ds S L (TL r P l0 Q (⟨some d, .box t x, ty, ps, af, none⟩ :: rest)) := by
  refine TL_go nofun hlt fun a w hk hs => ⟨_, _, _, ?_, sat_alloc (o := .cells v.cells.toList.toArray t (0, 0)) hs, h _⟩
  simp [execOp, Instr.box, newVar, newRow, hk.ev hx]

theorem sat_setRow {b : Nat} {cs cs' : List Value} {e : TypeId} (hs : sat (cl b cs e :: L) w) : sat (cl b cs' e :: L) (w.setRow b cs'.toArray) :=
  sat_upd hs (setRow_heap w b _ _ e _ (sat_cl hs)) (fun k hk _ => setRow_other w b k _ hk) ⟨setRow_os w b _, setRow_output w b _⟩

theorem run_storeVar {t sz : Nat} {b o : Nat} {cs : List Value} {e : TypeId} {v : Value} (hi : ∃ i, P.info? t = some i ∧ i.size = sz) (hsz : v.cells.size = sz)
    (h1 : ∀ u ∈ v.cells.toList, u.oneCell' = true) (hg : w.heap[b]? = some (.cells cs.toArray e (0, 0))) (hl : o + sz ≤ cs.length) :
    (storeVar t ⟨b, o, none⟩ v).run P w = .ok () (w.setRow b (cs.take o ++ v.cells.toList ++ cs.drop (o + sz)).toArray) := by
  obtain ⟨i, h2, h3⟩ := hi
  have := run_storeCells_at P b o e v.cells.toList 0 cs.toArray w hg (by simp [hsz]; omega) h1
  simp only [Nat.add_zero, Array.length_toList, hsz] at this
  simp [storeVar, sizeOf, typeInfo, h2, h3, hsz, this]

/-- a value of one cell is stored -/
theorem T_store {t : Nat} [ht : Scal P t] {x y : Operand} {b o : Nat} {v : Value} {cs : List Value} {e : TypeId} {L' : List Asn} (hx : ev S x = some (.pointer (some ⟨b, o, none⟩))) (hy : ev S y = some v)
    (h1 : v.oneCell' = true) (p : Pick (cl b cs e) L L') (hl : Nat.blt o cs.length = true) (h : H n ds S (cl b (cs.set o v) e :: L') (TL r P l0 Q rest)) :
    H n ds S L (TL r P l0 Q (⟨none, .store t x y, ty, ps, af, none⟩ :: rest)) := by
  have hl' : o < cs.length := by simpa [Nat.blt_eq] using hl
  have hc : v.cells = #[v] := by cases v <;> simp_all [Value.cells, Value.oneCell']
  refine TL_go' nofun fun a w hk hs => ?_
  have hs' := sat_pick p hs
  have hr := run_storeVar (P := P) (w := w) (o := o) (v := v) ht.size (by rw [hc]; rfl) (by rw [hc]; simpa using h1) (sat_cl hs') (by omega)
  have e1 : cs.take o ++ v.cells.toList ++ cs.drop (o + 1) = cs.set o v := by rw [hc, List.set_eq_take_append_cons_drop, if_pos hl']; simp
  rw [e1] at hr
  exact ⟨_, _, .inl (by simp [execOp, Instr.storeAt, Instr.sureAddr, hk.ev hx, hk.ev hy, hr]), sat_setRow hs', h⟩

/-- a struct's or an array's cells are stored -/
theorem T_storeA {t sz : Nat} [ht : AggT P t sz] {x y : Operand} {b o : Nat} {vs : Array Value} {cs : List Value} {e : TypeId} {L' : List Asn} (hx : ev S x = some (.pointer (some ⟨b, o, none⟩))) (hy : ev S y = some (.agg vs))
    (h1 : vs.size = sz) (h2 : ∀ u ∈ vs.toList, u.oneCell' = true) (p : Pick (cl b cs e) L L') (hl : o + sz ≤ cs.length) (h : H n ds S (cl b (cs.take o ++ vs.toList ++ cs.drop (o + sz)) e :: L') (TL r P l0 Q rest)) :
    H n ds S L (TL r P l0 Q (⟨none, .store t x y, ty, ps, af, none⟩ :: rest)) := by
  refine TL_go' nofun fun a w hk hs => ?_
  have hs' := sat_pick p hs
  have hr := run_storeVar (P := P) (w := w) (o := o) (v := .agg vs) ht.size h1 h2 (sat_cl hs') hl
  simp only [Value.cells] at hr
  exact ⟨_, _, .inl (by simp [execOp, Instr.storeAt, Instr.sureAddr, hk.ev hx, hk.ev hy, hr]), sat_setRow hs', h⟩

theorem T_makeMap {t : Nat} (hlt : Nat.blt d n = true) (h : ∀ b, H n ds ((d, .map (some b)) :: S) (pt b (.map #[] 0) :: L) (TL r P l0 Q rest)) :
    H n ds S L (TL r P l0 Q (⟨some d, .makeMap t none, ty, ps, af, none⟩ :: rest)) := by
  refine TL_go nofun hlt fun a w hk hs => ⟨_, _, _, ?_, sat_alloc (o := .map #[] 0) hs, h _⟩
  simp [execOp, Instr.makeMap]

/-! # calls -/
/-- The contract of a function: from whatever world L fits, it returns some v, and R v L' says what holds then. -/
def Ct (P : Program) (f : FuncId) (args : List Value) (L : List Asn) (R : Value → List Asn → Prop) : Prop :=
  ∀ w, sat L w → Calls P f args.toArray w (fun e w' => ∃ v L', e = .returned v ∧ R v L' ∧ sat L' w')

theorem Ct.mono {f : FuncId} {args : List Value} {R R' : Value → List Asn → Prop} (h : Ct P f args L R) (hr : ∀ v L', R v L' → R' v L') : Ct P f args L R' :=
  fun w hs => (h w hs).mono fun _ _ ⟨v, L', h1, h2, h3⟩ => ⟨v, L', h1, hr _ _ h2, h3⟩
theorem Ct.to {f : FuncId} {args : List Value} {L' : List Asn} {R : Value → List Asn → Prop} (h : Ct P f args L' R) (e : ∀ w, sat L w → sat L' w) : Ct P f args L R := fun w hs => h w (e w hs)
theorem Ct.pick {f : FuncId} {args : List Value} {A : Asn} {L' : List Asn} {R : Value → List Asn → Prop} (p : Pick A L L') (h : Ct P f args (A :: L') R) : Ct P f args L R := h.to fun _ => sat_pick p
theorem Ct.ex {α : Type} {F : α → Asn} {f : FuncId} {args : List Value} {R : Value → List Asn → Prop} (h : ∀ x, Ct P f args (F x :: L) R) : Ct P f args (ex F :: L) R :=
  fun w hs => let ⟨x, hs'⟩ := sat_ex.1 hs; h x w hs'

class FnT (P : Program) (f : FuncId) : Prop where
  enter : ∀ (args : Array Value) (w : World), (callFunc f args).run P w = .ok (.enter f args) w

theorem evs_map {xs : List Operand} {vs : List Value} (hk : K n ds S a) (h : xs.mapM (ev S) = some vs) : xs.map a.eval = vs := by
  induction xs generalizing vs with
  | nil => simpa using h
  | cons x xs ih =>
    rw [List.mapM_cons] at h
    cases hx : ev S x with
    | none => simp [hx] at h
    | some v =>
      cases hxs : xs.mapM (ev S) with
      | none => simp [hx, hxs] at h
      | some us => simp [hx, hxs] at h; subst h; simp [hk.ev hx, ih hxs]

def evs (S : Sp) : List Operand → Option (List Value)
  | [] => some []
  | x :: xs => match ev S x with
    | some v => match evs S xs with
      | some vs => some (v :: vs)
      | none => none
    | none => none
theorem K.evs {xs : List Operand} {vs : List Value} (hk : K n ds S a) (h : evs S xs = some vs) : xs.map a.eval = vs := by
  induction xs generalizing vs with
  | nil => simpa [SL.evs] using h
  | cons x xs ih =>
    simp only [SL.evs] at h
    cases hx : SL.ev S x with
    | none => simp [hx] at h
    | some v =>
      cases hxs : SL.evs S xs with
      | none => simp [hx, hxs] at h
      | some us => simp [hx, hxs] at h; subst h; simp [hk.ev hx, ih hxs]

theorem callsIn_FW {m : Nat} {f : FuncId} {args : Array Value} {R : Ending → World → Prop} (h : Calls P f args w R) : CallsIn (FW r) m P f args w R := by
  cases r with
  | none => exact callsIn_wide.2 h
  | some l => exact (callsIn_wide.2 h).inRound l

/-- a call of whatever function value -/
theorem T_callv {f : FuncId} [hf : FnT P f] {g : Operand} {xs : List Operand} {tys : Array TypeId} {fs cs : List Value} {vs : List Value} {R : Value → List Asn → Prop} (hg : ev S g = some (.func (.func f) fs.toArray cs.toArray))
    (hx : evs S xs = some vs) (hlt : Nat.blt d n = true) (hc : Ct P f (fs ++ vs ++ cs) L R) (h : ∀ v L', R v L' → H n ds ((d, v) :: S) L' (TL r P l0 Q rest)) :
    H n ds S L (TL r P l0 Q (⟨some d, .call ⟨.value g, xs.toArray, tys⟩, ty, ps, af, none⟩ :: rest)) := by
  refine TL_run rfl nofun fun a w hk hs => ?_
  have e1 : xs.toArray.map a.eval = vs.toArray := by apply Array.ext'; simp [hk.evs hx]
  refine ⟨.enter f (fs ++ vs ++ cs).toArray, w, ?_, ?_⟩
  · simp [execOp, resolve, hk.ev hg, Deferred.ofValue, invoke, e1, hf.enter]
  · refine ⟨fun h => by simp [FW, Fence.wide] at h, (callsIn_FW (hc w hs)).mono ?_⟩
    rintro e w' ⟨v, L', rfl, hR, hs'⟩
    exact h v L' hR _ w' (hk.put hlt) hs'

theorem T_call {f : FuncId} [hf : FnT P f] {xs : List Operand} {tys : Array TypeId} {vs : List Value} {R : Value → List Asn → Prop}
    (hx : evs S xs = some vs) (hlt : Nat.blt d n = true) (hc : Ct P f vs L R) (h : ∀ v L', R v L' → H n ds ((d, v) :: S) L' (TL r P l0 Q rest)) :
    H n ds S L (TL r P l0 Q (⟨some d, .call ⟨.value (.func f), xs.toArray, tys⟩, ty, ps, af, none⟩ :: rest)) :=
  T_callv (fs := []) (cs := []) rfl hx hlt (by simpa using hc) h

/-! # a function's contract from its body -/
def RQ (P : Program) (fn : Func) (R : Value → List Asn → Prop) : Exit → Act → World → Prop
  | .normal, a, w => bodyPostM (FW none) 0 P fn (fun e w' => ∃ v L', e = .returned v ∧ R v L' ∧ sat L' w') .normal a w
  | .ret, a, w => bodyPostM (FW none) 0 P fn (fun e w' => ∃ v L', e = .returned v ∧ R v L' ∧ sat L' w') .ret a w
  | _, _, _ => False
theorem RQ_post {fn : Func} {R : Value → List Asn → Prop} (e : Exit) (a : Act) (w : World) (h : RQ P fn R e a w) : bodyPostM (FW none) 0 P fn (fun e w' => ∃ v L', e = .returned v ∧ R v L' ∧ sat L' w') e a w := by
  cases e <;> first | exact h | exact h.elim
def argSp : Nat → List Value → Sp
  | _, [] => []
  | k, v :: vs => (k, v) :: argSp (k + 1) vs
theorem look_argSp : ∀ (vs : List Value) (k j : Nat) (v : Value), look (argSp k vs) j = some v → k ≤ j ∧ vs[j - k]? = some v
  | [], _, _, _, h => by cases h
  | u :: vs, k, j, v, h => by
    simp only [argSp, look] at h
    cases hb : Nat.beq k j with
    | true => rw [hb] at h; have := Nat.eq_of_beq_eq_true hb; subst this; simp at h; subst h; simp
    | false =>
      rw [hb] at h
      obtain ⟨h1, h2⟩ := look_argSp vs (k + 1) j v h
      refine ⟨by omega, ?_⟩
      rw [show j - k = (j - (k + 1)) + 1 by omega]; simpa using h2

theorem Ct_of {f : FuncId} {fn : Func} {c : Code} {args : List Value} {R : Value → List Asn → Prop} (hf : P.funcs[f]? = some fn) (hb : fn.body = some c) (hn : fn.ntmps = n) (ha : Nat.ble args.length n = true)
    (h : H n [] (argSp 0 args) L (W none P c (RQ P fn R))) : Ct P f args L R := by
  intro w hs
  have ha' : args.length ≤ n := Nat.le_of_ble_eq_true ha
  refine (callsIn_wide (n := 0)).1 (callsIn_of_wp_marks hf hb trivial (wpIn_mono (h _ w ⟨?_, rfl, ?_⟩ hs) RQ_post))
  · simp [hn]; omega
  · intro k v hv
    obtain ⟨_, h2⟩ := look_argSp args 0 k v hv
    have hlt : k < args.length := by have := (List.getElem?_eq_some_iff.1 h2).1; omega
    simp only [Nat.sub_zero] at h2
    rw [List.getElem?_eq_getElem hlt] at h2
    simpa [Array.getElem?_append, hlt] using h2

/-- what the results read -/
def ResOk (P : Program) (S : Sp) (L : List Asn) : List ResultVar → List Value → Prop
  | [], [] => True
  | .tmp t :: rs, v :: vs => look S t = some v ∧ ResOk P S L rs vs
  | .cell t ty :: rs, v :: vs => (∃ b o, look S t = some (.pointer (some ⟨b, o, none⟩)) ∧ ∀ w, sat L w → (loadVar ty ⟨b, o, none⟩).run P w = .ok v w) ∧ ResOk P S L rs vs
  | _, _ => False
def resV : List Value → Value
  | [v] => v
  | vs => .tuple vs.toArray

theorem run_results {fn : Func} {rs : List ResultVar} {vs : List Value} (hr : fn.results = rs.toArray) (h : ResOk P S L rs vs) (hk : K n ds S a) (hs : sat L w) : (results fn a.tmps).run P w = .ok (resV vs) w := by
  have key : ∀ (F : ResultVar → Sem Value), (∀ t, F (.tmp t) = pure (a.tmps.getD t undef)) → (∀ b t, F (.cell b t) = (do loadVar t (← asAddr (a.tmps.getD b undef)))) →
      ∀ (rs : List ResultVar) (vs : List Value), ResOk P S L rs vs → (rs.mapM F).run P w = .ok vs w := by
    intro F f1 f2 rs
    induction rs with
    | nil => intro vs h; cases vs with | nil => rfl | cons _ _ => exact h.elim
    | cons x rs ih =>
      intro vs h
      cases vs with
      | nil => cases x <;> exact h.elim
      | cons v vs =>
        rw [List.mapM_cons]
        cases x with
        | tmp t =>
          obtain ⟨h1, h2⟩ := h
          have e1 : a.tmps.getD t undef = v := by simp [Array.getD_eq_getD_getElem?, hk.at_ t v h1]
          simp only [Sem.run_bind, Sem.run_pure, Result.andThen_ok, f1, e1, ih vs h2]
        | cell t ty =>
          obtain ⟨⟨b, o, h1, h3⟩, h2⟩ := h
          have e1 : a.tmps.getD t undef = .pointer (some ⟨b, o, none⟩) := by simp [Array.getD_eq_getD_getElem?, hk.at_ t _ h1]
          simp only [Sem.run_bind, Sem.run_pure, Result.andThen_ok, f2, e1, asAddr, h3 w hs, ih vs h2]
  unfold results
  rw [hr]
  simp only [List.mapM_toArray, Sem.run_bind, Sem.run_map]
  rw [key _ (fun _ => rfl) (fun _ _ => rfl) rs vs h]
  simp only [Result.andThen_ok, Sem.run_pure]
  congr 1
  match vs with
  | [] => rfl
  | [v] => rfl
  | u :: v :: vs => simp [resV]

theorem H_fin {fn : Func} {R : Value → List Asn → Prop} {rs : List ResultVar} {vs : List Value} {e : Exit} (he : e = .ret ∨ e = .normal) (hr : fn.results = rs.toArray) (h : ResOk P S L rs vs) (hR : ∃ L', R (resV vs) L' ∧ ∀ w, sat L w → sat L' w) :
    H n [] S L (RQ P fn R e) := by
  intro a w hk hs
  obtain ⟨L', h1, h2⟩ := hR
  have := run_results hr h hk hs
  rcases he with rfl | rfl
  all_goals
    simp only [RQ, bodyPostM, hk.ds, LeavesInM, LeavesIn]
    exact ⟨_, this, _, _, rfl, h1, h2 w hs⟩

end Go.SL
namespace Go.SL

variable {n : Nat} {ds : List Deferred} {S : Sp} {a : Act} {L : List Asn} {w : World} {P : Program} {r : Option Nat} {Q : Exit → Act → World → Prop}

/-! # regions that draw their order -/
class Mixed (P : Program) : Prop where
  follows : P.follows .mixedOrders = true
class NoPan (Q : Exit → Act → World → Prop) : Prop where
  np : ∀ c a w, ¬ Q (.panic c) a w
instance {G : Act → World → Prop} [h : NoPan Q] : NoPan (Exit.then G Q) := ⟨fun c a w q => h.np c a w q⟩
instance {id : Nat} [h : NoPan Q] : NoPan (Exit.inBlock id Q) := ⟨fun c a w q => h.np c a w q⟩

section
variable {ops : Array Oper} {Φ : World → Prop} {md : Region.Mode}

/-- in this frame, in every world of Φ, o yields v and leaves the world -/
def QY (P : Program) (Φ : World → Prop) (ops : Array Oper) (o : Oper) (v : Value) (a : Act) : Prop :=
  (∀ c, o.op ≠ .defer c) ∧ ((Region.wanted o (yielded ops a.tmps) = true ∧ ∀ w, Φ w → (execOp a.eval o).run P w = .ok (.value v) w) ∨ (Region.wanted o (yielded ops a.tmps) = false ∧ v = undef))

def wpAX (r : Option Nat) (P : Program) (md : Region.Mode) (ops : Array Oper) (Ψ : Array Bool → World → Prop) (Q : Exit → Act → World → Prop) : Nat → Array Bool → Act → World → Prop
  | 0, listed, a, w => Region.ready md ops listed = [] ∧ Q .normal a w
  | fuel + 1, listed, a, w =>
    (Region.ready md ops listed = [] → Q .normal a w) ∧
    ∀ i ∈ Region.ready md ops listed, wpOpIn (FW r) 0 P ops Q i (fun a w => Ψ (listed.setIfInBounds i true) w ∧ wpAX r P md ops Ψ Q fuel (listed.setIfInBounds i true) a w) a w

variable {Ψ : Array Bool → World → Prop}
theorem wpAX_any : ∀ (fuel : Nat) (listed : Array Bool) (a : Act) (w : World), wpAX r P md ops Ψ Q fuel listed a w → wpAnyIn (FW r) 0 P md ops Q fuel listed a w
  | 0, _, _, _, h => h
  | fuel + 1, _, _, _, h => ⟨h.1, fun i hi => wpOpIn_mono (fun a w h' => wpAX_any fuel _ a w h'.2) (h.2 i hi)⟩

theorem QY.wpOpIn {i : Nat} {o : Oper} {v : Value} {a : Act} (hi : ops[i]? = some o) (hy : QY P Φ ops o v a) {K : Act → World → Prop} {w : World} (hw0 : Φ w) (h : K (a.put o.dst v) w) : wpOpIn (FW r) 0 P ops Q i K a w := by
  unfold Go.wpOpIn
  simp only [hi]
  rcases hy.2 with ⟨hw, hv⟩ | ⟨hw, rfl⟩
  · simp only [hw, if_true, Oper.wpIn]
    refine ⟨fun _ _ => trivial, ?_⟩
    rw [semAt_FW hy.1, hv w hw0]
    exact h
  · simp only [hw, Bool.false_eq_true, if_false]; exact ⟨fun _ _ => trivial, h⟩

theorem QY.of_same {o : Oper} {v : Value} {a a' : Act} (hy : QY P Φ ops o v a) (he : execOp a'.eval o = execOp a.eval o)
    (hw : Region.wanted o (yielded ops a'.tmps) = Region.wanted o (yielded ops a.tmps)) : QY P Φ ops o v a' := by
  unfold QY at *; rw [he, hw]; exact hy

theorem wpOpIn_putX {j : Nat} {oi oj : Oper} {v : Value} (hnd : ∀ c, oj.op ≠ .defer c) (hj : ops[j]? = some oj) (hap : oi.apart ops oj = true)
    (hsi : ∀ cs b, oi.op ≠ .select cs b) (hsj : ∀ cs b, oj.op ≠ .select cs b) [hQ : NoPan Q] {K : Act → World → Prop} {a : Act} {w : World}
    (hy : QY P Φ ops oi v a) (h : wpOpIn (FW r) 0 P ops Q j K (a.put oi.dst v) w) :
    wpOpIn (FW r) 0 P ops Q j (fun a' w' => QY P Φ ops oi v a' ∧ K (a'.put oi.dst v) w') a w := by
  obtain ⟨h1, h2, h3⟩ := Oper.apart_spec hap
  have keep : ∀ (a : Act), QY P Φ ops oi v a → ∀ u, QY P Φ ops oi v (a.put oj.dst u) := fun a hy u =>
    hy.of_same (execOp_put oi hsi a oj.dst u h3) (wanted_put oi a oj.dst u h3)
  have keepD : ∀ d, QY P Φ ops oi v { a with defers := d :: a.defers } := fun d => hy.of_same rfl rfl
  unfold wpOpIn at *
  simp only [hj] at *
  rw [wanted_put oj a oi.dst v h1] at h
  split
  · rename_i hw
    simp only [hw, if_true] at h
    unfold Oper.wpIn at *
    refine ⟨fun _ _ => trivial, ?_⟩
    have h := h.2
    rw [semAt_FW hnd, execOp_put oj hsj a oi.dst v h1] at h
    rw [semAt_FW hnd]
    generalize (execOp a.eval oj).run P w = rr at *
    cases rr with
    | ok x w' =>
      cases x <;> simp only [Oper.uponIn] at h ⊢
      case value u => exact ⟨keep a hy u, by rw [← Act.put_comm a v u h2]; exact h⟩
      case skip => exact ⟨keep a hy _, by rw [← Act.put_comm a v undef h2]; exact h⟩
      case defer d =>
        refine ⟨keep _ (keepD d) _, ?_⟩
        rw [← Act.put_comm _ v undef h2, ← Act.put_defers]
        exact h
      case enter f args =>
        refine ⟨h.1, CallsIn.mono h.2 fun e w'' he => ?_⟩
        cases e with
        | returned u => exact ⟨keep a hy u, by rw [← Act.put_comm a v u h2]; exact he⟩
        | panicked c => exact (hQ.np _ _ _ he).elim
        | outgrown => exact he
      case row row args => exact ⟨h.1, RowsIn.mono h.2 fun u w'' he => ⟨keep a hy u, by rw [← Act.put_comm a v u h2]; exact he⟩⟩
      case round l f tmps assign body =>
        refine ⟨h.1, RoundIn.mono h.2 fun e w'' he => ?_⟩
        cases e with
        | returned u => exact ⟨keep a hy u, by rw [← Act.put_comm a v u h2]; exact he⟩
        | panicked c => exact (hQ.np _ _ _ he).elim
        | outgrown => exact he
    | halt x w' =>
      cases x <;> simp only [Oper.uponIn] at h ⊢
      case panic u => exact (hQ.np _ _ _ h).elim
  · rename_i hw
    simp only [hw] at h
    exact ⟨fun _ _ => trivial, keep a hy _, by rw [← Act.put_comm a v undef h2]; exact h.2⟩

theorem wpAX_first {i : Nat} {oi : Oper} {v : Value} {I : Array Bool → Prop} (h1 : ∀ listed w, I listed → Ψ listed w → Φ w) (h2 : ∀ listed w, I listed → (Ψ (listed.setIfInBounds i true) w ↔ Ψ listed w))
    (hI : ∀ listed j, I listed → j ∈ Region.ready md ops listed → listed.getD i true = false → j ≠ i → I (listed.setIfInBounds j true))
    (hi : ops[i]? = some oi) (hsel : ∀ (j : Nat) (o : Oper) cs b, ops[j]? = some o → o.op ≠ .select cs b) (hnd : ∀ (j : Nat) (o : Oper) c, ops[j]? = some o → o.op ≠ .defer c) [NoPan Q] :
    ∀ (fuel : Nat) (listed : Array Bool) (a : Act) (w : World), I listed →
      (∀ j oj, ops[j]? = some oj → j ≠ i → listed.getD j true = false → (∀ e ∈ oj.after, Region.binds md e = true → e.on ≠ i) → oi.apart ops oj = true) →
      i ∈ Region.ready md ops listed → Ψ listed w → QY P Φ ops oi v a →
      wpAX r P md ops Ψ Q fuel (listed.setIfInBounds i true) (a.put oi.dst v) w → wpAX r P md ops Ψ Q (fuel + 1) listed a w := by
  intro fuel
  induction fuel with
  | zero =>
    intro listed a w hIl _ hr hw hy hh
    refine ⟨fun h => (by rw [h] at hr; cases hr), fun j hj => ?_⟩
    by_cases hji : j = i
    · subst hji; exact hy.wpOpIn hi (h1 _ _ hIl hw) ⟨(h2 _ _ hIl).2 hw, hh⟩
    · have := ready_mono hj hji
      rw [hh.1] at this
      cases this
  | succ fuel ih =>
    intro listed a w hIl hfree hr hw hy hh
    refine ⟨fun h => (by rw [h] at hr; cases hr), fun j hj => ?_⟩
    by_cases hji : j = i
    · subst hji; exact hy.wpOpIn hi (h1 _ _ hIl hw) ⟨(h2 _ _ hIl).2 hw, hh⟩
    · have h1' := hh.2 j (ready_mono hj hji)
      obtain ⟨hjun, oj, hoj, hall⟩ := mem_ready.1 hj
      have hnot : ∀ e ∈ oj.after, Region.binds md e = true → e.on ≠ i := fun e he hb heq => by
        have h1 := hall e he hb
        have h0 := (mem_ready.1 hr).1
        rw [heq] at h1
        rcases Nat.lt_or_ge i listed.size with h' | h'
        · simp [h'] at h0 h1; rw [h0] at h1; cases h1
        · simp [Array.getElem?_eq_none h'] at h1
      have h2' := wpOpIn_putX (fun c => hnd j oj c hoj) hoj (hfree j oj hoj hji hjun hnot) (fun cs b => hsel i oi cs b hi) (fun cs b => hsel j oj cs b hoj) hy h1'
      have hfree' : ∀ k ok, ops[k]? = some ok → k ≠ i → (listed.setIfInBounds j true).getD k true = false →
          (∀ e ∈ ok.after, Region.binds md e = true → e.on ≠ i) → oi.apart ops ok = true := fun k ok hk hki hun hno => by
        refine hfree k ok hk hki ?_ hno
        by_cases hjk : j = k
        · subst hjk; exact hjun
        · rw [getD_set_ne true hjk] at hun; exact hun
      have hIj := hI listed j hIl hj (mem_ready.1 hr).1 hji
      refine wpOpIn_mono (fun a' w' h3 => ?_) h2'
      have h4 : Ψ (listed.setIfInBounds j true) w' := by
        have := h3.2.1
        rw [Array.setIfInBounds_comm _ _ (Ne.symm hji)] at this
        exact (h2 _ _ hIj).1 this
      refine ⟨h4, ih (listed.setIfInBounds j true) a' w' hIj hfree' (ready_mono hr (Ne.symm hji)) h4 h3.1 ?_⟩
      rw [Array.setIfInBounds_comm _ _ hji]
      exact h3.2.2

/-- The order that we walk: whatever is quiet and free is taken first; else the one that may come up. 'true': taken as it comes. -/
def xok (md : Region.Mode) (ops : Array Oper) : List (Nat × Bool) → Array Bool → Bool
  | [], listed => Region.ready md ops listed == []
  | (i, false) :: rest, listed => (Region.ready md ops listed).contains i && Region.free md ops listed i && xok md ops rest (listed.setIfInBounds i true)
  | (i, true) :: rest, listed => Region.ready md ops listed == [i] && xok md ops rest (listed.setIfInBounds i true)

def noDefer (ops : Array Oper) : Bool := ops.all fun o => match o.op with | .defer .. => false | _ => true
theorem noDefer_spec (h : noDefer ops = true) (j : Nat) (o : Oper) (c : Call) (ho : ops[j]? = some o) : o.op ≠ .defer c := by
  intro e
  unfold noDefer at h
  rw [Array.all_eq_true] at h
  obtain ⟨hj, rfl⟩ := Array.getElem?_eq_some_iff.1 ho
  have := h j hj
  rw [e] at this
  cases this

/-- one operation behind the other; behind operation B nothing is kept -/
def wpX (r : Option Nat) (P : Program) (ops : Array Oper) (B : Nat) (Q : Exit → Act → World → Prop) : (World → Prop) → List (Nat × Bool) → Act → World → Prop
  | _, [], a, w => Q .normal a w
  | Φ, (i, true) :: rest, a, w => match Nat.beq i B with
    | true => wpOpIn (FW r) 0 P ops Q i (fun a w => wpX r P ops B Q (sat []) rest a w) a w
    | false => wpOpIn (FW r) 0 P ops Q i (fun a w => Φ w ∧ wpX r P ops B Q Φ rest a w) a w
  | Φ, (i, false) :: rest, a, w => ∃ o v, ops[i]? = some o ∧ QY P Φ ops o v a ∧ wpX r P ops B Q Φ rest (a.put o.dst v) w

/-- does i stand ahead of B? (the fuel: over how many edges) -/
def ahead (md : Region.Mode) (ops : Array Oper) (i : Nat) : Nat → Nat → Bool
  | 0, _ => false
  | f + 1, B => match ops[B]? with
    | none => false
    | some o => o.after.any fun e => Region.binds md e && (e.on == i || ahead md ops i f e.on)
/-- what is listed has all that it stands behind listed -/
def Cl (md : Region.Mode) (ops : Array Oper) (listed : Array Bool) : Prop := ∀ j o, ops[j]? = some o → listed.getD j false = true → ∀ e ∈ o.after, Region.binds md e = true → listed.getD e.on false = true
theorem Cl_set {listed : Array Bool} {j : Nat} (h : Cl md ops listed) (hj : j ∈ Region.ready md ops listed) : Cl md ops (listed.setIfInBounds j true) := by
  intro k o hk hl e he hb
  obtain ⟨_, oj, hoj, hall⟩ := mem_ready.1 hj
  by_cases hkj : j = k
  · subst hkj; rw [hoj] at hk; cases hk; exact getD_set_true (hall e he hb)
  · rw [getD_set_ne false hkj] at hl; exact getD_set_true (h k o hk hl e he hb)
theorem ahead_not {listed : Array Bool} {i : Nat} (h : Cl md ops listed) (hi : listed.getD i false = false) : ∀ (f B : Nat), ahead md ops i f B = true → listed.getD B false = false ∧ B ∉ Region.ready md ops listed
  | 0, _, e => by cases e
  | f + 1, B, e => by
    simp only [ahead] at e
    split at e
    · cases e
    · rename_i o ho
      obtain ⟨x, hx, hx2⟩ := Array.any_eq_true'.1 e
      simp only [Bool.and_eq_true, Bool.or_eq_true, beq_iff_eq] at hx2
      have hun : listed.getD x.on false = false := by
        rcases hx2.2 with e1 | e1
        · rw [e1]; exact hi
        · exact (ahead_not h hi f x.on e1).1
      refine ⟨?_, fun hr => ?_⟩
      · cases hb : listed.getD B false with
        | false => rfl
        | true => have := h B o ho hb x hx hx2.1; rw [hun] at this; cases this
      · obtain ⟨_, o', ho', hall⟩ := mem_ready.1 hr
        rw [ho] at ho'; cases ho'
        have := hall x hx hx2.1; rw [hun] at this; cases this
/-- the quiet ones that are listed ahead of B must stand ahead of it -/
def barOk (md : Region.Mode) (ops : Array Oper) (B : Nat) : List (Nat × Bool) → Bool
  | [] => true
  | (i, true) :: rest => if i == B then true else barOk md ops B rest
  | (i, false) :: rest => i != B && (match ops[B]? with | none => true | some _ => ahead md ops i 4 B) && barOk md ops B rest

theorem sat_nil' {w : World} : sat [] w := ⟨fun _ => none, fun _ => rfl, fun _ _ h => by cases h⟩
def Ph (B : Nat) (Φ : World → Prop) (listed : Array Bool) (w : World) : Prop := listed.getD B false = true ∨ Φ w

theorem getD_set_keep {l : Array Bool} {i B : Nat} (h : l.getD B false = true) : (l.setIfInBounds i true).getD B false = true := by
  by_cases e : i = B
  · subst e
    rcases Nat.lt_or_ge i l.size with h' | h'
    · simp [h']
    · simp [Array.getElem?_eq_none h'] at h
  · rw [getD_set_ne false e]; exact h

theorem wpAX_of2 {B : Nat} {π : List (Nat × Bool)} (hs : Region.noSelect ops = true) (hd : noDefer ops = true) [NoPan Q] : ∀ (listed : Array Bool) (a : Act) (w : World), xok md ops π listed = true → listed.getD B false = true → wpX r P ops B Q (sat []) π a w →
    wpAX r P md ops (Ph B Φ) Q π.length listed a w := by
  induction π with
  | nil => intro listed a w hx _ h; exact ⟨by simpa [xok] using hx, h⟩
  | cons x rest ih =>
    obtain ⟨i, b⟩ := x
    intro listed a w hx hB h
    cases b with
    | true =>
      simp only [xok, Bool.and_eq_true, beq_iff_eq] at hx
      refine ⟨fun e => (by rw [e] at hx; cases hx.1), fun j hj => ?_⟩
      rw [hx.1] at hj
      simp only [List.mem_singleton] at hj
      subst hj
      simp only [wpX] at h
      split at h
      · exact wpOpIn_mono (fun a w h' => ⟨.inl (getD_set_keep hB), ih _ a w hx.2 (getD_set_keep hB) h'⟩) h
      · exact wpOpIn_mono (fun a w h' => ⟨.inl (getD_set_keep hB), ih _ a w hx.2 (getD_set_keep hB) h'.2⟩) h
    | false =>
      simp only [xok, Bool.and_eq_true] at hx
      obtain ⟨o, v, ho, hy, h'⟩ := h
      exact wpAX_first (Φ := sat []) (I := fun l => l.getD B false = true) (fun _ _ _ _ => sat_nil') (fun l w hI => ⟨fun _ => .inl hI, fun _ => .inl (getD_set_keep hI)⟩) (fun l j hI _ _ _ => getD_set_keep hI)
        ho (Region.noSelect_spec hs) (fun j o c => noDefer_spec hd j o c) rest.length listed a w hB (Region.free_spec ho hx.1.2) (by simpa using hx.1.1) (.inl hB) hy (ih _ _ w hx.2 (getD_set_keep hB) h')

theorem wpAX_of {B : Nat} {π : List (Nat × Bool)} (hs : Region.noSelect ops = true) (hd : noDefer ops = true) [NoPan Q] : ∀ (listed : Array Bool) (a : Act) (w : World), xok md ops π listed = true → barOk md ops B π = true → listed.getD B false = false → Cl md ops listed → Φ w → wpX r P ops B Q Φ π a w →
    wpAX r P md ops (Ph B Φ) Q π.length listed a w := by
  induction π with
  | nil => intro listed a w hx _ _ _ _ h; exact ⟨by simpa [xok] using hx, h⟩
  | cons x rest ih =>
    obtain ⟨i, b⟩ := x
    intro listed a w hx hb hB hCl hw h
    cases b with
    | true =>
      simp only [xok, Bool.and_eq_true, beq_iff_eq] at hx
      refine ⟨fun e => (by rw [e] at hx; cases hx.1), fun j hj => ?_⟩
      have hri : j ∈ Region.ready md ops listed := hj
      rw [hx.1] at hj
      simp only [List.mem_singleton] at hj
      subst hj
      simp only [wpX] at h
      split at h
      · rename_i he
        have he := Nat.eq_of_beq_eq_true he
        subst he
        have hlt : j < listed.size := by
          have := (mem_ready.1 hri).1
          rcases Nat.lt_or_ge j listed.size with h' | h'
          · exact h'
          · simp [Array.getElem?_eq_none h'] at this
        have h1 : (listed.setIfInBounds j true).getD j false = true := by simp [hlt]
        exact wpOpIn_mono (fun a w h' => ⟨.inl h1, wpAX_of2 hs hd _ a w hx.2 h1 h'⟩) h
      · rename_i he
        have hne : j ≠ B := fun e => by subst e; simp at he
        have h1 : (listed.setIfInBounds j true).getD B false = false := by rw [getD_set_ne false hne]; exact hB
        have hb' : barOk md ops B rest = true := by simp only [barOk] at hb; rw [if_neg (by simpa using hne)] at hb; exact hb
        exact wpOpIn_mono (fun a w h' => ⟨.inr h'.1, ih _ a w hx.2 hb' h1 (Cl_set hCl hri) h'.1 h'.2⟩) h
    | false =>
      simp only [xok, Bool.and_eq_true] at hx
      simp only [barOk, Bool.and_eq_true, bne_iff_ne] at hb
      obtain ⟨⟨hne, hb1⟩, hb2⟩ := hb
      obtain ⟨o, v, ho, hy, h'⟩ := h
      have hset : ∀ l : Array Bool, (l.setIfInBounds i true).getD B false = l.getD B false := fun l => getD_set_ne false hne
      refine wpAX_first (Φ := Φ) (I := fun l => l.getD B false = false ∧ Cl md ops l) (fun l w hI h => h.elim (fun e => by rw [hI.1] at e; cases e) id) (fun l w hI => by simp only [Ph, hset]) (fun l j hI hj hiu hji => ?_)
        ho (Region.noSelect_spec hs) (fun j o c => noDefer_spec hd j o c) rest.length listed a w ⟨hB, hCl⟩ (Region.free_spec ho hx.1.2) (by simpa using hx.1.1) (.inr hw) hy (ih _ _ w hx.2 hb2 (by rw [hset]; exact hB) (Cl_set hCl (by simpa using hx.1.1)) hw h')
      have hiu' : l.getD i false = false := by
        rcases Nat.lt_or_ge i l.size with h' | h'
        · simpa [h'] using hiu
        · simp [Array.getElem?_eq_none h'] at hiu
      have hjB : j ≠ B := by
        rintro rfl
        obtain ⟨_, oj, hoj, hall⟩ := mem_ready.1 hj
        rw [hoj] at hb1
        exact (ahead_not hI.2 hiu' 4 j hb1).2 hj
      exact ⟨by rw [getD_set_ne false hjB]; exact hI.1, Cl_set hI.2 hj⟩
end

/-- a Bool on a region and the order that we walk -/
def drawB (l : List Oper) (B : Nat) (π : List (Nat × Bool)) : Bool := barOk .any l.toArray B π && Region.noSelect l.toArray && noDefer l.toArray && Nat.beq π.length l.length && xok .any l.toArray π (Array.replicate l.length false)

def XL (r : Option Nat) (P : Program) (l0 : List Oper) (B : Nat) (M : List Asn) (Q : Exit → Act → World → Prop) (π : List (Nat × Bool)) : Act → World → Prop := fun a w => wpX r P l0.toArray B Q (sat M) π a w

theorem getD_rep (n i : Nat) : (Array.replicate n false).getD i false = false := by simp [Array.getElem?_replicate]; split <;> rfl
/-- **a region that draws its order**: M: what every operation of it keeps, and what the quiet ones read -/
theorem H_draw {id : Nat} {l : List Oper} (B : Nat) (M : List Asn) (π : List (Nat × Bool)) [hm : Mixed P] [NoPan Q] (hB : drawB l B π = true) (hM : ∀ w, sat L w → sat M w)
    (h : H n ds S L (XL r P l B M Q π)) : H n ds S L (W r P (.region id l.toArray true) Q) := by
  intro a w hk hs
  simp only [drawB, Bool.and_eq_true] at hB
  obtain ⟨⟨⟨⟨h0, h1⟩, h2⟩, h3⟩, h4⟩ := hB
  have h3' : π.length = l.length := Nat.eq_of_beq_eq_true h3
  refine wpIn_region_any hm.follows (wpAX_any (Ψ := Ph B (sat M)) _ _ _ _ ?_)
  have := wpAX_of (r := r) (P := P) (Q := Q) (Φ := sat M) h1 h2 _ a { w with drawn := w.drawn + 1 } h4 h0 (getD_rep _ _) (fun j o _ h => by rw [getD_rep] at h; cases h) (hM w hs) (h a { w with drawn := w.drawn + 1 } hk hs)
  rw [h3'] at this
  simpa using this

variable {l0 : List Oper} {B : Nat} {M : List Asn} {rest : List (Nat × Bool)}
theorem X_nil (h : H n ds S L (Q .normal)) : H n ds S L (XL r P l0 B M Q []) := h

/-- a quiet operation -/
theorem X_y {i d : Nat} {op : Op} {ty : TypeId} {ps : String} {af : Array Edge} {v : Value} (ho : l0[i]? = some ⟨some d, op, ty, ps, af, none⟩) (hy : Y P S M ⟨some d, op, ty, ps, af, none⟩ v) (hlt : Nat.blt d n = true)
    (h : H n ds ((d, v) :: S) L (XL r P l0 B M Q rest)) : H n ds S L (XL r P l0 B M Q ((i, false) :: rest)) :=
  fun a w hk hs => ⟨_, v, by simpa using ho, ⟨hy.1, .inl ⟨by simp [Region.wanted], fun w' hw' => hy.2 _ _ a w' hk hw'⟩⟩, h _ w (hk.put hlt) hs⟩
theorem X_yg {i d j t : Nat} {b : Bool} {op : Op} {ty : TypeId} {ps : String} {af : Array Edge} {v : Value} (ho : l0[i]? = some ⟨some d, op, ty, ps, af, some (j, b)⟩) (hj : (l0[j]?).bind Oper.dst = some t) (ht : look S t = some (.bool b))
    (hy : Y P S M ⟨some d, op, ty, ps, af, none⟩ v) (hlt : Nat.blt d n = true)
    (h : H n ds ((d, v) :: S) L (XL r P l0 B M Q rest)) : H n ds S L (XL r P l0 B M Q ((i, false) :: rest)) := fun a w hk hs => by
  have hyl : yielded l0.toArray a.tmps j = some b := by
    simp only [yielded, List.getElem?_toArray, hj, Option.bind_some, hk.at_ t _ ht]
  exact ⟨⟨some d, op, ty, ps, af, some (j, b)⟩, v, by simpa using ho, ⟨hy.1, .inl ⟨by simp [Region.wanted, hyl], fun w' hw' => hy.2 _ _ a w' hk hw'⟩⟩, h _ w (hk.put hlt) hs⟩
theorem X_skip {i d j t : Nat} {b b' : Bool} {op : Op} {ty : TypeId} {ps : String} {af : Array Edge} (ho : l0[i]? = some ⟨some d, op, ty, ps, af, some (j, b)⟩) (hj : (l0[j]?).bind Oper.dst = some t) (ht : look S t = some (.bool b'))
    (hne : (b' == b) = false) (hnd : ∀ c, op ≠ .defer c) (hlt : Nat.blt d n = true)
    (h : H n ds ((d, undef) :: S) L (XL r P l0 B M Q rest)) : H n ds S L (XL r P l0 B M Q ((i, false) :: rest)) := fun a w hk hs => by
  have hyl : yielded l0.toArray a.tmps j = some b' := by
    simp only [yielded, List.getElem?_toArray, hj, Option.bind_some, hk.at_ t _ ht]
  have hn : (some b' == some b) = false := by simpa using hne
  exact ⟨_, undef, by simpa using ho, ⟨hnd, .inr ⟨by simp only [Region.wanted, hyl]; exact hn, rfl⟩⟩, h _ w (hk.put hlt) hs⟩
/-- one that turns memory, or calls: by its own rule -/
theorem X_loud {i : Nat} {o : Oper} (hiB : Nat.beq i B = false) (ho : l0[i]? = some o) (h : H n ds S L (TL r P l0 (Exit.then (fun a w => sat M w ∧ XL r P l0 B M Q rest a w) Q) [o])) : H n ds S L (XL r P l0 B M Q ((i, true) :: rest)) := by
  intro a w hk hs
  have h' := h a w hk hs
  simp only [TL, wpListIn] at h'
  simp only [XL, wpX, hiB, wpOpIn, List.getElem?_toArray, ho]
  split
  · rename_i hw; rw [if_pos hw] at h'
    refine ⟨fun _ _ => trivial, ?_⟩
    have h2 := h'.2
    generalize (o.semAt (FW r).round a.eval).run P w = rr at *
    cases rr with
    | ok x w' =>
      cases x <;> simp only [Oper.uponIn] at h2 ⊢
      case value u => exact h2
      case skip => exact h2
      case defer d => exact h2
      case enter f args => exact ⟨h2.1, h2.2.mono fun e w'' he => by cases e <;> exact he⟩
      case row row args => exact h2
      case round l f tmps assign body => exact ⟨h2.1, h2.2.mono fun e w'' he => by cases e <;> exact he⟩
    | halt x w' => cases x <;> simp only [Oper.uponIn] at h2 ⊢; exact h2
  · rename_i hw; rw [if_neg hw] at h'; exact h'
/-- the last one that needs what is kept -/
theorem X_bar {o : Oper} (ho : l0[B]? = some o) (h : H n ds S L (TL r P l0 (Exit.then (fun a w => XL r P l0 B [] Q rest a w) Q) [o])) : H n ds S L (XL r P l0 B M Q ((B, true) :: rest)) := by
  intro a w hk hs
  have h' := h a w hk hs
  simp only [TL, wpListIn] at h'
  simp only [XL, wpX, Nat.beq_refl, wpOpIn, List.getElem?_toArray, ho]
  split
  · rename_i hw; rw [if_pos hw] at h'
    refine ⟨fun _ _ => trivial, ?_⟩
    have h2 := h'.2
    generalize (o.semAt (FW r).round a.eval).run P w = rr at *
    cases rr with
    | ok x w' =>
      cases x <;> simp only [Oper.uponIn] at h2 ⊢
      case value u => exact h2
      case skip => exact h2
      case defer d => exact h2
      case enter f args => exact ⟨h2.1, h2.2.mono fun e w'' he => by cases e <;> exact he⟩
      case row row args => exact h2
      case round l f tmps assign body => exact ⟨h2.1, h2.2.mono fun e w'' he => by cases e <;> exact he⟩
    | halt x w' => cases x <;> simp only [Oper.uponIn] at h2 ⊢; exact h2
  · rename_i hw; rw [if_neg hw] at h'; exact h'
theorem X_next {G : Act → World → Prop} (hM : ∀ w, sat L w → sat M w) (h : H n ds S L G) : H n ds S L (fun a w => sat M w ∧ G a w) := fun a w hk hs => ⟨hM w hs, h a w hk hs⟩

end Go.SL
namespace Go.SL

variable {n : Nat} {ds : List Deferred} {S : Sp} {a : Act} {L : List Asn} {w : World} {P : Program} {r : Option Nat} {Q : Exit → Act → World → Prop}
variable {ty : TypeId} {ps : String} {af : Array Edge} {d : Nat} {dst : Option Tmp} {l0 rest : List Oper}

/-! # slices of one's own -/
def one (xs : List Value) : Prop := ∀ u ∈ xs, u.oneCell' = true
theorem one_nil : one [] := fun _ h => by cases h
theorem one_append {xs ys : List Value} (hx : one xs) (hy : one ys) : one (xs ++ ys) := fun u hu => (List.mem_append.1 hu).elim (hx u) (hy u)
theorem one_map {α : Type} {f : α → Value} (h : ∀ x, (f x).oneCell' = true) (l : List α) : one (l.map f) := fun u hu => by
  obtain ⟨x, _, rfl⟩ := List.mem_map.1 hu; exact h x

/-- The slice (a, k, c) with elements of sz cells, type e, owns its array; xs: the cells of its k elements. -/
def slc (e sz : Nat) (a : Option Addr) (k c : Nat) (xs : List Value) : Asn := fun h =>
  (a = none ∧ k = 0 ∧ c = 0 ∧ xs = [] ∧ ∀ b, h b = none) ∨
  (∃ b pre spare, a = some ⟨b, pre.length, none⟩ ∧ k ≤ c ∧ c ≤ maxLen ∧ xs.length = k * sz ∧ spare.length = (c - k) * sz ∧ one xs ∧ cl b (pre ++ xs ++ spare) e h)

theorem sat_slc {e sz k c : Nat} {a : Option Addr} {xs : List Value} : sat (slc e sz a k c xs :: L) w ↔
    (a = none ∧ k = 0 ∧ c = 0 ∧ xs = [] ∧ sat L w) ∨
    (∃ b pre spare, a = some ⟨b, pre.length, none⟩ ∧ k ≤ c ∧ c ≤ maxLen ∧ xs.length = k * sz ∧ spare.length = (c - k) * sz ∧ one xs ∧ sat (cl b (pre ++ xs ++ spare) e :: L) w) := by
  constructor
  · rintro ⟨h, ⟨h1, h2, dd, rfl, (⟨e1, e2, e3, e4, e5⟩ | ⟨b, pre, spare, e1, e2, e3, e4, e5, e6, e7⟩), l⟩, rr⟩
    · exact .inl ⟨e1, e2, e3, e4, sat_pu.1 ⟨_, ⟨h1, h2, dd, rfl, ⟨trivial, e5⟩, l⟩, rr⟩ |>.2⟩
    · exact .inr ⟨b, pre, spare, e1, e2, e3, e4, e5, e6, ⟨_, ⟨h1, h2, dd, rfl, e7, l⟩, rr⟩⟩
  · rintro (⟨e1, e2, e3, e4, hs⟩ | ⟨b, pre, spare, e1, e2, e3, e4, e5, e6, ⟨h, ⟨h1, h2, dd, rfl, e7, l⟩, rr⟩⟩)
    · obtain ⟨h, ⟨h1, h2, dd, rfl, ⟨_, e5⟩, l⟩, rr⟩ := sat_pu.2 ⟨trivial, hs⟩
      exact ⟨_, ⟨h1, h2, dd, rfl, .inl ⟨e1, e2, e3, e4, e5⟩, l⟩, rr⟩
    · exact ⟨_, ⟨h1, h2, dd, rfl, .inr ⟨b, pre, spare, e1, e2, e3, e4, e5, e6, e7⟩, l⟩, rr⟩

theorem slc_nil {e sz : Nat} (hs : sat L w) : sat (slc e sz none 0 0 [] :: L) w := sat_slc.2 (.inl ⟨rfl, rfl, rfl, rfl, hs⟩)
theorem slc_of_cl {e sz b k : Nat} {xs : List Value} (hs : sat (cl b xs e :: L) w) (hl : xs.length = k * sz) (hk : k ≤ maxLen) (h1 : one xs) : sat (slc e sz (some ⟨b, 0, none⟩) k k xs :: L) w :=
  sat_slc.2 (.inr ⟨b, [], [], rfl, Nat.le_refl _, hk, hl, by simp, h1, by simpa using hs⟩)
theorem slc_len {e sz k c : Nat} {a : Option Addr} {xs : List Value} (hs : sat (slc e sz a k c xs :: L) w) : xs.length = k * sz ∧ k ≤ maxLen ∧ k ≤ c ∧ one xs := by
  rcases sat_slc.1 hs with ⟨_, rfl, rfl, rfl, _⟩ | ⟨b, pre, spare, rfl, h1, h2, h3, _, h4, _⟩
  · exact ⟨by simp, Nat.zero_le _, Nat.le_refl _, one_nil⟩
  · exact ⟨h3, by omega, h1, h4⟩


theorem slc_some {e sz k c : Nat} {a : Option Addr} {xs : List Value} (hs : sat (slc e sz a k c xs :: L) w) (hk : 0 < k) : ∃ b o, a = some ⟨b, o, none⟩ := by
  rcases sat_slc.1 hs with ⟨_, rfl, _⟩ | ⟨b, pre, spare, rfl, _⟩
  · omega
  · exact ⟨_, _, rfl⟩
theorem H_some {e sz k c : Nat} {p : Option Addr} {xs : List Value} {L' : List Asn} {G : Act → World → Prop} (pk : Pick (slc e sz p k c xs) L L') (hk : 0 < k) (h : ∀ b o, p = some ⟨b, o, none⟩ → H n ds S L G) : H n ds S L G :=
  fun a w hk' hs => let ⟨b, o, e⟩ := slc_some (sat_pick pk hs) hk; h b o e a w hk' hs
theorem H_slclen {e sz k c : Nat} {p : Option Addr} {xs : List Value} {L' : List Asn} {G : Act → World → Prop} (pk : Pick (slc e sz p k c xs) L L') (h : xs.length = k * sz → k ≤ maxLen → k ≤ c → one xs → H n ds S L G) : H n ds S L G :=
  fun a w hk' hs => let ⟨h1, h2, h3, h4⟩ := slc_len (sat_pick pk hs); h h1 h2 h3 h4 a w hk' hs

theorem slc_cell {e sz k c b o : Nat} {xs : List Value} (hs : sat (slc e sz (some ⟨b, o, none⟩) k c xs :: L) w) {j : Nat} {v : Value} (h : xs[j]? = some v) : w.cell? ⟨b, o + j, none⟩ = some v := by
  rcases sat_slc.1 hs with ⟨e1, _⟩ | ⟨b', pre, spare, e1, _, _, _, _, _, hs'⟩
  · cases e1
  · simp only [Option.some.injEq, Addr.mk.injEq] at e1
    obtain ⟨rfl, rfl, _⟩ := e1
    refine sat_cell hs' ?_
    have hj := (List.getElem?_eq_some_iff.1 h).1
    rw [List.getElem?_append_left (by simp; omega), List.getElem?_append_right (by omega)]
    simpa using h
theorem Vl_slc {e sz k c b o j : Nat} {xs : List Value} {v : Value} {L' : List Asn} (pk : Pick (slc e sz (some ⟨b, o, none⟩) k c xs) L L') (h : xs[j]? = some v) : Vl L b (o + j) v :=
  fun _ hs => slc_cell (sat_pick pk hs) h

/-- In this world the cells from p on are xs. -/
def rdw (w : World) (p : Option Addr) (xs : List Value) : Prop := xs = [] ∨ ∃ b o, p = some ⟨b, o, none⟩ ∧ ∀ j v, xs[j]? = some v → w.cell? ⟨b, o + j, none⟩ = some v
def Rd (L : List Asn) (p : Option Addr) (xs : List Value) : Prop := ∀ w, sat L w → rdw w p xs
theorem Rd_nil {p : Option Addr} : Rd L p [] := fun _ _ => .inl rfl
theorem rdw_slc {e sz k c : Nat} {p : Option Addr} {xs : List Value} (hs : sat (slc e sz p k c xs :: L) w) : rdw w p xs := by
  rcases sat_slc.1 hs with ⟨_, _, _, rfl, _⟩ | ⟨b, pre, spare, rfl, _⟩
  · exact .inl rfl
  · exact .inr ⟨b, pre.length, rfl, fun j v hj => slc_cell hs hj⟩
theorem Rd_slc {e sz k c : Nat} {p : Option Addr} {xs : List Value} {L' : List Asn} (pk : Pick (slc e sz p k c xs) L L') : Rd L p xs := fun _ hs => rdw_slc (sat_pick pk hs)
theorem Rd_cl {e b : Nat} {cs : List Value} {L' : List Asn} (pk : Pick (cl b cs e) L L') : Rd L (some ⟨b, 0, none⟩) cs := fun _ hs =>
  .inr ⟨b, 0, rfl, fun j v hj => by rw [Nat.zero_add]; exact sat_cell (sat_pick pk hs) hj⟩
theorem Rd_base {w0 : World} {p : Option Addr} {xs : List Value} {L' : List Asn} (pk : Pick (base w0) L L') (h : rdw w0 p xs) : Rd L p xs := fun w hs => by
  rcases h with rfl | ⟨b, o, rfl, h⟩
  · exact .inl rfl
  · exact .inr ⟨b, o, rfl, fun j v hj => Vl_base pk (h j v hj) w hs⟩
theorem Rd_Vl {b o j : Nat} {xs : List Value} {v : Value} (h : Rd L (some ⟨b, o, none⟩) xs) (hj : xs[j]? = some v) : Vl L b (o + j) v := fun w hs => by
  rcases h w hs with rfl | ⟨b', o', e, h⟩
  · simp at hj
  · simp only [Option.some.injEq, Addr.mk.injEq] at e
    obtain ⟨rfl, rfl, _⟩ := e
    exact h j v hj
theorem Rd_more {p : Option Addr} {xs : List Value} {A : Asn} (h : Rd L p xs) : Rd (A :: L) p xs := fun w hs => h w (sat_drop hs)
theorem Rd_mono {p : Option Addr} {xs : List Value} {L' : List Asn} (h : Rd L' p xs) (hl : ∀ w, sat L w → sat L' w) : Rd L p xs := fun w hs => h w (hl w hs)
theorem H_Rd_some {p : Option Addr} {xs : List Value} {G : Act → World → Prop} (hr : Rd L p xs) (hx : xs ≠ []) (h : ∀ b o, p = some ⟨b, o, none⟩ → H n ds S L G) : H n ds S L G := fun a w hk hs => by
  rcases hr w hs with e | ⟨b, o, e, _⟩
  · exact absurd e hx
  · exact h b o e a w hk hs

theorem run_append_sl {t e sz by_ : Nat} [ht : SlT P t e sz by_] {z : Value} [hz : ZeroT P e z sz] {p q : Option Addr} {k c m c2 : Nat} {xs news : List Value} (hs : sat (slc e sz p k c xs :: L) w) (hr : rdw w q news)
    (hl : news.length = m * sz) (h1 : one news) (hb : (k + m) * by_ ≤ 140737488355328) (hm : k + m ≤ maxLen) :
    ∃ p' c' w', (Builtin.append_ #[t, t] ty #[.slice p k c, .slice q m c2]).run P w = .ok (.slice p' (k + m) c') w' ∧ sat (slc e sz p' (k + m) c' (xs ++ news) :: L) w' := by
  obtain ⟨i, i1, i2, i3⟩ := ht.info
  obtain ⟨i', j1, j2, j3⟩ := hz.info
  rw [i1] at j1; cases j1
  have hpos := ht.pos
  subst i2; subst i3
  have hzs := hz.size
  have hlx := slc_len hs
  by_cases hm0 : m = 0
  · subst hm0
    have hn : news = [] := List.eq_nil_of_length_eq_zero (by simpa using hl)
    subst hn
    refine ⟨p, c, w, ?_, by simpa using hs⟩
    have hk : k + 0 ≤ c := hlx.2.2.1
    cases q with
    | none => cases p <;> simp [Builtin.append_, run_underlying ht.und, sizeOf, typeInfo, i1, Builtin.lenOf, hlx.2.2.1, Builtin.firstCells, storeCells]
    | some q => cases p <;> simp [Builtin.append_, run_underlying ht.und, sizeOf, typeInfo, i1, Builtin.lenOf, hlx.2.2.1, Builtin.firstCells, storeCells, loadCells, loadCellsFrom]
  · have hne : news ≠ [] := by
      intro e; rw [e] at hl; have := Nat.mul_pos (Nat.pos_of_ne_zero hm0) hpos; simp at hl; omega
    rcases hr with e | ⟨qb, qo, rfl, hr⟩
    · exact absurd e hne
    have hnews : ∀ j u, news[j]? = some u → w.cell? ((⟨qb, qo, none⟩ : Addr).add j) = some u := fun j u hj => by rw [Addr.add_none]; exact hr j u hj
    rcases sat_slc.1 hs with ⟨rfl, rfl, rfl, rfl, hs0⟩ | ⟨b, pre, spare, rfl, e2, e3, e4, e5, e6, hs'⟩
    · have hrun := run_append_nil (P := P) w t ty e i z ht.und i1 j2 ⟨qb, qo, none⟩ m c2 news hl hnews (by omega) (by simp only [maxLen] at hm; omega) (by simp only [Nat.zero_add] at hb; omega)
      refine ⟨_, _, _, by rw [Nat.zero_add]; exact hrun, ?_⟩
      have hge := grownCap_ge w m 0 e
      have hcm := grownCap_le_maxLen w m 0 e (by omega)
      refine sat_slc.2 (.inr ⟨w.heap.size, [], (Builtin.zeroCells z.cells (grownCap w m 0 e - m)).toList, rfl, by omega, hcm, by simpa using hl, by simp [size_zeroCells, hzs], by simpa using h1, ?_⟩)
      have := sat_alloc (w := w.drew) (o := .cells (news.toArray ++ Builtin.zeroCells z.cells (grownCap w m 0 e - m)) e (0, 0)) (sat_drew hs0)
      have e1 : news.toArray ++ Builtin.zeroCells z.cells (grownCap w m 0 e - m) = ([] ++ ([] ++ news) ++ (Builtin.zeroCells z.cells (grownCap w m 0 e - m)).toList).toArray := by apply Array.ext'; simp
      show sat (pt w.heap.size (.cells ([] ++ ([] ++ news) ++ (Builtin.zeroCells z.cells (grownCap w m 0 e - m)).toList).toArray e (0, 0)) :: L) _
      rw [← e1]
      exact this
    · by_cases hroom : k + m ≤ c
      · have hg := sat_cl hs'
        have hf := run_firstCells_some (P := P) w i.size m ⟨qb, qo, none⟩ m c2 news hl hnews
        have hsz : spare.length = (c - k) * i.size := e5
        have hms : m * i.size ≤ (c - k) * i.size := Nat.mul_le_mul_right _ (by omega)
        have hst := run_storeCells_at P b (pre.length + k * i.size) e news 0 (pre ++ xs ++ spare).toArray w hg (by simp; omega) h1
        simp only [Nat.add_zero] at hst
        have e7 : (⟨b, pre.length, none⟩ : Addr).add (k * i.size) = ⟨b, pre.length + k * i.size, none⟩ := Addr.add_none _ _ _
        refine ⟨some ⟨b, pre.length, none⟩, c, _, by simp [Builtin.append_, run_underlying ht.und, sizeOf, typeInfo, i1, Builtin.lenOf, hroom, hf, e7, hst]; rfl, ?_⟩
        have e8 : (pre ++ xs ++ spare).take (pre.length + k * i.size) ++ news ++ (pre ++ xs ++ spare).drop (pre.length + k * i.size + news.length) = pre ++ (xs ++ news) ++ spare.drop news.length := by
          have hX : pre.length + k * i.size = (pre ++ xs).length := by simp [e4]
          rw [hX, List.take_left, List.drop_append, List.drop_eq_nil_of_le (by omega)]
          simp
        have := sat_setRow (cs' := pre ++ (xs ++ news) ++ spare.drop news.length) hs'
        rw [← e8] at this
        refine sat_slc.2 (.inr ⟨b, pre, spare.drop news.length, rfl, hroom, e3, ?_, ?_, one_append e6 h1, ?_⟩)
        · simp [e4, hl, Nat.add_mul]
        · simp [e5, hl, ← Nat.sub_mul]; congr 1; omega
        · rw [e8] at this; simp only [List.append_assoc] at e8 ⊢; rw [e8]; simpa [List.append_assoc] using this
      · have hrun := run_append_grow (P := P) w t ty e i z ht.und i1 j2 ⟨b, pre.length, none⟩ k c xs e4 (fun j u hj => by rw [Addr.add_none]; exact slc_cell hs hj) ⟨qb, qo, none⟩ m c2 news hl hnews (by omega) (by simp only [maxLen] at hm; omega) (growslice_fits (by omega) hb)
        refine ⟨_, _, _, hrun, ?_⟩
        have hge := grownCap_ge w (k + m) c e
        have hcm := grownCap_le_maxLen w (k + m) c e hm
        refine sat_slc.2 (.inr ⟨w.heap.size, [], (Builtin.zeroCells z.cells (grownCap w (k + m) c e - (k + m))).toList, rfl, by omega, hcm, by simp [e4, hl, Nat.add_mul], by simp [size_zeroCells, hzs], one_append e6 h1, ?_⟩)
        have := sat_alloc (w := w.drew) (o := .cells (xs.toArray ++ news.toArray ++ Builtin.zeroCells z.cells (grownCap w (k + m) c e - (k + m))) e (0, 0)) (sat_drop hs')
        have e1 : xs.toArray ++ news.toArray ++ Builtin.zeroCells z.cells (grownCap w (k + m) c e - (k + m)) = ([] ++ (xs ++ news) ++ (Builtin.zeroCells z.cells (grownCap w (k + m) c e - (k + m))).toList).toArray := by apply Array.ext'; simp
        show sat (pt w.heap.size (.cells ([] ++ (xs ++ news) ++ (Builtin.zeroCells z.cells (grownCap w (k + m) c e - (k + m))).toList).toArray e (0, 0)) :: L) _
        rw [← e1]
        exact this

/-- 'append(xs, ys...)' onto a slice of one's own -/
theorem T_append {t e sz by_ : Nat} [ht : SlT P t e sz by_] {z : Value} [hz : ZeroT P e z sz] {x y : Operand} {p q : Option Addr} {k c m c2 : Nat} {xs news : List Value} {L' : List Asn}
    (hx : ev S x = some (.slice p k c)) (hy : ev S y = some (.slice q m c2)) (pk : Pick (slc e sz p k c xs) L L') (hr : Rd L q news)
    (hl : news.length = m * sz) (h1 : one news) (hb : (k + m) * by_ ≤ 140737488355328) (hm : k + m ≤ maxLen) (hlt : Nat.blt d n = true)
    (h : ∀ p' c', H n ds ((d, .slice p' (k + m) c') :: S) (slc e sz p' (k + m) c' (xs ++ news) :: L') (TL r P l0 Q rest)) :
    H n ds S L (TL r P l0 Q (⟨some d, .call ⟨.builtin .append, #[x, y], #[t, t]⟩, ty, ps, af, none⟩ :: rest)) := by
  refine TL_go nofun hlt fun a w hk hs => ?_
  obtain ⟨p', c', w', h2, h3⟩ := run_append_sl (P := P) (ty := ty) (t := t) (c2 := c2) (sat_pick pk hs) (hr w hs) hl h1 hb hm
  exact ⟨_, w', _, by simp [execOp, resolve, invoke, builtin, hk.ev hx, hk.ev hy, h2], h3, h p' c'⟩

/-- a slice written out: its array's cells are what 'fill' makes of the parts -/
theorem T_buildSlice {t e sz by_ : Nat} [ht : SlT P t e sz by_] {z : Value} [hz : ZeroT P e z sz] {len : Nat} {parts : Array (Nat × Operand)} {vs : List (Nat × Value)} {cs : List Value}
    (hp : evs S (parts.toList.map (·.2)) = some (vs.map (·.2))) (hi : parts.toList.map (·.1) = vs.map (·.1)) (hlen : len * sz ≤ 16777216)
    (hf : Instr.fill (fun i => some (i * sz, sz)) ((Array.range (len * sz)).map (z.cells[· % z.cells.size]!)) vs = some cs.toArray) (hlt : Nat.blt d n = true)
    (h : ∀ b, H n ds ((d, .slice (some ⟨b, 0, none⟩) len len) :: S) (cl b cs e :: L) (TL r P l0 Q rest)) :
    H n ds S L (TL r P l0 Q (⟨some d, .buildSlice t len parts, ty, ps, af, none⟩ :: rest)) := by
  obtain ⟨i, i1, i2, i3⟩ := ht.info
  obtain ⟨i', j1, j2, j3⟩ := hz.info
  rw [i1] at j1; cases j1
  refine TL_go nofun hlt fun a w hk hs => ⟨_, _, _, ?_, sat_alloc (o := .cells cs.toArray e (0, 0)) hs, h _⟩
  have e1 : (parts.map fun (i, x) => (i, a.eval x)).toList = vs := by
    rw [Array.toList_map]
    have e2 := hk.evs hp
    have : ∀ (ps : List (Nat × Operand)) (us : List (Nat × Value)), ps.map (·.1) = us.map (·.1) → (ps.map (·.2)).map a.eval = us.map (·.2) → ps.map (fun (i, x) => (i, a.eval x)) = us := by
      intro ps
      induction ps with
      | nil => intro us h1 _; cases us <;> simp_all
      | cons p ps ih =>
        intro us h1 h2
        cases us with
        | nil => simp at h1
        | cons u us =>
          simp only [List.map_cons, List.cons.injEq] at h1 h2
          obtain ⟨p1, p2⟩ := p
          obtain ⟨u1, u2⟩ := u
          simp only [List.map_cons, ih us h1.2 h2.2]
          simp only at h1 h2
          rw [h1.1, h2.1]
    exact this _ _ hi e2
  have e0 : ¬ 2 ^ 24 < len * sz := by omega
  have e1' : parts.toList.map (fun x => (x.1, a.eval x.2)) = vs := by rw [← e1, Array.toList_map]
  have e2 : (parts.map fun (i, x) => (i, a.eval x)).toList = vs := by rw [Array.toList_map]; exact e1'
  simp only [execOp, Instr.buildSlice, Sem.run_bind, run_underlying ht.und, Result.andThen_ok, sizeOf, typeInfo, run_program, i1, Sem.run_pure, i2, Sem.run_ite]
  rw [if_neg e0]
  simp only [Sem.run_bind, Sem.run_ite, zeroValue, typeInfo, Result.andThen_ok, run_program, i1, Sem.run_pure, j2]
  by_cases hls : len * sz = 0
  · rw [if_pos hls]
    have e5 : Array.map (fun x => (#[] : Array Value)[x % (#[] : Array Value).size]!) (Array.range (len * sz)) = Array.map (fun x => z.cells[x % z.cells.size]!) (Array.range (len * sz)) := by rw [hls]; apply Array.ext'; simp
    rw [e5, e2, hf]
    simp [newRow]
  · rw [if_neg hls, e2, hf]
    simp [newRow]

end Go.SL
namespace Go.SL

variable {n : Nat} {ds : List Deferred} {S : Sp} {a : Act} {L : List Asn} {w : World} {P : Program} {r : Option Nat} {Q : Exit → Act → World → Prop}
variable {ty : TypeId} {ps : String} {af : Array Edge} {d : Nat} {dst : Option Tmp} {l0 rest : List Oper}

/-! # more that yields a value -/
theorem Y_pick {c x y : Operand} {b : Bool} {u v : Value} (hc : ev S c = some (.bool b)) (hx : ev S x = some u) (hy : ev S y = some v) : Y P S L ⟨dst, .pick c x y, ty, ps, af, none⟩ (if b then u else v) :=
  ⟨nofun, fun _ _ a w hk _ => by simp [execOp, hk.ev hc, hk.ev hx, hk.ev hy, asBool]⟩
theorem Y_pick_t {c x y : Operand} {u : Value} (hc : ev S c = some (.bool true)) (hx : ev S x = some u) : Y P S L ⟨dst, .pick c x y, ty, ps, af, none⟩ u :=
  ⟨nofun, fun _ _ a w hk _ => by simp [execOp, hk.ev hc, hk.ev hx, asBool]⟩
theorem Y_pick_f {c x y : Operand} {u : Value} (hc : ev S c = some (.bool false)) (hx : ev S y = some u) : Y P S L ⟨dst, .pick c x y, ty, ps, af, none⟩ u :=
  ⟨nofun, fun _ _ a w hk _ => by simp [execOp, hk.ev hc, hk.ev hx, asBool]⟩
theorem Y_field {t f off ft fs : Nat} [hf : FieldAt P t f off ft fs] [hs : Scal P ft] {x : Operand} {cs : List Value} {v : Value} (hx : ev S x = some (.agg cs.toArray)) (hv : cs[off]? = some v) :
    Y P S L ⟨dst, .field t x f, ty, ps, af, none⟩ v := by
  obtain ⟨fields, fd, h1, h2, h3, h4⟩ := hf.und
  obtain ⟨D, h5, h6⟩ := hs.und
  refine ⟨nofun, fun _ _ a w hk _ => ?_⟩
  subst h4
  have hA : (isAgg fd.type).run P w = .ok false w := by cases D <;> simp_all [isAgg, isAggD, run_underlying h5]
  simp [execOp, hk.ev hx, Instr.field, run_underlying h1, h2, part, asAgg, hA, h3, hv]
theorem Y_fieldA {t f off ft fs : Nat} [hf : FieldAt P t f off ft fs] [hs : AggT P ft fs] {x : Operand} {cs : List Value} (hx : ev S x = some (.agg cs.toArray)) :
    Y P S L ⟨dst, .field t x f, ty, ps, af, none⟩ (.agg ((cs.drop off).take fs).toArray) := by
  obtain ⟨fields, fd, h1, h2, h3, h4⟩ := hf.und
  obtain ⟨D, h5, h6⟩ := hs.und
  obtain ⟨i, h7, h8⟩ := hs.size
  refine ⟨nofun, fun _ _ a w hk _ => ?_⟩
  subst h4
  have hA : (isAgg fd.type).run P w = .ok true w := by cases D <;> simp_all [isAgg, isAggD, run_underlying h5]
  have e : cs.toArray.extract off (off + fs) = ((cs.drop off).take fs).toArray := by apply Array.ext'; simp [List.take_drop]
  simp [execOp, hk.ev hx, Instr.field, run_underlying h1, h2, part, asAgg, hA, h3, sizeOf, typeInfo, h7, h8, e]
theorem Y_build {t : Nat} {pl : List (Nat × Nat)} {z : List Value} [ht : StructT P t pl z] {parts : Array (Nat × Operand)} {vs : List (Nat × Value)} {cs : List Value}
    (hp : evs S (parts.toList.map (·.2)) = some (vs.map (·.2))) (hi : parts.toList.map (·.1) = vs.map (·.1)) (hf : Instr.fill (fun i => pl[i]?) z.toArray vs = some cs.toArray) :
    Y P S L ⟨dst, .build t parts, ty, ps, af, none⟩ (.agg cs.toArray) := by
  obtain ⟨fields, h1, h2⟩ := ht.und
  obtain ⟨i, h3, h4⟩ := ht.zero
  refine ⟨nofun, fun _ _ a w hk _ => ?_⟩
  have e1 : parts.toList.map (fun x => (x.1, a.eval x.2)) = vs := by
    have e2 := hk.evs hp
    have : ∀ (ps : List (Nat × Operand)) (us : List (Nat × Value)), ps.map (·.1) = us.map (·.1) → (ps.map (·.2)).map a.eval = us.map (·.2) → ps.map (fun x => (x.1, a.eval x.2)) = us := by
      intro ps
      induction ps with
      | nil => intro us h1 _; cases us <;> simp_all
      | cons p ps ih =>
        intro us h1 h2
        cases us with
        | nil => simp at h1
        | cons u us =>
          simp only [List.map_cons, List.cons.injEq] at h1 h2
          obtain ⟨p1, p2⟩ := p
          obtain ⟨u1, u2⟩ := u
          simp only [List.map_cons, ih us h1.2 h2.2]
          simp only at h1 h2
          rw [h1.1, h2.1]
    exact this _ _ hi e2
  have e3 : (parts.map fun (i, x) => (i, a.eval x)).toList = vs := by rw [Array.toList_map]; exact e1
  simp only [execOp, Instr.build, Sem.run_bind, zeroValue, typeInfo, run_program, Result.andThen_ok, h3, h4, Sem.run_pure, run_underlying h1]
  have h2' := h2 w
  simp only [sizeOf, typeInfo, bind_pure_comp] at h2' ⊢
  rw [h2']
  simp only [Result.andThen_ok, List.getElem?_toArray, Value.cells]
  rw [e3, hf]
  rfl
theorem Y_slice {t e sz by_ : Nat} [h1 : SlT P t e sz by_] {x : Operand} {lo hi : Option Operand} {p : Option Addr} {k c i j : Nat} (hx : ev S x = some (.slice p k c))
    (hlo : match lo with | none => i = 0 | some y => ∃ ik, ev S y = some (.int ik (i : Int))) (hhi : match hi with | none => j = k | some y => ∃ ik, ev S y = some (.int ik (j : Int))) (hij : i ≤ j) (hjc : j ≤ c) :
    Y P S L ⟨dst, .slice t x lo hi none, ty, ps, af, none⟩ (.slice (if c = i then p else p.map (·.add (i * sz))) (j - i) (c - i)) := by
  obtain ⟨inf, h2, h3, _⟩ := h1.info
  refine ⟨nofun, fun _ _ a w hk _ => ?_⟩
  have e0 : (match (hi.map a.eval) with | some v => Instr.sliceBound v c .sliceAcap | none => pure k : Sem Nat).run P w = .ok j w := by
    cases hi with
    | none => simp at hhi; subst hhi; rfl
    | some y => obtain ⟨ik, hy⟩ := hhi; simp [Instr.sliceBound, hk.ev hy, asIntOf, hjc]
  have e1 : (match (lo.map a.eval) with | some v => Instr.sliceBound v j .sliceB | none => pure 0 : Sem Nat).run P w = .ok i w := by
    cases lo with
    | none => simp at hlo; subst hlo; rfl
    | some y => obtain ⟨ik, hy⟩ := hlo; simp [Instr.sliceBound, hk.ev hy, asIntOf, hij]
  cases hi with
  | none =>
    simp at hhi; subst hhi
    cases lo with
    | none => simp at hlo; subst hlo; simp [execOp, hk.ev hx, Instr.sliceAt, Instr.slice, Instr.sliceBounds, run_underlying h1.und, sizeOf, typeInfo, h2, h3]
    | some y => simp at e1; simp [execOp, hk.ev hx, Instr.sliceAt, Instr.slice, Instr.sliceBounds, run_underlying h1.und, sizeOf, typeInfo, h2, h3, e1]
  | some yh =>
    simp at e0
    cases lo with
    | none => simp at hlo; subst hlo; simp [execOp, hk.ev hx, Instr.sliceAt, Instr.slice, Instr.sliceBounds, run_underlying h1.und, sizeOf, typeInfo, h2, h3, e0]
    | some y => simp at e1; simp [execOp, hk.ev hx, Instr.sliceAt, Instr.slice, Instr.sliceBounds, run_underlying h1.und, sizeOf, typeInfo, h2, h3, e0, e1]
theorem Y_min2 {t : Array TypeId} {x y : Operand} {k : IntKind} {i j : Int} (hx : ev S x = some (.int k i)) (hy : ev S y = some (.int k j)) :
    Y P S L ⟨dst, .call ⟨.builtin .min, #[x, y], t⟩, ty, ps, af, none⟩ (.int k (if j < i then j else i)) :=
  ⟨nofun, fun _ _ a w hk _ => by simp [execOp, resolve, invoke, builtin, Builtin.min_, Builtin.min2, hk.ev hx, hk.ev hy]⟩
theorem Y_max2 {t : Array TypeId} {x y : Operand} {k : IntKind} {i j : Int} (hx : ev S x = some (.int k i)) (hy : ev S y = some (.int k j)) :
    Y P S L ⟨dst, .call ⟨.builtin .max, #[x, y], t⟩, ty, ps, af, none⟩ (.int k (if i < j then j else i)) :=
  ⟨nofun, fun _ _ a w hk _ => by simp [execOp, resolve, invoke, builtin, Builtin.max_, Builtin.max2, hk.ev hx, hk.ev hy]⟩
theorem run_eql_slice_nil {t e : TypeId} (h1 : P.underlying t = some (.slice e)) (p : Option Addr) (k c : Nat) (w : World) : (binOp .eql t (.slice p k c) (.slice none 0 0)).run P w = .ok (.bool p.isNone) w := by
  have : binOp .eql t (.slice p k c) (.slice none 0 0) = (do pure (.bool (← Op.equal t (.slice p k c) (.slice none 0 0)))) := rfl
  rw [this]
  unfold Op.equal Op.maxDepth
  rw [show (10000 : Nat) = 9999 + 1 from rfl, Op.equalIn]
  cases p <;> simp [run_underlying h1]
theorem Y_slice_eq_nil {t t2 e sz by_ : Nat} [h1 : SlT P t e sz by_] {x y : Operand} {p : Option Addr} {k c : Nat} (hx : ev S x = some (.slice p k c)) (hy : ev S y = some (.slice none 0 0)) :
    Y P S L ⟨dst, .binOp .eql t x y t2, ty, ps, af, none⟩ (.bool p.isNone) :=
  ⟨nofun, fun _ _ a w hk _ => by simp [execOp, hk.ev hx, hk.ev hy, eqGuard, run_eql_slice_nil h1.und]⟩
theorem run_eql_map_nil' {t k e : TypeId} (h1 : P.underlying t = some (.map k e)) (p : Option Nat) (w : World) : (binOp .eql t (.map p) (.map none)).run P w = .ok (.bool p.isNone) w := by
  have : binOp .eql t (.map p) (.map none) = (do pure (.bool (← Op.equal t (.map p) (.map none)))) := rfl
  rw [this]
  unfold Op.equal Op.maxDepth
  rw [show (10000 : Nat) = 9999 + 1 from rfl, Op.equalIn]
  cases p <;> simp [run_underlying h1]
theorem Y_map_eq_nil {t t2 k e : Nat} [h1 : MapT P t k e] {x y : Operand} {p : Option Nat} (hx : ev S x = some (.map p)) (hy : ev S y = some (.map none)) :
    Y P S L ⟨dst, .binOp .eql t x y t2, ty, ps, af, none⟩ (.bool p.isNone) :=
  ⟨nofun, fun _ _ a w hk _ => by simp [execOp, hk.ev hx, hk.ev hy, eqGuard, run_eql_map_nil' h1.und]⟩

/-! # maps with whole numbers as keys -/
def ent (k : IntKind) (x : Int × Value) : Value × Value := (.int k x.1, x.2)
structure MapOk (k : IntKind) (es : List MapEntry) (clock : Nat) (m : List (Int × Value)) : Prop where
  ents : es.map (fun e => (e.key, e.val)) = m.map (ent k)
  born : ∀ e ∈ es, e.born < clock
  borns : (es.map (·.born)).Nodup
  keys : (m.map (·.1)).Nodup
def mp (b : Nat) (k : IntKind) (m : List (Int × Value)) : Asn := fun h => ∃ es clock, MapOk k es clock m ∧ pt b (.map es.toArray clock) h
theorem sat_mp {b : Nat} {k : IntKind} {m : List (Int × Value)} : sat (mp b k m :: L) w ↔ ∃ es clock, MapOk k es clock m ∧ sat (pt b (.map es.toArray clock) :: L) w :=
  ⟨fun ⟨h, ⟨h1, h2, dd, e, ⟨es, c, ok, p⟩, l⟩, rr⟩ => ⟨es, c, ok, h, ⟨h1, h2, dd, e, p, l⟩, rr⟩, fun ⟨es, c, ok, h, ⟨h1, h2, dd, e, p, l⟩, rr⟩ => ⟨h, ⟨h1, h2, dd, e, ⟨es, c, ok, p⟩, l⟩, rr⟩⟩
theorem mp_new {b : Nat} {k : IntKind} (hs : sat (pt b (.map #[] 0) :: L) w) : sat (mp b k [] :: L) w := sat_mp.2 ⟨[], 0, ⟨rfl, nofun, List.nodup_nil, List.nodup_nil⟩, hs⟩
theorem mp_keys {b : Nat} {k : IntKind} {m : List (Int × Value)} (hs : sat (mp b k m :: L) w) : (m.map (·.1)).Nodup := by obtain ⟨_, _, ok, _⟩ := sat_mp.1 hs; exact ok.keys

theorem findNow_int {k : IntKind} {x : Int} : ∀ (es : List MapEntry) (m : List (Int × Value)) (i : Nat), es.map (fun e => (e.key, e.val)) = m.map (ent k) →
    Instr.findNow (.int k) (.int k x) es i = some (match m.findIdx? (·.1 == x) with | some j => ((m[j]?).map fun y => (i + j, y.2)) | none => none)
  | [], m, i, h => by cases m with | nil => rfl | cons _ _ => simp at h
  | e :: es, m, i, h => by
    cases m with
    | nil => simp at h
    | cons y m =>
      simp only [List.map_cons, List.cons.injEq, ent, Prod.mk.injEq] at h
      obtain ⟨⟨h1, h2⟩, h3⟩ := h
      simp only [Instr.findNow, h1, Instr.sameNow, if_true, List.findIdx?_cons]
      by_cases hx : x = y.1
      · subst hx; simp [h2]
      · have hx' : (x == y.1) = false := by simpa using hx
        have hx2 : (y.1 == x) = false := by simpa using fun e : y.1 = x => hx e.symm
        rw [hx', hx2]
        simp only [Bool.false_eq_true, if_false]
        rw [findNow_int es m (i + 1) h3]
        cases hf : m.findIdx? (·.1 == x) with
        | none => simp
        | some j => simp; cases hm : m[j]? with | none => simp | some z => simp; omega

theorem checkKey_int {kt : TypeId} {k : IntKind} (hk : P.underlying kt = some (.int k)) (b : Bool) (x : Int) (w : World) : (Instr.checkKey b 10000 kt (.int k x)).run P w = .ok () w := by
  rw [show (10000 : Nat) = 9999 + 1 from rfl, Instr.checkKey]
  simp [run_underlying hk]

theorem lookup_find {m : List (Int × Value)} {x : Int} : m.lookup x = (m.findIdx? (·.1 == x)).bind fun j => (m[j]?).map (·.2) := by
  induction m with
  | nil => rfl
  | cons y m ih =>
    simp only [List.lookup, List.findIdx?_cons]
    by_cases h : x = y.1
    · subst h; simp
    · have h1 : (x == y.1) = false := by simpa using h
      have h2 : (y.1 == x) = false := by simpa using fun e : y.1 = x => h e.symm
      simp only [h1, h2, Bool.false_eq_true, if_false, ih]
      cases m.findIdx? (·.1 == x) with
      | none => rfl
      | some j => simp

theorem run_findKey {kt : TypeId} {k : IntKind} (hk : P.underlying kt = some (.int k)) {es : List MapEntry} {clock : Nat} {m : List (Int × Value)} (ok : MapOk k es clock m) (x : Int) (w : World) :
    (Instr.findKey kt (.int k x) es).run P w = .ok (match m.findIdx? (·.1 == x) with | some j => ((m[j]?).map fun y => (j, y.2)) | none => none) w := by
  have := findNow_int (x := x) es m 0 ok.ents
  simp only [Nat.zero_add] at this
  simp only [Instr.findKey, Sem.run_bind, run_underlying hk, Result.andThen_ok, this, Sem.run_pure]

theorem run_lookup {t kt e : TypeId} {k : IntKind} {z : Value} (ht : P.underlying t = some (.map kt e)) (hk : P.underlying kt = some (.int k)) (hz : ∃ i, P.info? e = some i ∧ i.zero = some z) {b : Nat} {m : List (Int × Value)} (hs : sat (mp b k m :: L) w) (x : Int) (ok : Bool) :
    (Instr.lookup t (.map (some b)) (.int k x) ok).run P w = .ok (if ok then .tuple #[(m.lookup x).getD z, .bool (m.lookup x).isSome] else (m.lookup x).getD z) w := by
  obtain ⟨es, clock, hok, hs'⟩ := sat_mp.1 hs
  obtain ⟨i, h1, h2⟩ := hz
  have hg := sat_pt hs'
  have hgo : (getObj b).run P w = .ok (.map es.toArray clock) w := by simp [getObj, Sem.run, hg]
  have hfk := run_findKey (P := P) hk hok x w
  rw [lookup_find]
  simp only [Instr.lookup, Sem.run_bind, run_underlying ht, Result.andThen_ok, hgo, Sem.run_pure, checkKey_int hk, hfk]
  cases hf : m.findIdx? (·.1 == x) with
  | none => simp [zeroValue, typeInfo, h1, h2]
  | some j =>
    have hj := (List.findIdx?_eq_some_iff_getElem.1 hf).1
    simp [List.getElem?_eq_getElem hj]

theorem Y_lookup {t kt e sz : TypeId} {k : IntKind} {z : Value} [ht : MapT P t kt e] [hk : IntT P kt k] [hz : ZeroT P e z sz] {x y : Operand} {b : Nat} {m : List (Int × Value)} {i : Int} {L' : List Asn} (hx : ev S x = some (.map (some b))) (hy : ev S y = some (.int k i))
    (pk : Pick (mp b k m) L L') : Y P S L ⟨dst, .lookup t x y false, ty, ps, af, none⟩ ((m.lookup i).getD z) := by
  obtain ⟨inf, h1, h2, _⟩ := hz.info
  exact ⟨nofun, fun _ _ a w hk' hs => by simp [execOp, hk'.ev hx, hk'.ev hy, run_lookup (P := P) ht.und hk.und ⟨inf, h1, h2⟩ (sat_pick pk hs) i false]⟩
theorem Y_lookupOk {t kt e sz : TypeId} {k : IntKind} {z : Value} [ht : MapT P t kt e] [hk : IntT P kt k] [hz : ZeroT P e z sz] {x y : Operand} {b : Nat} {m : List (Int × Value)} {i : Int} {L' : List Asn} (hx : ev S x = some (.map (some b))) (hy : ev S y = some (.int k i))
    (pk : Pick (mp b k m) L L') : Y P S L ⟨dst, .lookup t x y true, ty, ps, af, none⟩ (.tuple #[(m.lookup i).getD z, .bool (m.lookup i).isSome]) := by
  obtain ⟨inf, h1, h2, _⟩ := hz.info
  exact ⟨nofun, fun _ _ a w hk' hs => by simp [execOp, hk'.ev hx, hk'.ev hy, run_lookup (P := P) ht.und hk.und ⟨inf, h1, h2⟩ (sat_pick pk hs) i true]⟩

/-- what a store into a map makes of it -/
def mset (m : List (Int × Value)) (x : Int) (v : Value) : List (Int × Value) := match m.findIdx? (·.1 == x) with
  | some j => m.set j (x, v)
  | none => m ++ [(x, v)]
/-- what a delete makes of it -/
def mdel (m : List (Int × Value)) (x : Int) : List (Int × Value) := match m.findIdx? (·.1 == x) with
  | some j => m.eraseIdx j
  | none => m

theorem sat_putObj {b : Nat} {o o' : Obj} (hs : sat (pt b o :: L) w) : sat (pt b o' :: L) { w with heap := w.heap.setIfInBounds b o' } := by
  have hg := sat_pt hs
  have hb := (Array.getElem?_eq_some_iff.1 hg).1
  refine sat_upd hs (by simp [Array.getElem?_setIfInBounds, hb]) (fun k hk _ => ?_) ⟨rfl, rfl⟩
  simp [Array.getElem?_setIfInBounds_ne (Ne.symm hk)]
theorem run_setObj {b : Nat} {es : List MapEntry} {clock : Nat} (hs : sat (pt b (.map es.toArray clock) :: L) w) (o : Obj) : (setObj b o).run P w = .ok () { w with heap := w.heap.setIfInBounds b o } := by
  simp [setObj, Sem.run, sat_pt hs]

theorem findIdx_lt {m : List (Int × Value)} {x : Int} {j : Nat} (h : m.findIdx? (·.1 == x) = some j) : ∃ hj : j < m.length, m[j].1 = x := by
  obtain ⟨hj, h1, _⟩ := List.findIdx?_eq_some_iff_getElem.1 h
  exact ⟨hj, by simpa using h1⟩

theorem run_mapUpdate {t kt e : TypeId} {k : IntKind} (ht : P.underlying t = some (.map kt e)) (hk : P.underlying kt = some (.int k)) {b : Nat} {m : List (Int × Value)} (hs : sat (mp b k m :: L) w) (x : Int) (v : Value) :
    ∃ w', (Instr.mapUpdate t (.map (some b)) (.int k x) v).run P w = .ok () w' ∧ sat (mp b k (mset m x v) :: L) w' := by
  obtain ⟨es, clock, hok, hs'⟩ := sat_mp.1 hs
  have hg := sat_pt hs'
  have hgo : (getObj b).run P w = .ok (.map es.toArray clock) w := by simp [getObj, Sem.run, hg]
  have hfk := run_findKey (P := P) hk hok x w
  have hlen : es.length = m.length := by have := congrArg List.length hok.ents; simpa using this
  simp only [Instr.mapUpdate, Sem.run_bind, run_underlying ht, Result.andThen_ok, hgo, checkKey_int hk, hfk]
  cases hf : m.findIdx? (·.1 == x) with
  | none =>
    refine ⟨_, run_setObj hs' _, sat_mp.2 ⟨es ++ [{ key := .int k x, val := v, born := clock }], clock + 1, ⟨?_, ?_, ?_, ?_⟩, ?_⟩⟩
    · simp [mset, hf, hok.ents, ent]
    · intro e' he
      rcases List.mem_append.1 he with h | h
      · have := hok.born e' h; omega
      · simp at h; subst h; simp
    · rw [List.map_append, List.nodup_append]
      refine ⟨hok.borns, by simp, ?_⟩
      intro a ha c hc
      simp at hc; subst hc
      obtain ⟨e', he, rfl⟩ := List.mem_map.1 ha
      have := hok.born e' he; omega
    · have : x ∉ m.map (·.1) := by
        intro hm
        obtain ⟨y, hy, rfl⟩ := List.mem_map.1 hm
        have := List.findIdx?_eq_none_iff.1 hf y hy
        simp at this
      simp only [mset, hf, List.map_append, List.map_cons, List.map_nil]
      rw [List.nodup_append]
      exact ⟨hok.keys, by simp, fun a ha c hc => by simp at hc; subst hc; rintro rfl; exact this ha⟩
    · have := sat_putObj (o' := .map (es.toArray.push { key := .int k x, val := v, born := clock }) (clock + 1)) hs'
      simpa using this
  | some j =>
    obtain ⟨hj, hx⟩ := findIdx_lt hf
    have hje : j < es.length := by omega
    have hkey : es[j].key = .int k x := by
      have := congrArg (fun l => l[j]?) hok.ents
      simp [hje, hj, ent, hx] at this
      exact this.1
    simp only [List.getElem?_eq_getElem hj, Option.map_some]
    have hks : (Instr.keyThatStays ((((es.toArray)[j]?).map (·.key)).getD (.int k x)) (.int k x)).run P w = .ok (.int k x) w := by
      simp [hje, hkey, Instr.keyThatStays, Instr.sameBits]
    simp only [Sem.run_bind, hks, Result.andThen_ok]
    refine ⟨_, run_setObj hs' _, sat_mp.2 ⟨es.set j { es[j] with key := .int k x, val := v }, clock, ⟨?_, ?_, ?_, ?_⟩, ?_⟩⟩
    · simp only [mset, hf, List.map_set, hok.ents, ent]
    · intro e' he
      rcases List.mem_or_eq_of_mem_set he with h | h
      · exact hok.born e' h
      · subst h; show es[j].born < clock; exact hok.born es[j] (List.getElem_mem hje)
    · rw [List.map_set]
      have : (es.map (·.born)).set j es[j].born = es.map (·.born) := by
        apply List.ext_getElem?; intro i
        by_cases e : j = i
        · subst e; simp [hje]
        · simp [List.getElem?_set_ne e]
      simp only; rw [this]; exact hok.borns
    · simp only [mset, hf, List.map_set]
      have : (m.map (·.1)).set j x = m.map (·.1) := by
        apply List.ext_getElem?; intro i
        by_cases e : j = i
        · subst e; simp [hj, hx]
        · simp [List.getElem?_set_ne e]
      rw [this]; exact hok.keys
    · have := sat_putObj (o' := .map (es.toArray.modify j fun e => { e with key := .int k x, val := v }) clock) hs'
      have e1 : es.toArray.modify j (fun e => { e with key := .int k x, val := v }) = (es.set j { es[j] with key := .int k x, val := v }).toArray := by
        apply Array.ext'
        apply List.ext_getElem?; intro i
        by_cases e : j = i
        · subst e; simp [Array.getElem?_modify, hje]
        · simp [Array.getElem?_modify, e, List.getElem?_set_ne e]
      rw [e1] at this
      rw [e1]
      exact this

theorem T_mapUpdate {t kt e : TypeId} {k : IntKind} [ht : MapT P t kt e] [hk : IntT P kt k] {x y z : Operand} {b : Nat} {m : List (Int × Value)} {i : Int} {v : Value} {L' : List Asn} (hx : ev S x = some (.map (some b))) (hy : ev S y = some (.int k i)) (hz : ev S z = some v)
    (pk : Pick (mp b k m) L L') (h : H n ds S (mp b k (mset m i v) :: L') (TL r P l0 Q rest)) : H n ds S L (TL r P l0 Q (⟨none, .mapUpdate t x y z, ty, ps, af, none⟩ :: rest)) := by
  refine TL_go' nofun fun a w hk' hs => ?_
  obtain ⟨w', h1, h2⟩ := run_mapUpdate (P := P) ht.und hk.und (sat_pick pk hs) i v
  exact ⟨w', _, .inl (by simp [execOp, hk'.ev hx, hk'.ev hy, hk'.ev hz, h1]), h2, h⟩

theorem map_eraseIdx' {α β : Type} (f : α → β) : ∀ (l : List α) (j : Nat), (l.eraseIdx j).map f = (l.map f).eraseIdx j
  | [], _ => rfl
  | _ :: _, 0 => rfl
  | x :: l, j + 1 => by simp [map_eraseIdx' f l j]

theorem run_delete {t kt e ty : TypeId} {k : IntKind} {ts : Array TypeId} (hts : ts[0]? = some t) (ht : P.underlying t = some (.map kt e)) (hk : P.underlying kt = some (.int k)) {b : Nat} {m : List (Int × Value)} (hs : sat (mp b k m :: L) w) (x : Int) :
    ∃ w', (Builtin.delete_ ts ty #[.map (some b), .int k x]).run P w = .ok (.tuple #[]) w' ∧ sat (mp b k (mdel m x) :: L) w' := by
  obtain ⟨es, clock, hok, hs'⟩ := sat_mp.1 hs
  have hg := sat_pt hs'
  have hgo : (getObj b).run P w = .ok (.map es.toArray clock) w := by simp [getObj, Sem.run, hg]
  have hfk := run_findKey (P := P) hk hok x w
  have hlen : es.length = m.length := by have := congrArg List.length hok.ents; simpa using this
  cases hf : m.findIdx? (·.1 == x) with
  | none =>
    rw [hf] at hfk
    refine ⟨_, by simp [Builtin.delete_, hts, run_underlying ht, hgo, checkKey_int hk, hfk, run_setObj hs'], sat_mp.2 ⟨es, clock, ?_, sat_putObj hs'⟩⟩
    simpa [mdel, hf] using hok
  | some j =>
    obtain ⟨hj, hx⟩ := findIdx_lt hf
    have hje : j < es.length := by omega
    rw [hf] at hfk
    simp only [List.getElem?_eq_getElem hj, Option.map_some] at hfk
    have e1 : es.toArray.eraseIdxIfInBounds j = (es.eraseIdx j).toArray := by simp [Array.eraseIdxIfInBounds, hje]
    refine ⟨_, by simp [Builtin.delete_, hts, run_underlying ht, hgo, checkKey_int hk, hfk, run_setObj hs', e1], sat_mp.2 ⟨es.eraseIdx j, clock, ⟨?_, ?_, ?_, ?_⟩, sat_putObj hs'⟩⟩
    · simp only [mdel, hf]; rw [map_eraseIdx', map_eraseIdx', hok.ents]
    · intro e' he; exact hok.born e' (List.mem_of_mem_eraseIdx he)
    · rw [map_eraseIdx']; exact hok.borns.sublist (List.eraseIdx_sublist _ _)
    · simp only [mdel, hf]; rw [map_eraseIdx']; exact hok.keys.sublist (List.eraseIdx_sublist _ _)

theorem T_delete {t kt e : TypeId} {k : IntKind} {t2 : TypeId} [ht : MapT P t kt e] [hk : IntT P kt k] {x y : Operand} {b : Nat} {m : List (Int × Value)} {i : Int} {L' : List Asn} (hx : ev S x = some (.map (some b))) (hy : ev S y = some (.int k i))
    (pk : Pick (mp b k m) L L') (h : H n ds S (mp b k (mdel m i) :: L') (TL r P l0 Q rest)) : H n ds S L (TL r P l0 Q (⟨none, .call ⟨.builtin .delete, #[x, y], #[t, t2]⟩, ty, ps, af, none⟩ :: rest)) := by
  refine TL_go' nofun fun a w hk' hs => ?_
  obtain ⟨w', h1, h2⟩ := run_delete (P := P) (ty := ty) (ts := #[t, t2]) rfl ht.und hk.und (sat_pick pk hs) i
  exact ⟨w', _, .inr ⟨_, by simp [execOp, resolve, invoke, builtin, hk'.ev hx, hk'.ev hy, h1]; rfl⟩, h2, h⟩

end Go.SL
namespace Go.SL

variable {n : Nat} {ds : List Deferred} {S : Sp} {a : Act} {L : List Asn} {w : World} {P : Program} {r : Option Nat} {Q : Exit → Act → World → Prop}
variable {ty : TypeId} {ps : String} {af : Array Edge} {d : Nat} {dst : Option Tmp} {l0 rest : List Oper}

/-! # range over a function -/
/-- yield, of loop l: its i-th call, with the i-th arguments, leads from J i to J (i + 1), or to Jx, having said 'no more'. -/
def Yl (P : Program) (l : Nat) (xs : List (List Value)) (J : Nat → Asn) (Jx : Asn) : Prop :=
  ∀ i args, xs[i]? = some args → ∀ M w, sat (J i :: M) w → YieldAt (FW none) 0 P l args.toArray w fun e w' => (e = .returned (.bool true) ∧ sat (J (i + 1) :: M) w') ∨ (e = .returned (.bool false) ∧ sat (Jx :: M) w')

/-- An iterator: gives xs, one behind the other; I is what it reads. -/
def Iter (P : Program) (gf : FuncId) (lb : List Value) (xs : List (List Value)) (I : List Asn) : Prop :=
  ∀ l J Jx, Yl P l xs J Jx → ∀ M, Ct P gf (.func (.yield l) #[] #[] :: lb) (J 0 :: (I ++ M)) fun _ L' => L' = J xs.length :: (I ++ M) ∨ L' = Jx :: (I ++ M)

/-- a call of yield -/
theorem T_yield {l : Nat} {xs : List (List Value)} {J : Nat → Asn} {Jx : Asn} (hY : Yl P l xs J Jx) {g : Operand} {os : List Operand} {tys : Array TypeId} {args : List Value} (i : Nat) {M : List Asn} (hg : ev S g = some (.func (.yield l) #[] #[]))
    (ho : evs S os = some args) (hi : xs[i]? = some args) (pk : Pick (J i) L M) (hlt : Nat.blt d n = true)
    (ht : H n ds ((d, .bool true) :: S) (J (i + 1) :: M) (TL none P l0 Q rest)) (hf : H n ds ((d, .bool false) :: S) (Jx :: M) (TL none P l0 Q rest)) :
    H n ds S L (TL none P l0 Q (⟨some d, .call ⟨.value g, os.toArray, tys⟩, ty, ps, af, none⟩ :: rest)) := by
  refine TL_run rfl nofun fun a w hk hs => ?_
  have e1 : os.toArray.map a.eval = args.toArray := by apply Array.ext'; simp [hk.evs ho]
  obtain ⟨fn, tmps, assign, body, hy, hR⟩ := hY i args hi M w (sat_pick pk hs)
  refine ⟨.round l fn tmps assign body, w, ?_, ?_⟩
  · simp [execOp, resolve, hk.ev hg, Deferred.ofValue, invoke, e1, hy]
  · refine ⟨fun h => by simp [FW, Fence.wide] at h, hR.mono ?_⟩
    rintro e w' (⟨rfl, hs'⟩ | ⟨rfl, hs'⟩)
    · exact ht _ w' (hk.put hlt) hs'
    · exact hf _ w' (hk.put hlt) hs'

def RoundQ (J : Nat → Asn) (Jx : Code → Asn) (i : Nat) (M : List Asn) : Exit → Act → World → Prop
  | .normal, _, w => sat (J (i + 1) :: M) w
  | .ret, _, w => sat (Jx .ret :: M) w
  | .exit id, _, w => sat (Jx (.exit id) :: M) w
  | .goto t, _, w => sat (Jx (.goto t) :: M) w
  | .panic _, _, _ => False
  | .outgrown, _, _ => False
instance {J : Nat → Asn} {Jx : Code → Asn} {i : Nat} {M : List Asn} : NoPan (RoundQ J Jx i M) := ⟨fun _ _ _ h => h⟩

def foldSp : List Tmp → List Value → Sp → Sp
  | p :: ps, v :: vs, S => foldSp ps vs ((p, v) :: S)
  | _, _, S => S
theorem K_fold : ∀ (ps : List Tmp) (vs : List Value) (t : Array Value) (S : Sp), (∀ p ∈ ps, Nat.blt p n = true) → K n [] S { tmps := t, defers := [] } →
    K n [] (foldSp ps vs S) { tmps := (ps.zip vs).foldl (fun t (p, v) => t.setIfInBounds p v) t, defers := [] }
  | [], _, _, _, _, hk => hk
  | _ :: _, [], _, _, _, hk => by simpa [foldSp] using hk
  | p :: ps, v :: vs, t, S, hp, hk => by
    simp only [foldSp, List.zip_cons_cons, List.foldl_cons]
    exact K_fold ps vs _ _ (fun q hq => hp q (by simp [hq])) (hk.put (hp p (by simp)))

theorem H_rangeFunc {β : Type} {gf : FuncId} [hgf : FnT P gf] {g : Operand} {pz : List Tmp} {assign body : Code} {lb : List Value} {xs : List (List Value)} {I M : List Asn} (hit : Iter P gf lb xs I) (hg : ev S g = some (.func (.func gf) #[] lb.toArray))
    (hps : ∀ x ∈ xs, x.length = pz.length) (hlt : ∀ p ∈ pz, Nat.blt p n = true) (J : Nat → Asn) (Jx : Code → Asn) (S1 : Nat → List Value → β → Sp) (JA : Nat → List Value → β → Asn)
    (hL : ∀ w, sat L w → sat (J 0 :: (I ++ M)) w)
    (hassign : ∀ l i args, xs[i]? = some args → ∀ M', H n [] (foldSp pz args S) (J i :: M') (W (some l) P assign (Exit.then (fun a w => ∃ x, K n [] (S1 i args x) a ∧ sat (JA i args x :: M') w) (fun _ _ _ => False))))
    (hbody : ∀ l i args, xs[i]? = some args → ∀ x M', H n [] (S1 i args x) (JA i args x :: M') (W (some l) P body (RoundQ J Jx i M')))
    (hdone : ∀ D, H n ({ target := .collected D, args := #[] } :: ds) S (J xs.length :: pt D (.deferred (some [])) :: (I ++ M)) (Q .normal))
    (hstop : ∀ D c, H n ({ target := .collected D, args := #[] } :: ds) S (Jx c :: pt D (.deferred (some [])) :: (I ++ M)) (W none P c Q)) :
    H n ds S L (W none P (.rangeFunc g pz.toArray assign body) Q) := by
  intro a w hk hs
  refine wpIn_rangeFunc fun fn hfn => ?_
  obtain ⟨rec, hrec⟩ : ∃ rec : LoopState → Option Code → Loop, rec = fun st pe => { state := st, pending := pe, fn, tmps := a.tmps, params := pz.toArray, assign, body, defers := w.heap.size } := ⟨_, rfl⟩
  obtain ⟨W1, hW1⟩ : ∃ W1, (w.alloc (.deferred (some []))).alloc (.loop (rec .ready none)) = W1 := ⟨_, rfl⟩
  have hs1 : sat (pt (w.heap.size + 1) (.loop (rec .ready none)) :: pt w.heap.size (.deferred (some [])) :: J 0 :: (I ++ M)) W1 := by
    have := sat_alloc (o := .loop (rec .ready none)) (sat_alloc (o := .deferred (some [])) (hL w hs))
    rw [World.size_alloc] at this
    rw [← hW1]; exact this
  refine ⟨w.heap.size + 1, [{ target := .collected w.heap.size, args := #[] }], W1, { target := .fn (.func gf) lb.toArray, args := #[.func (.yield (w.heap.size + 1)) #[] #[]] }, W1, gf,
    #[.func (.yield (w.heap.size + 1)) #[] #[]] ++ lb.toArray, W1, ?_, ?_, ?_, ?_, fun h => by simp [FW, Fence.wide] at h, ?_⟩
  · rw [← hW1, hrec]; exact run_enterLoop_outer _ _ _ _ _
  · simp only [resolve, hk.ev hg]
    simp [Act.eval, Deferred.ofValue]
  · intro _ _; trivial
  · simp [invoke, hgf.enter]
  · -- the iterator, at J and the loop's record beside it
    let J' : Nat → Asn := fun i => stars [J i, pt (w.heap.size + 1) (.loop (rec .ready none)), pt w.heap.size (.deferred (some []))]
    let Jx' : Asn := ex fun c => stars [Jx c, pt (w.heap.size + 1) (.loop (rec .done (some c))), pt w.heap.size (.deferred (some []))]
    have hY : Yl P (w.heap.size + 1) xs J' Jx' := by
      intro i args hi M' wi hsi
      have hsi' : sat (pt (w.heap.size + 1) (.loop (rec .ready none)) :: J i :: pt w.heap.size (.deferred (some [])) :: M') wi := sat_pick (.t .h) (sat_big.1 hsi)
      have hl := sat_pt hsi'
      have hy := run_yield (P := P) (args := args.toArray) hl (by rw [hrec]; simpa using hps args (List.mem_of_getElem? hi))
      rw [hrec] at hy
      refine ⟨fn, _, assign, body, hy, roundIn_of_wpIn hfn ?_⟩
      have hK0 : K n [] S { tmps := a.tmps, defers := [] } := ⟨hk.size, rfl, hk.at_⟩
      have hKf := K_fold (n := n) pz args a.tmps S hlt hK0
      have hz : (pz.toArray.zip args.toArray).foldl (fun tmps (t, a) => tmps.setIfInBounds t a) a.tmps = (pz.zip args).foldl (fun t (p, v) => t.setIfInBounds p v) a.tmps := by simp
      have ha := hassign (w.heap.size + 1) i args hi _ _ wi (hz ▸ hKf) (sat_pick (.t .h) hsi')
      refine Code.wpIn_mono (fun e a1 w1 q => ?_) ha
      cases e with
      | normal =>
        obtain ⟨x, hk1, hs1⟩ := q
        have hs1' : sat (pt (w.heap.size + 1) (.loop (rec .ready none)) :: JA i args x :: pt w.heap.size (.deferred (some [])) :: M') w1 := sat_pick (.t .h) hs1
        refine ⟨_, run_beginRound (sat_pt hs1') (by rw [hrec]), ?_⟩
        have hs2 := sat_putObj (o' := .loop { rec .ready none with state := .busy }) hs1'
        have hb := hbody (w.heap.size + 1) i args hi x _ a1 _ hk1 (sat_pick (.t .h) hs2)
        have fin : ∀ (jump : Option Code) (A : Asn) (w3 : World), sat (A :: pt (w.heap.size + 1) (.loop { rec .ready none with state := .busy }) :: pt w.heap.size (.deferred (some [])) :: M') w3 →
            ∃ w4, (Instr.endRound (w.heap.size + 1) jump).run P w3 = .ok (.bool jump.isNone) w4 ∧ sat (A :: pt (w.heap.size + 1) (.loop (rec (if jump.isNone then .ready else .done) jump)) :: pt w.heap.size (.deferred (some [])) :: M') w4 := by
          intro jump A w3 h3
          have h3' := sat_pick (.t .h) h3
          refine ⟨_, run_endRound jump (sat_pt h3'), ?_⟩
          have := sat_putObj (o' := .loop { ({ rec .ready none with state := .busy } : Loop) with state := if jump.isNone then .ready else .done, pending := jump }) h3'
          rw [hrec] at this ⊢
          exact sat_pick (.t .h) this
        refine Code.wpIn_mono (fun e a3 w3 q => ?_) hb
        cases e with
        | normal =>
          obtain ⟨w4, h4, h5⟩ := fin none _ w3 q
          exact ⟨_, w4, h4, .inl ⟨rfl, sat_big.2 h5⟩⟩
        | ret =>
          obtain ⟨w4, h4, h5⟩ := fin (some .ret) _ w3 q
          exact ⟨_, w4, h4, .inr ⟨rfl, sat_ex.2 ⟨_, sat_big.2 h5⟩⟩⟩
        | exit id =>
          obtain ⟨w4, h4, h5⟩ := fin (some (.exit id)) _ w3 q
          exact ⟨_, w4, h4, .inr ⟨rfl, sat_ex.2 ⟨_, sat_big.2 h5⟩⟩⟩
        | goto t =>
          obtain ⟨w4, h4, h5⟩ := fin (some (.goto t)) _ w3 q
          exact ⟨_, w4, h4, .inr ⟨rfl, sat_ex.2 ⟨_, sat_big.2 h5⟩⟩⟩
        | panic ch => exact q.elim
        | outgrown => exact q.elim
      | exit id => exact q.elim
      | goto l => exact q.elim
      | ret => exact q.elim
      | panic ch => exact q.elim
      | outgrown => exact q.elim
    have hc := hit (w.heap.size + 1) J' Jx' hY M W1 (sat_big.2 (sat_pick (.t (.t .h)) hs1))
    have e0 : (Value.func (.yield (w.heap.size + 1)) #[] #[] :: lb).toArray = #[.func (.yield (w.heap.size + 1)) #[] #[]] ++ lb.toArray := by simp
    rw [e0] at hc
    refine (callsIn_FW (r := none) (m := 0 - 1) hc).mono ?_
    rintro e w3 ⟨v, L', rfl, (rfl | rfl), h3⟩
    · have h3' : sat (pt (w.heap.size + 1) (.loop (rec .ready none)) :: J xs.length :: pt w.heap.size (.deferred (some [])) :: (I ++ M)) w3 := sat_pick (.t .h) (sat_big.1 h3)
      refine ⟨none, _, by have := run_endLoop (P := P) (sat_pt h3') (by rw [hrec]; simp); rw [hrec] at this; exact this, ?_⟩
      have := sat_drop (sat_putObj (o' := .loop { rec .ready none with state := .exhausted }) h3')
      exact hdone w.heap.size _ _ ⟨hk.size, by simp [hk.ds], hk.at_⟩ (by rw [hrec] at this; exact this)
    · obtain ⟨c, h3⟩ := sat_ex.1 h3
      have h3' : sat (pt (w.heap.size + 1) (.loop (rec .done (some c))) :: Jx c :: pt w.heap.size (.deferred (some [])) :: (I ++ M)) w3 := sat_pick (.t .h) (sat_big.1 h3)
      refine ⟨some c, _, by have := run_endLoop (P := P) (sat_pt h3') (by rw [hrec]; simp); rw [hrec] at this; exact this, ?_⟩
      have := sat_drop (sat_putObj (o' := .loop { rec .done (some c) with state := .exhausted }) h3')
      exact hstop w.heap.size c _ _ ⟨hk.size, by simp [hk.ds], hk.at_⟩ (by rw [hrec] at this; exact this)

/-- a result, at a return behind such a loop -/
theorem H_finM {fn : Func} {R : Value → List Asn → Prop} {rs : List ResultVar} {vs : List Value} {e : Exit} {D : Nat} {L0 : List Asn} (he : e = .ret ∨ e = .normal) (hr : fn.results = rs.toArray) (pk : Pick (pt D (.deferred (some []))) L L0) (h : ResOk P S L0 rs vs)
    (hR : ∃ L', R (resV vs) L' ∧ ∀ w, sat L0 w → sat L' w) :
    H n [{ target := .collected D, args := #[] }] S L (RQ P fn R e) := by
  intro a w hk hs
  obtain ⟨L', h1, h2⟩ := hR
  have hs' := sat_pick pk hs
  have hs2 := sat_drop (sat_putObj (o' := .deferred none) hs')
  have := run_results hr h hk hs2
  rcases he with rfl | rfl
  all_goals
    simp only [RQ, bodyPostM, hk.ds, LeavesInM]
    refine ⟨by simp, .inl ⟨_, _, rfl, run_takeDeferred (sat_pt hs'), ?_⟩⟩
    simp only [LeavesIn]
    exact ⟨_, this, _, _, rfl, h1, h2 _ hs2⟩
theorem H_sat {L' : List Asn} (h : ∀ w, sat L w → sat L' w) : H n ds S L (fun _ w => sat L' w) := fun _ w _ hs => h w hs

end Go.SL
namespace Go.SL

variable {n : Nat} {ds : List Deferred} {S : Sp} {a : Act} {L : List Asn} {w : World} {P : Program} {r : Option Nat} {Q : Exit → Act → World → Prop}

theorem w64 {x : Int} (h1 : -9223372036854775808 ≤ x) (h2 : x ≤ 9223372036854775807) : IntKind.i64.wrap x = x := by
  simp only [IntKind.wrap, IntKind.bits, IntKind.signed, Bool.true_and]; simp only [Int.reducePow, Nat.reduceSub]; split <;> rename_i h <;> simp at h <;> omega
theorem wu64 {x : Int} (h1 : 0 ≤ x) (h2 : x ≤ 18446744073709551615) : IntKind.u64.wrap x = x := by
  simp only [IntKind.wrap, IntKind.bits, IntKind.signed, Bool.false_and, Bool.false_eq_true, if_false]; simp only [Int.reducePow]; omega

/-- the pairs of S that these slots have -/
def sel : List Nat → Sp → Sp
  | [], _ => []
  | k :: ks, S => match look S k with
    | some v => (k, v) :: sel ks S
    | none => sel ks S
theorem Sub_sel : ∀ (ks : List Nat) (S : Sp), Sub (sel ks S) S
  | [], _ => trivial
  | k :: ks, S => by
    simp only [sel]
    split
    · rename_i v h; exact ⟨h, Sub_sel ks S⟩
    · exact Sub_sel ks S
theorem Sub_app {A B S : Sp} (h1 : Sub A S) (h2 : Sub B S) : Sub (A ++ B) S := by
  induction A with
  | nil => exact h2
  | cons x A ih => obtain ⟨k, v⟩ := x; exact ⟨h1.1, ih h1.2⟩

/-- a loop; the slots ks keep what they hold -/
theorem H_loopk {ι : Type} {c : Code} (ks : List Nat) (D : ι → Sp) (LL : ι → List Asn) (J : ι → Prop) (m : ι → Nat) (i0 : ι) (hJ : J i0) (hS : Sub (D i0) S) (hL : ∀ w, sat L w → sat (LL i0) w)
    (round : ∀ i, J i → H n ds (D i ++ sel ks S) (LL i) (W r P c (Exit.then (fun a w => ∃ j, J j ∧ m j < m i ∧ K n ds (D j ++ sel ks S) a ∧ sat (LL j) w) Q))) : H n ds S L (W r P (.loop c) Q) :=
  H_loop (fun i => D i ++ sel ks S) LL J m i0 hJ (Sub_app hS (Sub_sel _ _)) hL round
theorem N_roundk {ι : Type} {ks : List Nat} {S0 : Sp} {D : ι → Sp} {LL : ι → List Asn} {J : ι → Prop} {m : ι → Nat} {i : ι} (j : ι) (hJ : J j) (hm : m j < m i) (hD : Sub (D j) S) (hS : Sub (sel ks S0) S) (hL : ∀ w, sat L w → sat (LL j) w) :
    H n ds S L (Exit.then (fun a w => ∃ j, J j ∧ m j < m i ∧ K n ds (D j ++ sel ks S0) a ∧ sat (LL j) w) Q .normal) :=
  fun _ w hk hs => ⟨j, hJ, hm, hk.sub (Sub_app hD hS), hL w hs⟩

section fin
variable {fn : Func} {R : Value → List Asn → Prop} {e : Exit}
theorem H_fin0 (he : e = .ret ∨ e = .normal) (hr : fn.results = #[]) (hR : ∃ L', R (.tuple #[]) L' ∧ ∀ w, sat L w → sat L' w) : H n [] S L (RQ P fn R e) := H_fin (rs := []) (vs := []) he hr trivial hR
theorem H_fin1 {t : Nat} {v : Value} (he : e = .ret ∨ e = .normal) (hr : fn.results = #[.tmp t]) (hv : look S t = some v) (hR : ∃ L', R v L' ∧ ∀ w, sat L w → sat L' w) : H n [] S L (RQ P fn R e) :=
  H_fin (rs := [.tmp t]) (vs := [v]) he hr ⟨hv, trivial⟩ hR
theorem H_fin2 {t u : Nat} {v x : Value} (he : e = .ret ∨ e = .normal) (hr : fn.results = #[.tmp t, .tmp u]) (hv : look S t = some v) (hx : look S u = some x) (hR : ∃ L', R (.tuple #[v, x]) L' ∧ ∀ w, sat L w → sat L' w) : H n [] S L (RQ P fn R e) :=
  H_fin (rs := [.tmp t, .tmp u]) (vs := [v, x]) he hr ⟨hv, hx, trivial⟩ hR
theorem H_fin3 {t u s : Nat} {v x y : Value} (he : e = .ret ∨ e = .normal) (hr : fn.results = #[.tmp t, .tmp u, .tmp s]) (hv : look S t = some v) (hx : look S u = some x) (hy : look S s = some y) (hR : ∃ L', R (.tuple #[v, x, y]) L' ∧ ∀ w, sat L w → sat L' w) : H n [] S L (RQ P fn R e) :=
  H_fin (rs := [.tmp t, .tmp u, .tmp s]) (vs := [v, x, y]) he hr ⟨hv, hx, hy, trivial⟩ hR
theorem run_loadVar1 {t : TypeId} [ht : Scal P t] {b o : Nat} {v : Value} (hv : Vl L b o v) (w : World) (hs : sat L w) : (loadVar t ⟨b, o, none⟩).run P w = .ok v w := by
  obtain ⟨D, h1, h2⟩ := ht.und
  have hA : (isAgg t).run P w = .ok false w := by cases D <;> simp_all [isAgg, isAggD, run_underlying h1]
  simp [loadVar, hA, hv w hs]
theorem H_fin1c {t b o : Nat} {ty : TypeId} [Scal P ty] {v : Value} (he : e = .ret ∨ e = .normal) (hr : fn.results = #[.cell t ty]) (ht : look S t = some (.pointer (some ⟨b, o, none⟩))) (hv : Vl L b o v) (hR : ∃ L', R v L' ∧ ∀ w, sat L w → sat L' w) : H n [] S L (RQ P fn R e) :=
  H_fin (rs := [.cell t ty]) (vs := [v]) he hr ⟨⟨b, o, ht, run_loadVar1 hv⟩, trivial⟩ hR
end fin
instance {fn : Func} {R : Value → List Asn → Prop} : NoPan (RQ P fn R) := ⟨fun _ _ _ h => h⟩

end Go.SL
namespace Go.SL
variable {n : Nat} {ds : List Deferred} {S : Sp} {a : Act} {L : List Asn} {w : World} {P : Program} {r : Option Nat} {Q : Exit → Act → World → Prop}
variable {ty : TypeId} {ps : String} {af : Array Edge} {d : Nat} {dst : Option Tmp} {l0 rest : List Oper}
section
theorem Y_lookup_some {t kt e sz : TypeId} {k : IntKind} {z v : Value} [ht : MapT P t kt e] [hk : IntT P kt k] [hz : ZeroT P e z sz] {x y : Operand} {b : Nat} {m : List (Int × Value)} {i : Int} {L' : List Asn} (hx : ev S x = some (.map (some b))) (hy : ev S y = some (.int k i)) (pk : Pick (mp b k m) L L') (h : m.lookup i = some v) : Y P S L ⟨dst, .lookup t x y false, ty, ps, af, none⟩ v := by
  have := Y_lookup (dst := dst) (ty := ty) (ps := ps) (af := af) (P := P) (t := t) hx hy pk; rwa [h] at this
theorem Y_lookup_none {t kt e sz : TypeId} {k : IntKind} {z : Value} [ht : MapT P t kt e] [hk : IntT P kt k] [hz : ZeroT P e z sz] {x y : Operand} {b : Nat} {m : List (Int × Value)} {i : Int} {L' : List Asn} (hx : ev S x = some (.map (some b))) (hy : ev S y = some (.int k i)) (pk : Pick (mp b k m) L L') (h : m.lookup i = none) : Y P S L ⟨dst, .lookup t x y false, ty, ps, af, none⟩ z := by
  have := Y_lookup (dst := dst) (ty := ty) (ps := ps) (af := af) (P := P) (t := t) hx hy pk; rwa [h] at this
theorem Y_lookupOk_some {t kt e sz : TypeId} {k : IntKind} {z v : Value} [ht : MapT P t kt e] [hk : IntT P kt k] [hz : ZeroT P e z sz] {x y : Operand} {b : Nat} {m : List (Int × Value)} {i : Int} {L' : List Asn} (hx : ev S x = some (.map (some b))) (hy : ev S y = some (.int k i)) (pk : Pick (mp b k m) L L') (h : m.lookup i = some v) : Y P S L ⟨dst, .lookup t x y true, ty, ps, af, none⟩ (.tuple #[v, .bool true]) := by
  have := Y_lookupOk (dst := dst) (ty := ty) (ps := ps) (af := af) (P := P) (t := t) hx hy pk; rwa [h] at this
theorem Y_lookupOk_none {t kt e sz : TypeId} {k : IntKind} {z : Value} [ht : MapT P t kt e] [hk : IntT P kt k] [hz : ZeroT P e z sz] {x y : Operand} {b : Nat} {m : List (Int × Value)} {i : Int} {L' : List Asn} (hx : ev S x = some (.map (some b))) (hy : ev S y = some (.int k i)) (pk : Pick (mp b k m) L L') (h : m.lookup i = none) : Y P S L ⟨dst, .lookup t x y true, ty, ps, af, none⟩ (.tuple #[z, .bool false]) := by
  have := Y_lookupOk (dst := dst) (ty := ty) (ps := ps) (af := af) (P := P) (t := t) hx hy pk; rwa [h] at this
end
section
variable {k : IntKind} {i j : Int} {b : Bool} {t t2 : TypeId} {x y : Operand}
theorem Y_lssd (hx : ev S x = some (.int k i)) (hy : ev S y = some (.int k j)) (h : decide (i < j) = b) : Y P S L ⟨dst, .binOp .lss t x y t2, ty, ps, af, none⟩ (.bool b) := h ▸ Y_lss hx hy
theorem Y_leqd (hx : ev S x = some (.int k i)) (hy : ev S y = some (.int k j)) (h : decide (i ≤ j) = b) : Y P S L ⟨dst, .binOp .leq t x y t2, ty, ps, af, none⟩ (.bool b) := h ▸ Y_leq hx hy
theorem Y_gtrd (hx : ev S x = some (.int k i)) (hy : ev S y = some (.int k j)) (h : decide (j < i) = b) : Y P S L ⟨dst, .binOp .gtr t x y t2, ty, ps, af, none⟩ (.bool b) := h ▸ Y_gtr hx hy
theorem Y_geqd (hx : ev S x = some (.int k i)) (hy : ev S y = some (.int k j)) (h : decide (j ≤ i) = b) : Y P S L ⟨dst, .binOp .geq t x y t2, ty, ps, af, none⟩ (.bool b) := h ▸ Y_geq hx hy
theorem Y_eqld (hx : ev S x = some (.int k i)) (hy : ev S y = some (.int k j)) (h : decide (i = j) = b) : Y P S L ⟨dst, .binOp .eql t x y t2, ty, ps, af, none⟩ (.bool b) := h ▸ Y_eql hx hy
theorem Y_neqd (hx : ev S x = some (.int k i)) (hy : ev S y = some (.int k j)) (h : decide (i = j) = b) : Y P S L ⟨dst, .binOp .neq t x y t2, ty, ps, af, none⟩ (.bool (!b)) := h ▸ Y_neq hx hy
end
theorem lookup_map {β : Type} (f : β → Value) : ∀ (m : List (Int × β)) (x : Int), (m.map fun y => (y.1, f y.2)).lookup x = (m.lookup x).map f
  | [], _ => rfl
  | y :: m, x => by simp only [List.map_cons, List.lookup]; cases x == y.1 <;> simp [lookup_map f m x]
end Go.SL
namespace Go.SL

variable {n : Nat} {ds : List Deferred} {S : Sp} {a : Act} {L : List Asn} {w : World} {P : Program} {r : Option Nat} {Q : Exit → Act → World → Prop}
variable {ty kt e : TypeId} {ps : String} {af : Array Edge} {d : Nat} {dst : Option Tmp} {l0 rest : List Oper}

/-! # rows of cells within a block -/
def put (cs : List Value) (i : Nat) (ys : List Value) : List Value := cs.take i ++ ys ++ cs.drop (i + ys.length)
theorem put_length {cs ys : List Value} {i : Nat} (h : i + ys.length ≤ cs.length) : (put cs i ys).length = cs.length := by simp [put]; omega
theorem put_mid {pre mid ys spare : List Value} (h : mid.length = ys.length) : put (pre ++ mid ++ spare) pre.length ys = pre ++ ys ++ spare := by
  have e : pre.length + ys.length = (pre ++ mid).length := by simp [h]
  unfold put
  rw [e, List.drop_left, List.append_assoc pre mid, List.take_left]

/-- 'append' where there is room: it writes behind its slice, into the same block -/
theorem T_appendAt {t e sz by_ : Nat} [ht : SlT P t e sz by_] {x y : Operand} {q : Option Addr} {b o k c m c2 : Nat} {cs news : List Value} {L' : List Asn}
    (hx : ev S x = some (.slice (some ⟨b, o, none⟩) k c)) (hy : ev S y = some (.slice q m c2)) (pk : Pick (cl b cs e) L L') (hr : Rd L q news)
    (hl : news.length = m * sz) (h1 : one news) (hroom : k + m ≤ c) (hlen : o + c * sz ≤ cs.length) (hlt : Nat.blt d n = true)
    (h : H n ds ((d, .slice (some ⟨b, o, none⟩) (k + m) c) :: S) (cl b (put cs (o + k * sz) news) e :: L') (TL r P l0 Q rest)) :
    H n ds S L (TL r P l0 Q (⟨some d, .call ⟨.builtin .append, #[x, y], #[t, t]⟩, ty, ps, af, none⟩ :: rest)) := by
  obtain ⟨i, i1, i2, i3⟩ := ht.info
  have hpos := ht.pos
  refine TL_go nofun hlt fun a w hk hs => ?_
  have hs' := sat_pick pk hs
  have hg := sat_cl hs'
  subst i2
  have hmul : k * i.size + m * i.size ≤ c * i.size := by rw [← Nat.add_mul]; exact Nat.mul_le_mul_right _ hroom
  by_cases hm0 : m = 0
  · subst hm0
    have hn : news = [] := List.eq_nil_of_length_eq_zero (by simpa using hl)
    subst hn
    have e0 : put cs (o + k * i.size) [] = cs := by simp [put]
    rw [e0] at h
    refine ⟨_, w, _, ?_, hs', h⟩
    have hkc : k ≤ c := by omega
    cases q with
    | none => simp [execOp, resolve, invoke, builtin, hk.ev hx, hk.ev hy, Builtin.append_, run_underlying ht.und, sizeOf, typeInfo, i1, Builtin.lenOf, hkc, Builtin.firstCells, storeCells]
    | some q => simp [execOp, resolve, invoke, builtin, hk.ev hx, hk.ev hy, Builtin.append_, run_underlying ht.und, sizeOf, typeInfo, i1, Builtin.lenOf, hkc, Builtin.firstCells, storeCells, loadCells, loadCellsFrom]
  · have hne : news ≠ [] := by
      intro e; rw [e] at hl; have := Nat.mul_pos (Nat.pos_of_ne_zero hm0) hpos; simp at hl; omega
    rcases hr w hs with e | ⟨qb, qo, rfl, hr'⟩
    · exact absurd e hne
    have hnews : ∀ j u, news[j]? = some u → w.cell? ((⟨qb, qo, none⟩ : Addr).add j) = some u := fun j u hj => by rw [Addr.add_none]; exact hr' j u hj
    have hf := run_firstCells_some (P := P) w i.size m ⟨qb, qo, none⟩ m c2 news hl hnews
    have hst := run_storeCells_at P b (o + k * i.size) e news 0 cs.toArray w hg (by simp; omega) h1
    simp only [Nat.add_zero] at hst
    have e7 : (⟨b, o, none⟩ : Addr).add (k * i.size) = ⟨b, o + k * i.size, none⟩ := Addr.add_none _ _ _
    refine ⟨_, _, _, by simp [execOp, resolve, invoke, builtin, hk.ev hx, hk.ev hy, Builtin.append_, run_underlying ht.und, sizeOf, typeInfo, i1, Builtin.lenOf, hroom, hf, e7, hst]; rfl, ?_, h⟩
    have := sat_setRow (cs' := put cs (o + k * i.size) news) hs'
    simpa [put] using this

/-- 'clear' of a slice -/
theorem T_clearAt {t e sz by_ : Nat} [ht : SlT P t e sz by_] {z : Value} [hz : ZeroT P e z sz] {x : Operand} {b o k c : Nat} {cs : List Value} {L' : List Asn}
    (hx : ev S x = some (.slice (some ⟨b, o, none⟩) k c)) (pk : Pick (cl b cs e) L L') (h1 : one z.cells.toList) (hlen : o + k * sz ≤ cs.length)
    (h : H n ds S (cl b (put cs o (Builtin.zeroCells z.cells k).toList) e :: L') (TL r P l0 Q rest)) :
    H n ds S L (TL r P l0 Q (⟨none, .call ⟨.builtin .clear, #[x], #[t]⟩, ty, ps, af, none⟩ :: rest)) := by
  obtain ⟨i, i1, i2, _⟩ := hz.info
  refine TL_go' nofun fun a w hk hs => ?_
  have hs' := sat_pick pk hs
  have hg := sat_cl hs'
  have hsz := hz.size
  cases k with
  | zero =>
    have e0 : put cs o (Builtin.zeroCells z.cells 0).toList = cs := by simp [put, Builtin.zeroCells]
    rw [e0] at h
    exact ⟨w, _, .inr ⟨_, by simp [execOp, resolve, invoke, builtin, hk.ev hx, Builtin.clear_, run_underlying ht.und]; rfl⟩, hs', h⟩
  | succ k =>
    have hst := run_storeCells_at P b o e (Builtin.zeroCells z.cells (k + 1)).toList 0 cs.toArray w hg (by simp [size_zeroCells, hsz]; omega) (by
      intro v hv
      simp only [Builtin.zeroCells] at hv
      simp at hv
      obtain ⟨j, hj, rfl⟩ := hv
      have hp : 0 < z.cells.size := by rw [hsz]; exact ht.pos
      have : j % z.cells.size < z.cells.size := Nat.mod_lt _ hp
      refine h1 _ ?_
      rw [getElem!_pos z.cells _ this]
      exact Array.getElem_mem_toList this)
    simp only [Nat.add_zero] at hst
    have hst' : (storeCells ⟨b, o, none⟩ (Builtin.zeroCells z.cells (k + 1)).toList).run P w = .ok () (w.setRow b (put cs o (Builtin.zeroCells z.cells (k + 1)).toList).toArray) := hst
    exact ⟨_, _, .inr ⟨_, by simp [execOp, resolve, invoke, builtin, hk.ev hx, Builtin.clear_, run_underlying ht.und, zeroValue, typeInfo, i1, i2, hst']; rfl⟩, sat_setRow hs', h⟩

/-- s[lo:hi:max] -/
theorem Y_slice3 {t e sz by_ : Nat} [h1 : SlT P t e sz by_] {x : Operand} {lo : Option Operand} {hi mx : Operand} {p : Option Addr} {k c i j m : Nat} {ik ik2 : IntKind} (hx : ev S x = some (.slice p k c))
    (hlo : match lo with | none => i = 0 | some y => ∃ ik, ev S y = some (.int ik (i : Int))) (hhi : ev S hi = some (.int ik (j : Int))) (hmx : ev S mx = some (.int ik2 (m : Int))) (hij : i ≤ j) (hjm : j ≤ m) (hmc : m ≤ c) :
    Y P S L ⟨dst, .slice t x lo (some hi) (some mx), ty, ps, af, none⟩ (.slice (if m = i then p else p.map (·.add (i * sz))) (j - i) (m - i)) := by
  obtain ⟨inf, h2, h3, _⟩ := h1.info
  refine ⟨nofun, fun _ _ a w hk _ => ?_⟩
  cases lo with
  | none =>
    simp at hlo; subst hlo
    simp [execOp, Instr.sliceAt, Instr.slice, run_underlying h1.und, hk.ev hx, Instr.sliceBounds, Instr.sliceBound, hk.ev hhi, hk.ev hmx, asIntOf, hjm, hmc, hij, sizeOf, typeInfo, h2, h3]
  | some y =>
    obtain ⟨ik, hy⟩ := hlo
    simp [execOp, Instr.sliceAt, Instr.slice, run_underlying h1.und, hk.ev hx, Instr.sliceBounds, Instr.sliceBound, hk.ev hhi, hk.ev hmx, hk.ev hy, asIntOf, hjm, hmc, hij, sizeOf, typeInfo, h2, h3]

/-! # an entry of the model, interfaces, maps.Clone -/
class ExtT (P : Program) (f : FuncId) (e : outParam (Array Value → Sem Value)) : Prop where
  call : ∀ (args : Array Value) (w : World), (callFunc f args).run P w = ((e args).run P w).andThen fun v w' => .ok (.value v) w'
def cloneB (P : Program) (f : Nat) : Bool := match P.funcs[f]? with
  | some fn => !(fn.name == "runtime.NumGoroutine") && fn.body.isNone && fn.name == "maps.clone"
  | none => false
theorem ExtT.ofClone {P : Program} {f : Nat} {fn : Func} (hf : P.funcs[f]? = some fn) (hname : (fn.name == "runtime.NumGoroutine") = false) (hb : fn.body.isNone = true) (hn : Extern.findNext fn = none) (he : Extern.find fn = some Extern.MapsClone.clone) : ExtT P f Extern.MapsClone.clone :=
  ⟨fun args w => run_callFunc_extern hf hname hb hn he args w⟩
theorem T_cloneMap {f : FuncId} [he : ExtT P f Extern.MapsClone.clone] {x : Operand} {ts : Array TypeId} {t : TypeId} {b : Nat} {k : IntKind} {m : List (Int × Value)} {L' : List Asn} (hx : ev S x = some (.iface t (.map (some b)))) (pk : Pick (mp b k m) L L') (hlt : Nat.blt d n = true)
    (h : ∀ b', H n ds ((d, .iface t (.map (some b'))) :: S) (mp b' k m :: L) (TL r P l0 Q rest)) :
    H n ds S L (TL r P l0 Q (⟨some d, .call ⟨.value (.func f), #[x], ts⟩, ty, ps, af, none⟩ :: rest)) := by
  refine TL_go nofun hlt fun a w hk hs => ?_
  obtain ⟨es, clock, hok, hs'⟩ := sat_mp.1 (sat_pick pk hs)
  have h1 := Go.Proofs.run_maps_clone_sl (P := P) w t (sat_pt hs')
  have e1 : a.eval (.func f) = .func (.func f) #[] #[] := rfl
  exact ⟨_, _, _, by simp [execOp, resolve, invoke, hk.ev hx, e1, Deferred.ofValue, he.call, h1], sat_mp.2 ⟨es, clock, hok, sat_alloc hs⟩, h _⟩
theorem Y_mkiface {t : TypeId} [ht : MapT P t kt e] {x : Operand} {v : Value} (hx : ev S x = some v) : Y P S L ⟨dst, .makeInterface t x, ty, ps, af, none⟩ (.iface t v) :=
  ⟨nofun, fun _ _ a w hk _ => by simp [execOp, Instr.makeInterface, hk.ev hx, run_underlying ht.und]⟩
theorem Y_typeAssert {t xT : TypeId} [ht : MapT P t kt e] {x : Operand} {v : Value} (hx : ev S x = some (.iface t v)) : Y P S L ⟨dst, .typeAssert x xT t false, ty, ps, af, none⟩ v :=
  ⟨nofun, fun _ _ a w hk _ => by simp [execOp, hk.ev hx, Go.Proofs.run_typeAssert_map_sl w t xT kt e v ht.und]⟩

/-! # range over a map -/
def leftL (es : List MapEntry) (seen : Array Nat) : List MapEntry := es.filter fun e => !seen.contains e.born
/-- a loop over the map at b with its iterator at r: what is left, the entry that came last -/
def rng (r b : Nat) (k : IntKind) (m left : List (Int × Value)) (cur : Option (Int × Value)) : Asn := fun h => ∃ (es : List MapEntry) (clock : Nat) (seen : Array Nat), MapOk k es clock m ∧
  (leftL es seen).map (fun e => (e.key, e.val)) = left.map (ent k) ∧ (∀ c, cur = some c → ∃ s me, seen = Array.push s me.born ∧ me ∈ es ∧ (me.key, me.val) = ent k c) ∧ stars [pt b (.map es.toArray clock), pt r (.mapIter (some b) clock seen clock)] h
theorem sat_rng {r b : Nat} {k : IntKind} {m left : List (Int × Value)} {cur : Option (Int × Value)} : sat (rng r b k m left cur :: L) w ↔ ∃ (es : List MapEntry) (clock : Nat) (seen : Array Nat), MapOk k es clock m ∧
    (leftL es seen).map (fun e => (e.key, e.val)) = left.map (ent k) ∧ (∀ c, cur = some c → ∃ s me, seen = Array.push s me.born ∧ me ∈ es ∧ (me.key, me.val) = ent k c) ∧ sat (pt b (.map es.toArray clock) :: pt r (.mapIter (some b) clock seen clock) :: L) w := by
  constructor
  · rintro ⟨h, ⟨h1, h2, dd, e, ⟨es, c, s, a1, a2, a3, p⟩, l⟩, rr⟩
    exact ⟨es, c, s, a1, a2, a3, (sat_big (As := [pt b (.map es.toArray c), pt r (.mapIter (some b) c s c)])).1 ⟨h, ⟨h1, h2, dd, e, p, l⟩, rr⟩⟩
  · rintro ⟨es, c, s, a1, a2, a3, hs⟩
    obtain ⟨h, ⟨h1, h2, dd, e, p, l⟩, rr⟩ := (sat_big (As := [pt b (.map es.toArray c), pt r (.mapIter (some b) c s c)])).2 hs
    exact ⟨h, ⟨h1, h2, dd, e, ⟨es, c, s, a1, a2, a3, p⟩, l⟩, rr⟩
theorem rng_end {r b : Nat} {k : IntKind} {m left : List (Int × Value)} {cur : Option (Int × Value)} (hs : sat (rng r b k m left cur :: L) w) : sat (mp b k m :: L) w := by
  obtain ⟨es, c, s, a1, _, _, hs⟩ := sat_rng.1 hs
  exact sat_mp.2 ⟨es, c, a1, sat_drop (sat_pick (.t .h) hs)⟩
theorem T_range {t kt e : TypeId} {k : IntKind} [ht : MapT P t kt e] {x : Operand} {b : Nat} {m : List (Int × Value)} {L' : List Asn} (hx : ev S x = some (.map (some b))) (pk : Pick (mp b k m) L L') (hlt : Nat.blt d n = true)
    (h : ∀ i, H n ds ((d, .pointer (some ⟨i, 0, none⟩)) :: S) (rng i b k m m none :: L') (TL r P l0 Q rest)) :
    H n ds S L (TL r P l0 Q (⟨some d, .range t x, ty, ps, af, none⟩ :: rest)) := by
  refine TL_go nofun hlt fun a w hk hs => ?_
  obtain ⟨es, clock, hok, hs'⟩ := sat_mp.1 (sat_pick pk hs)
  have hgo : (getObj b).run P w = .ok (.map es.toArray clock) w := by simp [getObj, Sem.run, sat_pt hs']
  refine ⟨.pointer (some ⟨w.heap.size, 0, none⟩), w.alloc (.mapIter (some b) clock #[] clock), _, ?_, sat_rng.2 ⟨es, clock, #[], hok, ?_, (by intro c h; cases h), sat_unpick (.t .h) (sat_alloc hs')⟩, h _⟩
  · simp [execOp, Instr.range, hk.ev hx, run_underlying ht.und, hgo, newObj, Sem.run]
  · rw [show leftL es #[] = es from List.filter_eq_self.2 (by simp)]; exact hok.ents
theorem filter_out {α : Type} {f : α → Nat} : ∀ (A B : List α) (e : α), ((A ++ e :: B).map f).Nodup → (A ++ e :: B).filter (fun x => !(f x == f e)) = A ++ B
  | [], B, e, h => by
    simp only [List.nil_append, List.map_cons, List.nodup_cons, List.mem_map] at h
    have : (!(f e == f e)) = false := by simp
    rw [List.nil_append, List.filter_cons, this]
    simp only [Bool.false_eq_true, if_false, List.nil_append]
    exact List.filter_eq_self.2 fun x hx => by simp; exact fun e' => h.1 ⟨x, hx, e'⟩
  | y :: A, B, e, h => by
    simp only [List.cons_append, List.map_cons, List.nodup_cons, List.mem_map] at h
    have : (!(f y == f e)) = true := by simp; exact fun e' => h.1 ⟨e, by simp, e'.symm⟩
    rw [List.cons_append, List.filter_cons, this]
    simp only [if_true, List.cons_append]
    rw [filter_out A B e h.2]
theorem left_push {es A B : List MapEntry} {e : MapEntry} {seen : Array Nat} (hn : (es.map (·.born)).Nodup) (h : leftL es seen = A ++ e :: B) : leftL es (seen.push e.born) = A ++ B := by
  have h1 : leftL es (seen.push e.born) = (leftL es seen).filter (fun x => !(x.born == e.born)) := by
    unfold leftL
    rw [List.filter_filter]
    congr 1; funext x
    by_cases hb : x.born = e.born <;> simp [hb]
  rw [h1, h]
  refine filter_out A B e ?_
  rw [← h]
  exact hn.sublist (List.Sublist.map _ List.filter_sublist)
theorem split_map {α β : Type} {f : α → β} : ∀ {l : List α} {A B : List β} {x : β}, l.map f = A ++ x :: B → ∃ A' y B', l = A' ++ y :: B' ∧ A'.map f = A ∧ f y = x ∧ B'.map f = B
  | [], [], _, _, h => by cases h
  | [], _ :: _, _, _, h => by cases h
  | y :: l, [], B, x, h => by simp only [List.map_cons, List.nil_append, List.cons.injEq] at h; exact ⟨[], y, l, rfl, rfl, h.1, h.2⟩
  | y :: l, a :: A, B, x, h => by
    simp only [List.map_cons, List.cons_append, List.cons.injEq] at h
    obtain ⟨A', z, B', e1, e2, e3, e4⟩ := split_map h.2
    exact ⟨y :: A', z, B', by rw [e1]; rfl, by simp [e2, h.1], e3, e4⟩
theorem T_next {x : Operand} {i b : Nat} {k : IntKind} {m left : List (Int × Value)} {cur : Option (Int × Value)} {L' : List Asn} (hx : ev S x = some (.pointer (some ⟨i, 0, none⟩))) (pk : Pick (rng i b k m left cur) L L') (hlt : Nat.blt d n = true)
    (h0 : left = [] → H n ds ((d, .tuple #[.bool false]) :: S) L (TL r P l0 Q rest))
    (h1 : ∀ A c B, left = A ++ c :: B → H n ds ((d, .tuple #[.bool true, .int k c.1, c.2]) :: S) (rng i b k m (A ++ B) (some c) :: L') (TL r P l0 Q rest)) :
    H n ds S L (TL r P l0 Q (⟨some d, .next x false, ty, ps, af, none⟩ :: rest)) := by
  refine TL_go nofun hlt fun a w hk hs => ?_
  obtain ⟨es, clock, seen, hok, hle, hcu, hs'⟩ := sat_rng.1 (sat_pick pk hs)
  have hg := sat_pt hs'
  have hr := sat_pt (sat_pick (.t .h) hs')
  rcases run_next_at (P := P) w ty i b clock clock seen es.toArray clock hr hg (fun x hx => hok.born x (by simpa using hx)) (Nat.le_refl _) with ⟨hz, hrun⟩ | ⟨e, he, w1, hw1, hrun⟩
  · have hl0 : left = [] := by
      have : leftL es seen = [] := by
        have := hz; simp only [leftOf, leftL] at this ⊢
        exact List.eq_nil_of_length_eq_zero (by simpa using this)
      rw [this] at hle; simpa using hle.symm
    exact ⟨_, w, L, by simp [execOp, hk.ev hx, hrun], hs, h0 hl0⟩
  · have he' : e ∈ leftL es seen := by simpa [leftOf, leftL] using he
    obtain ⟨A0, B0, hAB⟩ := List.append_of_mem he'
    have hle2 := hle
    rw [hAB, List.map_append, List.map_cons] at hle2
    obtain ⟨A, c, B, e1, e2, e3, e4⟩ := split_map hle2.symm
    have hent : (e.key, e.val) = ent k c := e3.symm
    have hkv : e.key = .int k c.1 ∧ e.val = c.2 := by simpa [ent] using hent
    have hw1s : sat (pt b (.map es.toArray clock) :: pt i (.mapIter (some b) clock seen clock) :: L') w1 := by rcases hw1 with rfl | rfl <;> exact hs'
    refine ⟨_, Go.ChangeMaps.setBlock w1 i (.mapIter (some b) clock (seen.push e.born) clock), _, by simp [execOp, hk.ev hx, hrun, hkv.1, hkv.2], ?_, h1 A c B e1⟩
    refine sat_rng.2 ⟨es, clock, seen.push e.born, hok, ?_, ?_, ?_⟩
    · rw [left_push hok.borns hAB, List.map_append, List.map_append, ← e2, ← e4]
    · intro c' hc'; cases hc'
      exact ⟨seen, e, rfl, (List.mem_filter.1 he').1, hent⟩
    · exact sat_unpick (.t .h) (sat_putObj (o' := .mapIter (some b) clock (seen.push e.born) clock) (sat_pick (.t .h) hw1s))
theorem Y_entry {x : Operand} {i b : Nat} {k : IntKind} {m left : List (Int × Value)} {c : Int × Value} {L' : List Asn} (hx : ev S x = some (.pointer (some ⟨i, 0, none⟩))) (pk : Pick (rng i b k m left (some c)) L L') :
    Y P S L ⟨dst, .entry x, ty, ps, af, none⟩ (.tuple #[.int k c.1, c.2]) := by
  refine ⟨nofun, fun _ _ a w hk hs => ?_⟩
  obtain ⟨es, clock, seen, hok, hle, hcu, hs'⟩ := sat_rng.1 (sat_pick pk hs)
  obtain ⟨s, me, rfl, hme, hent⟩ := hcu c rfl
  have hg := sat_pt hs'
  have hr := sat_pt (sat_pick (.t .h) hs')
  have hkv : me.key = .int k c.1 ∧ me.val = c.2 := by simpa [ent] using hent
  have := run_entry_at (P := P) w i b clock s es.toArray clock me hr hg (by simpa using hme) hok.borns
  rw [hkv.1, hkv.2] at this
  simp [execOp, hk.ev hx, this]

/-! # structs -/
theorem run_mapM_list {α β : Type} {f : α → Sem β} {g : α → β} {w : World} : ∀ (l : List α), (∀ x ∈ l, (f x).run P w = .ok (g x) w) → (l.mapM f).run P w = .ok (l.map g) w
  | [], _ => by simp
  | x :: l, h => by
    rw [List.mapM_cons]
    simp [h x (by simp), run_mapM_list l fun y hy => h y (by simp [hy])]
def structB (P : Program) (t : Nat) (pl : List (Nat × Nat)) : Bool := match P.underlying t with
  | some (.struct fields) => fields.toList.map (fun f => (f.offset, (P.info? f.type).map (·.size))) == pl.map (fun x => (x.1, some x.2))
  | _ => false
theorem StructT.of {t : Nat} {pl : List (Nat × Nat)} {z : List Value} (h : structB P t pl = true) (h2 : (P.info? t).map (·.zero) = some (some (.agg z.toArray))) : StructT P t pl z := by
  unfold structB at h
  split at h
  · rename_i fields h1
    have h3 : fields.toList.map (fun f => (f.offset, (P.info? f.type).map (·.size))) = pl.map (fun x => (x.1, some x.2)) := by simpa using h
    refine ⟨⟨fields, h1, fun w => ?_⟩, ?_⟩
    · have hf : ∀ f ∈ fields.toList, (do pure (f.offset, ← sizeOf f.type) : Sem (Nat × Nat)).run P w = .ok (f.offset, ((P.info? f.type).map (·.size)).getD 0) w := by
        intro f hf
        have hm : (f.offset, (P.info? f.type).map (·.size)) ∈ pl.map (fun x => (x.1, some x.2)) := h3 ▸ List.mem_map.2 ⟨f, hf, rfl⟩
        obtain ⟨y, _, hy⟩ := List.mem_map.1 hm
        have h5 : (P.info? f.type).map (·.size) = some y.2 := by have := congrArg Prod.snd hy; exact this.symm
        cases hi : P.info? f.type with
        | none => simp [hi] at h5
        | some i => simp [sizeOf, typeInfo, hi]
      have := run_mapM_list (P := P) (w := w) fields.toList hf
      have e : fields.toList.map (fun f => (f.offset, ((P.info? f.type).map (·.size)).getD 0)) = pl := by
        have := congrArg (List.map (fun x : Nat × Option Nat => (x.1, x.2.getD 0))) h3
        simpa [Function.comp_def] using this
      rw [e] at this
      rw [Array.mapM_eq_mapM_toList]
      simp only [bind_pure_comp] at this
      simp [this]
    · cases hi : P.info? t with
      | none => simp [hi] at h2
      | some i => simp [hi] at h2; exact ⟨i, rfl, h2⟩
  · cases h
end Go.SL
namespace Go.SL
variable {P : Program}

/-! # instances from closed Bools -/
def scalB (P : Program) (t : TypeId) : Bool := match P.underlying t, P.info? t with | some d, some i => !isAggD d && i.size == 1 | _, _ => false
theorem Scal.of {t : TypeId} (h : scalB P t = true) : Scal P t := by
  unfold scalB at h
  cases h1 : P.underlying t with
  | none => simp [h1] at h
  | some d => cases h2 : P.info? t with
    | none => simp [h1, h2] at h
    | some i => simp [h1, h2] at h; exact ⟨⟨d, h1, h.1⟩, ⟨i, h2, h.2⟩⟩
def aggB (P : Program) (t : TypeId) (sz : Nat) : Bool := match P.underlying t, P.info? t with | some d, some i => isAggD d && i.size == sz | _, _ => false
theorem AggT.of {t sz : Nat} (h : aggB P t sz = true) : AggT P t sz := by
  unfold aggB at h
  cases h1 : P.underlying t with
  | none => simp [h1] at h
  | some d => cases h2 : P.info? t with
    | none => simp [h1, h2] at h
    | some i => simp [h1, h2] at h; exact ⟨⟨d, h1, h.1⟩, ⟨i, h2, h.2⟩⟩
def fieldB (P : Program) (t f off ft fs : Nat) : Bool := match P.underlying t with
  | some (.struct fields) => match fields[f]? with
    | some fd => fd.offset == off && fd.type == ft && fs != 0 && (match P.info? ft with | some i => i.size == fs | none => false)
    | none => false
  | _ => false
theorem FieldAt.of {t f off ft fs : Nat} (h : fieldB P t f off ft fs = true) : FieldAt P t f off ft fs := by
  unfold fieldB at h
  split at h
  · rename_i fields h1
    split at h
    · rename_i fd h2
      simp only [Bool.and_eq_true, beq_iff_eq, bne_iff_ne] at h
      obtain ⟨⟨⟨a, b⟩, c⟩, e⟩ := h
      split at e
      · rename_i i h3; exact ⟨⟨fields, fd, h1, h2, a, b⟩, ⟨i, h3, by simpa using e⟩, c⟩
      · cases e
    · cases h
  · cases h
def slB (P : Program) (t e sz by_ : Nat) : Bool := (match P.underlying t with | some (.slice e') => e' == e | _ => false) && (match P.info? e with | some i => i.size == sz && i.bytes == by_ && sz != 0 | none => false)
theorem SlT.of {t e sz by_ : Nat} (h : slB P t e sz by_ = true) : SlT P t e sz by_ := by
  unfold slB at h
  simp only [Bool.and_eq_true] at h
  obtain ⟨h1, h2⟩ := h
  split at h1
  · rename_i e' he
    split at h2
    · rename_i i hi
      simp only [Bool.and_eq_true, beq_iff_eq, bne_iff_ne] at h1 h2
      subst h1
      exact ⟨he, ⟨i, hi, h2.1.1, h2.1.2⟩, by omega⟩
    · cases h2
  · cases h1
def intB (P : Program) (t : Nat) (k : IntKind) : Bool := match P.underlying t with | some (.int k') => k' == k | _ => false
theorem IntT.of {t : Nat} {k : IntKind} (h : intB P t k = true) : IntT P t k := by
  unfold intB at h; split at h
  · rename_i k' h1; simp at h; subst h; exact ⟨h1⟩
  · cases h
def ptrB (P : Program) (t : Nat) : Bool := match P.underlying t with | some (.pointer _) => true | _ => false
theorem PtrT.of {t : Nat} (h : ptrB P t = true) : PtrT P t := by
  unfold ptrB at h; split at h
  · rename_i k' h1; exact ⟨⟨_, h1⟩⟩
  · cases h
def mapB (P : Program) (t k e : Nat) : Bool := match P.underlying t with | some (.map k' e') => k' == k && e' == e | _ => false
theorem MapT.of {t k e : Nat} (h : mapB P t k e = true) : MapT P t k e := by
  unfold mapB at h; split at h
  · rename_i k' e' h1; simp at h; obtain ⟨rfl, rfl⟩ := h; exact ⟨h1⟩
  · cases h
theorem ZeroT.of {t sz : Nat} {z : Value} (h : (P.info? t).map (fun i => (i.zero, i.size)) = some (some z, sz)) (h2 : z.cells.size = sz) : ZeroT P t z sz := by
  cases hi : P.info? t with
  | none => simp [hi] at h
  | some i => simp [hi] at h; exact ⟨⟨i, hi, h.1, h.2⟩, h2⟩
def fnB (P : Program) (f : Nat) : Bool := match P.funcs[f]? with | some fn => !(fn.name == "runtime.NumGoroutine") && !fn.body.isNone | none => false
theorem FnT.of {f : Nat} (h : fnB P f = true) : FnT P f := by
  unfold fnB at h; split at h
  · rename_i fn h1
    simp only [Bool.and_eq_true, Bool.not_eq_true'] at h
    have a : ¬ fn.name = "runtime.NumGoroutine" := by simpa using h.1
    have b : ¬ fn.body = none := by intro e; have := h.2; rw [e] at this; cases this
    exact ⟨fun args w => by simp [callFunc, h1, a, b]⟩
  · cases h
end Go.SL
