/-
  Contracts and plain lemmas, joined: T29, T30, T31, T32, T33, T34, T35, T36, T37
-/
import Derived.Test.YtgpmjggdloldnaaGreatDoorPartD
import Derived.Test.YtgpmjggdloldnaaGreatDoorLogicB
namespace Go.Proofs.YtgpmjggdloldnaaGreatDoor
open Go Go.Sx
set_option maxRecDepth 100000
def sr : ByteArray := ⟨#[114]⟩
def sA : ByteArray := ⟨#[65]⟩
def sf : ByteArray := ⟨#[102]⟩
def sa : ByteArray := ⟨#[97]⟩
def sb : ByteArray := ⟨#[98]⟩
def vx : ByteArray := ⟨#[63, 120]⟩
def vy : ByteArray := ⟨#[63, 121]⟩
def vu : ByteArray := ⟨#[63, 117]⟩
def vv : ByteArray := ⟨#[63, 118]⟩
theorem checkE_small {a : List Atom} (h1 : 1 ≤ a.length) (h4 : a.length ≤ 4) (ha : ∀ x ∈ a, atomE x = 0) : checkE [] a = 0 := by
  have hs : shapeE [] [a] = 0 := by
    have e1 : shapeBad [] [a] = false := by simp [shapeBad]
    have e2 : partBad a = false := by simp [partBad]; omega
    rw [shapeE, e1]; simp [e2]
  have hf : ([a] : List (List Atom)).flatten.find? (fun a => atomE a != 0) = none := by
    rw [List.find?_eq_none]; intro x hx; have := ha x (by simpa using hx); simp [this]
  have ht : toldE [] [a] = 0 := rfl
  have hv : ([a] : List (List Atom)).all varsFew = true := by
    have := varsOf_le a
    simp [varsFew]; omega
  rw [checkE, queryE, hs, if_neg (by simp), hf]
  simp only [ht, hv]; rfl
theorem word_eq (s : ByteArray) : wordB s = ((((!(s.data.toList == [])) && letterB (s.data.toList.headD 0)) && tailB s.data.toList) && !(kwords.any fun k => s.data.toList == k)) := by
  unfold wordB keywordB
  simp only [ByteArray.toList_eq]
theorem name_eq (s : ByteArray) : nameB s = (!decide (24 < s.size) && (((((!((Lib.cut s.data.toList [58]).1 == [])) && letterB ((Lib.cut s.data.toList [58]).1.headD 0)) && tailB (Lib.cut s.data.toList [58]).1) && !(kwords.any fun k => (Lib.cut s.data.toList [58]).1 == k)) && (!(Lib.cut s.data.toList [58]).2.2 || wordB ⟨(Lib.cut s.data.toList [58]).2.1.toArray⟩)) || reservedB s) := by
  unfold nameB plainB
  rw [word_eq ⟨(Lib.cut s.data.toList [58]).1.toArray⟩]
theorem n_r : nameB sr = true := by rw [name_eq]; decide
theorem n_A : nameB sA = true := by rw [name_eq]; decide
theorem n_f : nameB sf = true := by rw [name_eq]; decide
theorem n_a : nameB sa = true := by rw [name_eq]; decide
theorem n_b : nameB sb = true := by rw [name_eq]; decide
theorem i_r : individualB sr = true := by rw [individualB, n_r]; decide
theorem i_A : individualB sA = true := by rw [individualB, n_A]; decide
theorem i_f : individualB sf = true := by rw [individualB, n_f]; decide
theorem i_a : individualB sa = true := by rw [individualB, n_a]; decide
theorem i_b : individualB sb = true := by rw [individualB, n_b]; decide
theorem t_x : termB vx = true := by rw [termB, show variableB vx = true by decide]; rfl
theorem t_y : termB vy = true := by rw [termB, show variableB vy = true by decide]; rfl
theorem t_u : termB vu = true := by rw [termB, show variableB vu = true by decide]; rfl
theorem t_v : termB vv = true := by rw [termB, show variableB vv = true by decide]; rfl
theorem t_a : termB sa = true := by rw [termB, i_a, Bool.or_true]
theorem t_b : termB sb = true := by rw [termB, i_b, Bool.or_true]
theorem e_role {x y : ByteArray} (hx : termB x = true) (hy : termB y = true) : atomE (mkRole sr x y) = 0 := by
  simp [atomE, kindBad, fieldsBad, numsBad, mkRole, Atom.terms, i_r, hx, hy]
theorem e_concept {x : ByteArray} (hx : termB x = true) : atomE (mkConcept sA x) = 0 := by
  simp [atomE, kindBad, fieldsBad, numsBad, mkConcept, Atom.terms, i_A, hx, emp]
theorem e_span {lo hi : Int} (h1 : lo ≤ hi) (h2 : -100 ≤ lo) (h3 : hi ≤ 100) : atomE (mkSpan sf sa lo hi) = 0 := by
  have e1 : ¬ lo < -1099511627776 := by omega
  have e2 : ¬ hi < lo := by omega
  have e3 : ¬ 1099511627776 < hi := by omega
  simp [atomE, kindBad, fieldsBad, numsBad, mkSpan, Atom.terms, i_f, t_a, emp, e1, e2, e3]
end Go.Proofs.YtgpmjggdloldnaaGreatDoor

namespace Go.Proofs.YtgpmjggdloldnaaGreatDoor
open Go Go.Sx
set_option maxRecDepth 100000
/-- x is a range at the place p -/
def AtP (p : Place) (x : Atom) : Prop := x.kind = 3 ∧ x.name = p.feature ∧ x.x = p.term
structure LookOk (l : List Atom) (t : Look) : Prop where
  atoms : ∀ x, x ∈ t.atoms ↔ x ∈ l ∧ x.kind ≠ 3
  places : ∀ p, p ∈ t.places ↔ ∃ x ∈ l, AtP p x
  none : ∀ p, t.ranges p = none ↔ ∀ x ∈ l, ¬ AtP p x
  some : ∀ p i, t.ranges p = some i → (∀ x ∈ l, AtP p x → x.lo ≤ i.lo ∧ i.hi ≤ x.hi) ∧ (∃ x ∈ l, AtP p x ∧ i.lo = x.lo) ∧ (∃ x ∈ l, AtP p x ∧ i.hi = x.hi)
theorem look_step {l : List Atom} {t : Look} (H : LookOk l t) (a : Atom) : LookOk (l ++ [a]) (lookS t a) := by
  have hm : ∀ x, x ∈ l ++ [a] ↔ x ∈ l ∨ x = a := fun x => by simp
  by_cases hk : a.kind = 3
  · have hq : AtP ⟨a.name, a.x⟩ a := ⟨hk, rfl, rfl⟩
    have hu : ∀ p, AtP p a → p = ⟨a.name, a.x⟩ := fun p hp => by
      obtain ⟨_, e1, e2⟩ := hp
      cases p; simp_all
    unfold lookS
    rw [if_pos hk]
    refine ⟨fun x => ?_, fun p => ?_, fun p => ?_, fun p i => ?_⟩
    · rw [H.atoms, hm]
      constructor
      · rintro ⟨h1, h2⟩; exact ⟨.inl h1, h2⟩
      · rintro ⟨h1 | rfl, h2⟩
        · exact ⟨h1, h2⟩
        · exact absurd hk h2
    · dsimp only
      have hold : (∃ x ∈ l ++ [a], AtP p x) ↔ (∃ x ∈ l, AtP p x) ∨ p = ⟨a.name, a.x⟩ := by
        constructor
        · rintro ⟨x, hx, hp⟩
          rcases (hm x).1 hx with h | rfl
          · exact .inl ⟨x, h, hp⟩
          · exact .inr (hu p hp)
        · rintro (⟨x, hx, hp⟩ | rfl)
          · exact ⟨x, (hm x).2 (.inl hx), hp⟩
          · exact ⟨a, (hm a).2 (.inr rfl), hq⟩
      rw [hold]
      split
      · rename_i hs
        rw [H.places]
        refine ⟨.inl, fun h => h.elim id ?_⟩
        rintro rfl
        refine Classical.byContradiction fun hn => ?_
        have : t.ranges ⟨a.name, a.x⟩ = Option.none := (H.none _).2 fun x hx hp => hn ⟨x, hx, hp⟩
        rw [this] at hs; cases hs
      · rw [List.mem_append, H.places, List.mem_singleton]
    · simp only [fput]
      by_cases hp : p = ⟨a.name, a.x⟩
      · rw [if_pos hp]
        refine ⟨fun e => (by cases e), fun h => ?_⟩
        subst hp; exact absurd hq (h a ((hm a).2 (.inr rfl)))
      · rw [if_neg hp, H.none]
        constructor
        · intro h x hx
          rcases (hm x).1 hx with h' | rfl
          · exact h x h'
          · exact fun e => hp (hu p e)
        · intro h x hx; exact h x ((hm x).2 (.inl hx))
    · simp only [fput]
      by_cases hp : p = ⟨a.name, a.x⟩
      · rw [if_pos hp]
        intro e
        cases e
        subst hp
        dsimp only
        cases hr : t.ranges ⟨a.name, a.x⟩ with
        | none =>
          have hn := (H.none _).1 hr
          have honly : ∀ x ∈ l ++ [a], AtP ⟨a.name, a.x⟩ x → x = a := fun x hx hp => by
            rcases (hm x).1 hx with h | h
            · exact absurd hp (hn x h)
            · exact h
          simp only [Option.getD_none]
          refine ⟨fun x hx hp => ?_, ⟨a, (hm a).2 (.inr rfl), hq, by omega⟩, ⟨a, (hm a).2 (.inr rfl), hq, by omega⟩⟩
          rw [honly x hx hp]; omega
        | some i =>
          obtain ⟨h1, ⟨x1, hx1, hp1, e1⟩, ⟨x2, hx2, hp2, e2⟩⟩ := H.some _ _ hr
          simp only [Option.getD_some]
          refine ⟨fun x hx hp => ?_, ?_, ?_⟩
          · rcases (hm x).1 hx with h | rfl
            · have := h1 x h hp; omega
            · omega
          · rcases Int.le_total i.lo a.lo with h | h
            · exact ⟨a, (hm a).2 (.inr rfl), hq, by omega⟩
            · exact ⟨x1, (hm x1).2 (.inl hx1), hp1, by omega⟩
          · rcases Int.le_total a.hi i.hi with h | h
            · exact ⟨a, (hm a).2 (.inr rfl), hq, by omega⟩
            · exact ⟨x2, (hm x2).2 (.inl hx2), hp2, by omega⟩
      · rw [if_neg hp]
        intro e
        obtain ⟨h1, ⟨x1, hx1, hp1, e1⟩, ⟨x2, hx2, hp2, e2⟩⟩ := H.some _ _ e
        refine ⟨fun x hx hpx => ?_, ⟨x1, (hm x1).2 (.inl hx1), hp1, e1⟩, ⟨x2, (hm x2).2 (.inl hx2), hp2, e2⟩⟩
        rcases (hm x).1 hx with h | rfl
        · exact h1 x h hpx
        · exact absurd (hu p hpx) hp
  · have hn : ∀ p, ¬ AtP p a := fun p hp => hk hp.1
    unfold lookS
    rw [if_neg hk]
    refine ⟨fun x => ?_, fun p => ?_, fun p => ?_, fun p i e => ?_⟩
    · dsimp only
      rw [List.mem_append, H.atoms, List.mem_singleton, hm]
      constructor
      · rintro (⟨h1, h2⟩ | rfl)
        · exact ⟨.inl h1, h2⟩
        · exact ⟨.inr rfl, hk⟩
      · rintro ⟨h1 | rfl, h2⟩
        · exact .inl ⟨h1, h2⟩
        · exact .inr rfl
    · dsimp only
      rw [H.places]
      constructor
      · rintro ⟨x, hx, hp⟩; exact ⟨x, (hm x).2 (.inl hx), hp⟩
      · rintro ⟨x, hx, hp⟩
        rcases (hm x).1 hx with h | rfl
        · exact ⟨x, h, hp⟩
        · exact absurd hp (hn p)
    · dsimp only
      rw [H.none]
      constructor
      · intro h x hx
        rcases (hm x).1 hx with h' | rfl
        · exact h x h'
        · exact hn p
      · intro h x hx; exact h x ((hm x).2 (.inl hx))
    · obtain ⟨h1, ⟨x1, hx1, hp1, e1⟩, ⟨x2, hx2, hp2, e2⟩⟩ := H.some _ _ e
      refine ⟨fun x hx hpx => ?_, ⟨x1, (hm x1).2 (.inl hx1), hp1, e1⟩, ⟨x2, (hm x2).2 (.inl hx2), hp2, e2⟩⟩
      rcases (hm x).1 hx with h | rfl
      · exact h1 x h hpx
      · exact absurd hpx (hn p)
theorem look_ok (l : List Atom) : LookOk l (lookT l) := by
  have : ∀ (r l : List Atom) (t : Look), LookOk l t → LookOk (l ++ r) (r.foldl lookS t) := by
    intro r
    induction r with
    | nil => intro l t H; simpa using H
    | cons a r ih =>
      intro l t H
      have := ih _ _ (look_step H a)
      simpa using this
  have h := this l [] ⟨[], [], fun _ => Option.none⟩ ⟨by simp, by simp, by simp, by simp⟩
  simpa [lookT] using h
/-- the atom y, mapped by σ, is covered by the atoms a -/
def Cov (a : List Atom) (σ : ByteArray → ByteArray) (y : Atom) : Prop :=
  if y.kind = 3 then (∃ x ∈ a, AtP ⟨y.name, σ y.x⟩ x) ∧ ((∃ x ∈ a, ∃ z ∈ a, AtP ⟨y.name, σ y.x⟩ x ∧ AtP ⟨y.name, σ y.x⟩ z ∧ z.hi < x.lo) ∨ ((∃ x ∈ a, AtP ⟨y.name, σ y.x⟩ x ∧ y.lo ≤ x.lo) ∧ ∃ x ∈ a, AtP ⟨y.name, σ y.x⟩ x ∧ x.hi ≤ y.hi))
  else ∃ x ∈ a, x.kind = y.kind ∧ x.name = y.name ∧ x.x = σ y.x ∧ (y.kind = 2 → x.y = σ y.y)
theorem cov_iff {a : List Atom} {σ : ByteArray → ByteArray} {y : Atom} : Covers (lookT a) σ y ↔ Cov a σ y := by
  have H := look_ok a
  unfold Covers Cov
  by_cases hk : y.kind = 3
  · rw [if_pos hk, if_pos hk]
    have key : ∀ i, (lookT a).ranges ⟨y.name, σ y.x⟩ = some i → (narrowB i y = true ↔ ((∃ x ∈ a, ∃ z ∈ a, AtP ⟨y.name, σ y.x⟩ x ∧ AtP ⟨y.name, σ y.x⟩ z ∧ z.hi < x.lo) ∨ ((∃ x ∈ a, AtP ⟨y.name, σ y.x⟩ x ∧ y.lo ≤ x.lo) ∧ ∃ x ∈ a, AtP ⟨y.name, σ y.x⟩ x ∧ x.hi ≤ y.hi))) := fun i hi => by
      obtain ⟨h1, ⟨x1, hx1, hp1, e1⟩, ⟨x2, hx2, hp2, e2⟩⟩ := H.some _ _ hi
      unfold narrowB
      simp only [Bool.or_eq_true, Bool.and_eq_true, decide_eq_true_eq]
      constructor
      · rintro (h | ⟨h3, h4⟩)
        · exact .inl ⟨x1, hx1, x2, hx2, hp1, hp2, by omega⟩
        · exact .inr ⟨⟨x1, hx1, hp1, by omega⟩, x2, hx2, hp2, by omega⟩
      · rintro (⟨x, hx, z, hz, hpx, hpz, h⟩ | ⟨⟨x, hx, hpx, h3⟩, z, hz, hpz, h4⟩)
        · have := h1 x hx hpx; have := h1 z hz hpz; exact .inl (by omega)
        · have := h1 x hx hpx; have := h1 z hz hpz; exact .inr ⟨by omega, by omega⟩
    constructor
    · rintro ⟨p, hp, e1, e2, e3⟩
      have ep : p = ⟨y.name, σ y.x⟩ := by cases p; simp_all
      subst ep
      have hex := (H.places _).1 hp
      cases hr : (lookT a).ranges ⟨y.name, σ y.x⟩ with
      | none => obtain ⟨x, hx, hpx⟩ := hex; exact absurd hpx ((H.none _).1 hr x hx)
      | some i =>
        refine ⟨hex, (key i hr).1 ?_⟩
        rw [ivalAt, hr] at e3; exact e3
    · rintro ⟨hex, hn⟩
      refine ⟨⟨y.name, σ y.x⟩, (H.places _).2 hex, rfl, rfl, ?_⟩
      cases hr : (lookT a).ranges ⟨y.name, σ y.x⟩ with
      | none => obtain ⟨x, hx, hpx⟩ := hex; exact absurd hpx ((H.none _).1 hr x hx)
      | some i => rw [ivalAt, hr]; exact (key i hr).2 hn
  · rw [if_neg hk, if_neg hk]
    constructor
    · rintro ⟨x, hx, e1, e2⟩; exact ⟨x, ((H.atoms x).1 hx).1, e1, e2⟩
    · rintro ⟨x, hx, e1, e2⟩; exact ⟨x, (H.atoms x).2 ⟨hx, by rw [e1]; exact hk⟩, e1, e2⟩
theorem hom_iff {ts : List ByteArray} {a b : List Atom} : Hom ts a b ↔ ∃ σ : ByteArray → ByteArray, (∀ x, hiddenB ts x = false → σ x = x) ∧ ∀ y ∈ b, Cov a σ y := by
  unfold Hom Solvable
  constructor
  · rintro ⟨σ, _, h2, h3⟩; exact ⟨σ, h2, fun y hy => cov_iff.1 (h3 y hy)⟩
  · rintro ⟨σ, h2, h3⟩; exact ⟨σ, fun _ _ e => (by cases e), h2, fun y hy => cov_iff.2 (h3 y hy)⟩
/-- more atoms are contained in fewer ones -/
theorem hom_sub {ts : List ByteArray} {a b : List Atom} (h : ∀ x ∈ b, x ∈ a) : Hom ts a b := by
  refine hom_iff.2 ⟨id, fun _ _ => rfl, fun y hy => ?_⟩
  unfold Cov
  split
  · rename_i hk
    have : AtP ⟨y.name, id y.x⟩ y := ⟨hk, rfl, rfl⟩
    exact ⟨⟨y, h y hy, this⟩, .inr ⟨⟨y, h y hy, this, Int.le_refl _⟩, y, h y hy, this, Int.le_refl _⟩⟩
  · exact ⟨y, h y hy, rfl, rfl, rfl, fun _ => rfl⟩
theorem hom_trans {ts : List ByteArray} {a b c : List Atom} (h1 : Hom ts a b) (h2 : Hom ts b c) : Hom ts a c := by
  obtain ⟨σ, s1, s2⟩ := hom_iff.1 h1
  obtain ⟨τ, t1, t2⟩ := hom_iff.1 h2
  refine hom_iff.2 ⟨fun x => σ (τ x), fun x hx => by dsimp only; rw [t1 x hx, s1 x hx], fun y hy => ?_⟩
  have hc := t2 y hy
  unfold Cov at hc ⊢
  by_cases hk : y.kind = 3
  · rw [if_pos hk] at hc ⊢
    obtain ⟨⟨x, hx, hpx⟩, hn⟩ := hc
    -- every range of b at the place is mapped
    have up : ∀ x ∈ b, AtP ⟨y.name, τ y.x⟩ x → (∃ u ∈ a, AtP ⟨y.name, σ (τ y.x)⟩ u) ∧ ((∃ u ∈ a, ∃ z ∈ a, AtP ⟨y.name, σ (τ y.x)⟩ u ∧ AtP ⟨y.name, σ (τ y.x)⟩ z ∧ z.hi < u.lo) ∨ ((∃ u ∈ a, AtP ⟨y.name, σ (τ y.x)⟩ u ∧ x.lo ≤ u.lo) ∧ ∃ u ∈ a, AtP ⟨y.name, σ (τ y.x)⟩ u ∧ u.hi ≤ x.hi)) := fun x hx hp => by
      have := s2 x hx
      unfold Cov at this
      obtain ⟨e1, e2, e3⟩ := hp
      rw [if_pos e1, e2, e3] at this
      exact this
    refine ⟨(up x hx hpx).1, ?_⟩
    rcases hn with ⟨u, hu, z, hz, hpu, hpz, hlt⟩ | ⟨⟨u, hu, hpu, hlo⟩, z, hz, hpz, hhi⟩
    · rcases (up u hu hpu).2 with h | ⟨⟨u', hu', hpu', h1⟩, _⟩
      · exact .inl h
      · rcases (up z hz hpz).2 with h | ⟨_, z', hz', hpz', h2⟩
        · exact .inl h
        · exact .inl ⟨u', hu', z', hz', hpu', hpz', by omega⟩
    · rcases (up u hu hpu).2 with h | ⟨⟨u', hu', hpu', h1⟩, _⟩
      · exact .inl h
      · rcases (up z hz hpz).2 with h | ⟨_, z', hz', hpz', h2⟩
        · exact .inl h
        · exact .inr ⟨⟨u', hu', hpu', by omega⟩, z', hz', hpz', by omega⟩
  · rw [if_neg hk] at hc ⊢
    obtain ⟨x, hx, e1, e2, e3, e4⟩ := hc
    have := s2 x hx
    unfold Cov at this
    rw [if_neg (by rw [e1]; exact hk)] at this
    obtain ⟨u, hu, f1, f2, f3, f4⟩ := this
    refine ⟨u, hu, f1.trans e1, f2.trans e2, by rw [f3, e3], fun hy2 => ?_⟩
    rw [f4 (by rw [e1]; exact hy2), e4 hy2]
end Go.Proofs.YtgpmjggdloldnaaGreatDoor

namespace Go.Proofs.YtgpmjggdloldnaaGreatDoor
open Go Go.Sx
set_option maxRecDepth 100000
theorem homB_true {ts : List ByteArray} {a b : List Atom} (h : Hom ts a b) : homB ts a b = true := homB_iff.2 h
theorem homB_false {ts : List ByteArray} {a b : List Atom} (h : ¬ Hom ts a b) : homB ts a b = false := by
  rw [Bool.eq_false_iff]; exact fun e => h (homB_iff.1 e)
/-- two terms sent, all others kept -/
def send (p q p' q' : ByteArray) (x : ByteArray) : ByteArray := if x = p then p' else if x = q then q' else x
theorem send_keeps {ts : List ByteArray} {p q p' q' : ByteArray} (hp : hiddenB ts p = true) (hq : hiddenB ts q = true) : ∀ x, hiddenB ts x = false → send p q p' q' x = x := fun x hx => by
  unfold send
  rw [if_neg (by rintro rfl; rw [hp] at hx; cases hx), if_neg (by rintro rfl; rw [hq] at hx; cases hx)]
theorem hid_x : hiddenB [] vx = true := by decide
theorem hid_y : hiddenB [] vy = true := by decide
theorem hid_u : hiddenB [] vu = true := by decide
theorem hid_v : hiddenB [] vv = true := by decide
theorem hid_b : hiddenB [] sb = false := by decide
theorem xy : vx ≠ vy := by decide
theorem uv : vu ≠ vv := by decide
theorem xb : vx ≠ sb := by decide
theorem h1 : homB [] [mkRole sr vx vy, mkRole sr vy vx] [mkRole sr vu vv] = true := by
  refine homB_true (hom_iff.2 ⟨send vu vv vx vy, send_keeps hid_u hid_v, fun y hy => ?_⟩)
  have : y = mkRole sr vu vv := by simpa using hy
  subst this
  exact ⟨mkRole sr vx vy, by simp, rfl, rfl, rfl, fun _ => rfl⟩
theorem h2 : homB [] [mkRole sr vu vv] [mkRole sr vx vy, mkRole sr vy vx] = false := by
  refine homB_false fun h => ?_
  obtain ⟨σ, _, hc⟩ := hom_iff.1 h
  have c1 := hc (mkRole sr vx vy) (by simp)
  have c2 := hc (mkRole sr vy vx) (by simp)
  unfold Cov at c1 c2
  rw [if_neg (by decide)] at c1 c2
  obtain ⟨x, hx, _, _, _, e1⟩ := c1
  obtain ⟨z, hz, _, _, e2, _⟩ := c2
  have hx : x = mkRole sr vu vv := by simpa using hx
  have hz : z = mkRole sr vu vv := by simpa using hz
  subst hx hz
  have e1 : vv = σ vy := e1 rfl
  have e2 : vu = σ vy := e2
  exact uv (e2.trans e1.symm)
theorem h3 : homB [] [mkSpan sf sa 1 5, mkSpan sf sa 4 9] [mkSpan sf sa 4 6] = true := by
  refine homB_true (hom_iff.2 ⟨id, fun _ _ => rfl, fun y hy => ?_⟩)
  have : y = mkSpan sf sa 4 6 := by simpa using hy
  subst this
  have a1 : AtP ⟨sf, sa⟩ (mkSpan sf sa 1 5) := ⟨rfl, rfl, rfl⟩
  have a2 : AtP ⟨sf, sa⟩ (mkSpan sf sa 4 9) := ⟨rfl, rfl, rfl⟩
  exact ⟨⟨_, by simp, a1⟩, .inr ⟨⟨mkSpan sf sa 4 9, by simp, a2, by decide⟩, mkSpan sf sa 1 5, by simp, a1, by decide⟩⟩
theorem h5 : homB [] [mkConcept sA vx] [mkConcept sA sb] = false := by
  refine homB_false fun h => ?_
  obtain ⟨σ, hk, hc⟩ := hom_iff.1 h
  have c1 := hc (mkConcept sA sb) (by simp)
  unfold Cov at c1
  rw [if_neg (by decide)] at c1
  obtain ⟨x, hx, _, _, e, _⟩ := c1
  have hx : x = mkConcept sA vx := by simpa using hx
  subst hx
  have e : vx = σ sb := e
  rw [hk sb hid_b] at e
  exact xb e
theorem h6 : homB [] [mkConcept sA sb] [mkConcept sA vx] = true := by
  refine homB_true (hom_iff.2 ⟨send vx vx sb sb, send_keeps hid_x hid_x, fun y hy => ?_⟩)
  have : y = mkConcept sA vx := by simpa using hy
  subst this
  exact ⟨mkConcept sA sb, by simp, rfl, rfl, rfl, fun e => by cases e⟩
theorem p_ok {a b : List Atom} (ha : checkE [] a = 0) (hb : checkE [] b = 0) : partE [] a b = 0 := by rw [partE, if_neg (by simp [ha]), hb]
theorem c_roles2 {x y u v : ByteArray} (hx : termB x = true) (hy : termB y = true) (hu : termB u = true) (hv : termB v = true) : checkE [] [mkRole sr x y, mkRole sr u v] = 0 :=
  checkE_small (by simp) (by simp) fun z hz => by
    simp only [List.mem_cons, List.not_mem_nil, or_false] at hz
    rcases hz with rfl | rfl
    · exact e_role hx hy
    · exact e_role hu hv
theorem c_role1 {x y : ByteArray} (hx : termB x = true) (hy : termB y = true) : checkE [] [mkRole sr x y] = 0 :=
  checkE_small (by simp) (by simp) fun z hz => by
    have : z = mkRole sr x y := by simpa using hz
    rw [this]; exact e_role hx hy
theorem c_concept {x : ByteArray} (hx : termB x = true) : checkE [] [mkConcept sA x] = 0 :=
  checkE_small (by simp) (by simp) fun z hz => by
    have : z = mkConcept sA x := by simpa using hz
    rw [this]; exact e_concept hx
theorem c_span2 : checkE [] [mkSpan sf sa 1 5, mkSpan sf sa 4 9] = 0 :=
  checkE_small (by simp) (by simp) fun z hz => by
    simp only [List.mem_cons, List.not_mem_nil, or_false] at hz
    rcases hz with rfl | rfl <;> exact e_span (by decide) (by decide) (by decide)
theorem c_span1 : checkE [] [mkSpan sf sa 4 6] = 0 :=
  checkE_small (by simp) (by simp) fun z hz => by
    have : z = mkSpan sf sa 4 6 := by simpa using hz
    rw [this]; exact e_span (by decide) (by decide) (by decide)
theorem c_core : checkE [] [mkRole sr vx vy, mkRole sr vu vv, mkConcept sA vv] = 0 :=
  checkE_small (by simp) (by simp) fun z hz => by
    simp only [List.mem_cons, List.not_mem_nil, or_false] at hz
    rcases hz with rfl | rfl | rfl
    · exact e_role t_x t_y
    · exact e_role t_u t_v
    · exact e_concept t_v
end Go.Proofs.YtgpmjggdloldnaaGreatDoor

namespace Go.Proofs.YtgpmjggdloldnaaGreatDoor
open Go Go.Sx
set_option maxRecDepth 100000
theorem sort3 : sortA [mkRole sr vx vy, mkRole sr vu vv, mkConcept sA vv] = [mkConcept sA vv, mkRole sr vu vv, mkRole sr vx vy] := by
  have h : ∀ a b : ByteArray, lessS a b = Op.bytesLess a.data.toList b.data.toList := fun a b => by rw [lessS, ByteArray.toList_eq, ByteArray.toList_eq]
  simp [sortA, List.mergeSort, List.MergeSort.Internal.splitInTwo, ltOf, compareA, orL, cmpI, cmpS, h, ByteArray.toList_eq, mkRole, mkConcept, sr, sA, vx, vy, vu, vv, Op.bytesLess]
theorem ne1 : mkConcept sA vv ≠ mkRole sr vu vv := by decide
theorem ne2 : mkRole sr vu vv ≠ mkRole sr vx vy := by decide
theorem tidy3 : tidyA [mkRole sr vx vy, mkRole sr vu vv, mkConcept sA vv] = [mkConcept sA vv, mkRole sr vu vv, mkRole sr vx vy] := by
  rw [tidyA, sort3, compactA, if_neg ne1, compactA, if_neg ne2]; rfl
theorem s2 : spareB [] [mkConcept sA vv, mkRole sr vu vv] (mkRole sr vx vy) = true := by
  have : homB [] [mkConcept sA vv, mkRole sr vu vv] ([mkConcept sA vv, mkRole sr vu vv] ++ [mkRole sr vx vy]) = true := by
    refine homB_true (hom_iff.2 ⟨send vx vy vu vv, send_keeps hid_x hid_y, fun y hy => ?_⟩)
    simp only [List.cons_append, List.nil_append, List.mem_cons, List.not_mem_nil, or_false] at hy
    rcases hy with rfl | rfl | rfl
    · exact ⟨mkConcept sA vv, by simp, rfl, rfl, by decide, fun e => by cases e⟩
    · exact ⟨mkRole sr vu vv, by simp, rfl, rfl, by decide, fun _ => by decide⟩
    · exact ⟨mkRole sr vu vv, by simp, rfl, rfl, by decide, fun _ => by decide⟩
  rw [spareB, this]; rfl
theorem s1 : spareB [] [mkConcept sA vv] (mkRole sr vu vv) = false := by
  have : homB [] [mkConcept sA vv] ([mkConcept sA vv] ++ [mkRole sr vu vv]) = false := by
    refine homB_false fun h => ?_
    obtain ⟨σ, _, hc⟩ := hom_iff.1 h
    have c := hc (mkRole sr vu vv) (by simp)
    unfold Cov at c
    rw [if_neg (by decide)] at c
    obtain ⟨x, hx, e, _⟩ := c
    have hx : x = mkConcept sA vv := by simpa using hx
    subst hx; exact absurd e (by decide)
  rw [spareB, this, Bool.and_false]
theorem s0 : spareB [] [mkRole sr vu vv] (mkConcept sA vv) = false := by
  have : homB [] [mkRole sr vu vv] ([mkRole sr vu vv] ++ [mkConcept sA vv]) = false := by
    refine homB_false fun h => ?_
    obtain ⟨σ, _, hc⟩ := hom_iff.1 h
    have c := hc (mkConcept sA vv) (by simp)
    unfold Cov at c
    rw [if_neg (by decide)] at c
    obtain ⟨x, hx, e, _⟩ := c
    have hx : x = mkRole sr vu vv := by simpa using hx
    subst hx; exact absurd e (by decide)
  rw [spareB, this, Bool.and_false]
theorem core3 : coreA [] [mkRole sr vx vy, mkRole sr vu vv, mkConcept sA vv] = [mkConcept sA vv, mkRole sr vu vv] := by
  rw [coreA, tidy3, pruneL]
  show pruneN (spareB []) 3 _ = _
  simp [pruneN, s2, s1, s0]
theorem mem_upTo {α : Type} [Inhabited α] [DecidableEq α] (d : Array α) (x : α) : ∀ m, x ∈ Lib.compactUpTo d m ↔ ∃ j, j < m ∧ d[j]! = x
  | 0 => by simp [Lib.compactUpTo]
  | m + 1 => by
    rw [Lib.compactUpTo_succ, List.mem_append, mem_upTo d x m]
    constructor
    · rintro (⟨j, hj, e⟩ | h)
      · exact ⟨j, by omega, e⟩
      · split at h
        · exact ⟨m, by omega, by simpa using (List.mem_singleton.1 h).symm⟩
        · cases h
    · rintro ⟨j, hj, e⟩
      by_cases hjm : j = m
      · subst hjm
        by_cases hk : Lib.keeps d j = true
        · right; rw [if_pos hk]; exact List.mem_singleton.2 e.symm
        · left
          have : ¬ (j = 0 ∨ d[j]! ≠ d[j - 1]!) := fun h => hk (by simp only [Lib.keeps, decide_eq_true_eq]; exact h)
          have h0 : j ≠ 0 := fun e => this (.inl e)
          have h1 : d[j]! = d[j - 1]! := Classical.byContradiction fun e => this (.inr e)
          exact ⟨j - 1, by omega, by rw [← h1]; exact e⟩
      · exact .inl ⟨j, by omega, e⟩
theorem mem_compact {α : Type} [Inhabited α] [DecidableEq α] (l : List α) (x : α) : x ∈ Lib.compact l ↔ x ∈ l := by
  unfold Lib.compact
  rw [mem_upTo]
  constructor
  · rintro ⟨j, hj, e⟩
    rw [getElem!_pos _ _ (by simpa using hj)] at e
    rw [← e]; simp
  · intro h
    obtain ⟨j, hj, e⟩ := List.mem_iff_getElem.1 h
    exact ⟨j, hj, by rw [getElem!_pos _ _ (by simpa using hj)]; simpa using e⟩
theorem strOf_mem {l : List (List UInt8)} {s : ByteArray} : s ∈ l.map strOf ↔ bytesOf s ∈ l := by
  rw [List.mem_map]
  constructor
  · rintro ⟨a, ha, rfl⟩; exact ha
  · intro h; exact ⟨bytesOf s, h, strOf_bytesOf s⟩
theorem bytesOf_mem {l : List ByteArray} {s : ByteArray} : bytesOf s ∈ l.map bytesOf ↔ s ∈ l := by
  rw [List.mem_map]
  constructor
  · rintro ⟨a, ha, e⟩
    have := congrArg strOf e
    rw [strOf_bytesOf, strOf_bytesOf] at this
    exact this ▸ ha
  · intro h; exact ⟨s, h, rfl⟩
theorem mem_varsOf {p : List Atom} {s : ByteArray} : s ∈ varsOf p ↔ s ∈ varsRaw p := by
  rw [varsOf, compactS, strOf_mem, mem_compact, bytesOf_mem, sortS, strOf_mem, List.mem_mergeSort, bytesOf_mem]
theorem p7 : partE [vx, vy] [mkConcept sA vx] [mkConcept sA vy] = 210 := by
  have hc : checkE [vx, vy] [mkConcept sA vx] = 210 := by
    have hs : shapeE [vx, vy] [[mkConcept sA vx]] = 0 := by decide
    have hf : ([[mkConcept sA vx]] : List (List Atom)).flatten.find? (fun a => atomE a != 0) = none := by
      rw [List.find?_eq_none]; intro x hx
      have : x = mkConcept sA vx := by simpa using hx
      rw [this, e_concept t_x]; simp
    have ht : toldE [vx, vy] [[mkConcept sA vx]] = 210 := by
      have hv : ([vx, vy] : List ByteArray).all variableB = true := by decide
      rw [toldE, if_pos hv, if_neg]
      intro h
      have h1 := List.all_eq_true.1 h 1 (by simp)
      unfold toldOk at h1
      simp only [List.all_cons, List.all_nil, Bool.and_true, Bool.and_eq_true] at h1
      have h2 := (Lib.containsS_iff _ _).1 h1.2
      rw [mem_varsOf] at h2
      have e : varsRaw [mkConcept sA vx] = [vx] := by decide
      rw [e] at h2
      exact xy (List.mem_singleton.1 h2).symm
    rw [checkE, queryE, hs, if_neg (by simp), hf]
    simp only [ht]; rfl
  rw [partE, hc]; rfl
end Go.Proofs.YtgpmjggdloldnaaGreatDoor

namespace Go.Proofs.YtgpmjggdloldnaaGreatDoor
open Go Go.Sx
set_option maxRecDepth 100000
theorem hom_mem {ts : List ByteArray} {a b a' b' : List Atom} (ha : ∀ x ∈ a, x ∈ a') (hb : ∀ x ∈ b', x ∈ b) (h : Hom ts a b) : Hom ts a' b' :=
  hom_trans (hom_trans (hom_sub ha) h) (hom_sub hb)
theorem mention_mono {ts : List ByteArray} {a b : List Atom} (h : ∀ x ∈ a, x ∈ b) (hm : mentionB a ts = true) : mentionB b ts = true := by
  unfold mentionB at *
  rw [List.all_eq_true] at *
  intro t ht
  obtain ⟨x, hx, hp⟩ := List.any_eq_true.1 (hm t ht)
  exact List.any_eq_true.2 ⟨x, h x hx, hp⟩
theorem erase_mem {α : Type} {l : List α} {i : Nat} {x : α} (hx : l[i]? = some x) (y : α) : y ∈ l.eraseIdx i ++ [x] ↔ y ∈ l := by
  rw [List.mem_append, List.mem_singleton, List.mem_eraseIdx_iff_getElem?]
  constructor
  · rintro (⟨j, _, hj⟩ | rfl)
    · exact List.mem_of_getElem? hj
    · exact List.mem_of_getElem? hx
  · intro h
    obtain ⟨j, hj⟩ := List.mem_iff_getElem?.1 h
    by_cases e : j = i
    · subst e; right; rw [hj] at hx; exact Option.some.inj hx
    · exact .inl ⟨j, e, hj⟩
theorem erase_ne {α : Type} {l : List α} (hn : l.Nodup) {i : Nat} {x : α} (hx : l[i]? = some x) (y : α) : y ∈ l.eraseIdx i ↔ y ∈ l ∧ y ≠ x := by
  rw [List.mem_eraseIdx_iff_getElem?]
  constructor
  · rintro ⟨j, hj, hy⟩
    refine ⟨List.mem_of_getElem? hy, ?_⟩
    rintro rfl
    exact hj ((List.getElem?_inj (List.getElem?_eq_some_iff.1 hy).1 hn).1 (hy.trans hx.symm))
  · rintro ⟨hy, hne⟩
    obtain ⟨j, hj⟩ := List.mem_iff_getElem?.1 hy
    refine ⟨j, ?_, hj⟩
    rintro rfl
    rw [hj] at hx; exact hne (Option.some.inj hx)
theorem spare_iff {ts : List ByteArray} {r : List Atom} {x : Atom} : spareB ts r x = true ↔ r ≠ [] ∧ mentionB r ts = true ∧ Hom ts r (r ++ [x]) := by
  unfold spareB
  rw [Bool.and_eq_true, Bool.and_eq_true, decide_eq_true_eq, homB_iff, and_assoc]
  have : (0 : Int) < (r.length : Int) ↔ r ≠ [] := by
    rw [← List.length_pos_iff]; omega
  rw [this]
theorem spare_up {ts : List ByteArray} {m l : List Atom} (hn : m.Nodup) (hl : l.Nodup) (hs : ∀ y ∈ m, y ∈ l) (hh : Hom ts m l) {k i : Nat} {x : Atom} (hk : m[k]? = some x) (hi : l[i]? = some x)
    (h : spareB ts (m.eraseIdx k) x = true) : spareB ts (l.eraseIdx i) x = true := by
  rw [spare_iff] at *
  obtain ⟨h1, h2, h3⟩ := h
  have hsub : ∀ y ∈ m.eraseIdx k, y ∈ l.eraseIdx i := fun y hy => by
    rw [erase_ne hn hk] at hy
    rw [erase_ne hl hi]; exact ⟨hs y hy.1, hy.2⟩
  refine ⟨fun e => ?_, mention_mono hsub h2, ?_⟩
  · obtain ⟨y, hy⟩ := List.exists_mem_of_ne_nil _ h1
    have := hsub y hy; rw [e] at this; cases this
  · have h4 : Hom ts m (l.eraseIdx i ++ [x]) := hom_mem (fun _ h => h) (fun y hy => (erase_mem hi y).1 hy) hh
    have h5 : Hom ts (m.eraseIdx k) m := hom_mem (fun _ h => h) (fun y hy => (erase_mem hk y).2 hy) h3
    exact hom_mem hsub (fun _ h => h) (hom_trans h5 h4)
/-- what pruning leaves -/
structure Pruned (ts : List ByteArray) (i : Nat) (l m : List Atom) : Prop where
  sub : m.Sublist l
  hom : Hom ts m l
  men : mentionB l ts = true → mentionB m ts = true
  ne : l ≠ [] → m ≠ []
  tight : ∀ k x, m[k]? = some x → x ∈ l.take i → spareB ts (m.eraseIdx k) x = false
theorem prune_ok {ts : List ByteArray} : ∀ (i : Nat) (l : List Atom), l.Nodup → i ≤ l.length → Pruned ts i l (pruneN (spareB ts) i l)
  | 0, l, _, _ => ⟨List.Sublist.refl _, hom_sub fun _ h => h, id, id, fun _ _ _ h => by simp at h⟩
  | i + 1, l, hn, hi => by
    have hx : l[i]? = some l[i] := List.getElem?_eq_getElem (by omega)
    rw [pruneN, hx]
    simp only
    by_cases hs : spareB ts (l.eraseIdx i) l[i] = true
    · rw [if_pos hs]
      have hn2 : (l.eraseIdx i).Nodup := hn.sublist (List.eraseIdx_sublist _ _)
      have hi2 : i ≤ (l.eraseIdx i).length := by rw [List.length_eraseIdx_of_lt (by omega)]; omega
      obtain ⟨p1, p2, p3, p4, p5⟩ := prune_ok i (l.eraseIdx i) hn2 hi2
      generalize pruneN (spareB ts) i (l.eraseIdx i) = m at *
      have hs' := spare_iff.1 hs
      refine ⟨p1.trans (List.eraseIdx_sublist _ _), ?_, fun _ => p3 hs'.2.1, fun _ => p4 hs'.1, fun k x hk hxt => p5 k x hk ?_⟩
      · exact hom_trans p2 (hom_mem (fun _ h => h) (fun y hy => (erase_mem hx y).2 hy) hs'.2.2)
      · have hxm : x ∈ l.eraseIdx i := p1.subset (List.mem_of_getElem? hk)
        have e : (l.eraseIdx i).take i = l.take i := by
          rw [List.eraseIdx_eq_take_drop_succ, List.take_append_of_le_length (by simp; omega), List.take_take, Nat.min_self]
        rw [e]
        rw [List.take_add_one, hx, List.mem_append] at hxt
        refine hxt.resolve_right fun h => ?_
        have : x = l[i] := by simpa using h
        exact ((erase_ne hn hx x).1 hxm).2 this
    · have hs : spareB ts (l.eraseIdx i) l[i] = false := by simpa using hs
      rw [hs, if_neg (by simp)]
      obtain ⟨p1, p2, p3, p4, p5⟩ := prune_ok i l hn (by omega)
      generalize pruneN (spareB ts) i l = m at *
      refine ⟨p1, p2, p3, p4, fun k x hk hxt => ?_⟩
      rw [List.take_add_one, hx, List.mem_append] at hxt
      rcases hxt with h | h
      · exact p5 k x hk h
      · have : x = l[i] := by simpa using h
        subst this
        rw [Bool.eq_false_iff]
        intro h
        rw [spare_up (hn.sublist p1) hn (fun y hy => p1.subset hy) p2 hk hx h] at hs
        cases hs
/-! ### tidy -/
def leA (x y : Atom) : Bool := !(ltOf compareA) y x
theorem leA_iff {x y : Atom} : leA x y = true ↔ x = y ∨ compareA x y < 0 := by
  unfold leA
  rw [Bool.not_eq_true']
  constructor
  · intro h
    by_cases e : ltOf compareA x y = true
    · exact .inr (ltOf_iff.1 e)
    · exact .inl (totA x y (by simpa using e) h)
  · rintro (rfl | h)
    · exact swoA.irrefl x
    · rw [Bool.eq_false_iff]; intro h2
      have := ltOf_iff.1 h2
      have h3 := (linA.anti _ _).1 h
      omega
def Strict (l : List Atom) : Prop := l.Pairwise fun x y => compareA x y < 0
theorem Strict.nodup {l : List Atom} (h : Strict l) : l.Nodup := by
  refine h.imp ?_
  rintro x y hxy rfl
  rw [(linA.zero x x).2 rfl] at hxy; omega
theorem sorted_A (l : List Atom) : (sortA l).Pairwise fun x y => leA x y = true := by
  refine List.pairwise_mergeSort (le := leA) ?_ ?_ l
  · intro a b c h1 h2
    rw [leA_iff] at *
    rcases h1 with rfl | h1
    · exact h2
    · rcases h2 with rfl | h2
      · exact .inr h1
      · exact .inr (linA.trans _ _ _ h1 h2)
  · intro a b
    rw [Bool.or_eq_true, leA_iff, leA_iff]
    by_cases e : compareA a b < 0
    · exact .inl (.inr e)
    · by_cases e0 : compareA a b = 0
      · exact .inl (.inl ((linA.zero _ _).1 e0))
      · exact .inr (.inr ((linA.anti b a).2 (by omega)))
theorem compactA_strict : ∀ {l : List Atom}, l.Pairwise (fun x y => leA x y = true) → Strict (compactA l)
  | [], _ => List.Pairwise.nil
  | [x], _ => List.pairwise_singleton _ _
  | x :: y :: r, h => by
    have hr := (List.pairwise_cons.1 h).2
    have ih := compactA_strict hr
    unfold compactA
    split
    · exact ih
    · rename_i hne
      refine List.pairwise_cons.2 ⟨fun z hz => ?_, ih⟩
      rw [compactA_mem] at hz
      have hxy := (leA_iff.1 ((List.pairwise_cons.1 h).1 y List.mem_cons_self)).resolve_left hne
      rcases List.mem_cons.1 hz with rfl | hz
      · exact hxy
      · rcases leA_iff.1 ((List.pairwise_cons.1 hr).1 z hz) with rfl | h2
        · exact hxy
        · exact linA.trans _ _ _ hxy h2
theorem tidyA_strict (l : List Atom) : Strict (tidyA l) := compactA_strict (sorted_A l)
theorem compactA_id : ∀ {l : List Atom}, Strict l → compactA l = l
  | [], _ => rfl
  | [x], _ => rfl
  | x :: y :: r, h => by
    have hxy := (List.pairwise_cons.1 h).1 y List.mem_cons_self
    unfold compactA
    rw [if_neg (by rintro rfl; rw [(linA.zero x x).2 rfl] at hxy; omega), compactA_id (List.pairwise_cons.1 h).2]
theorem tidyA_id {l : List Atom} (h : Strict l) : tidyA l = l := by
  have : sortA l = l := List.mergeSort_of_pairwise (le := leA) (h.imp fun h => leA_iff.2 (.inr h))
  rw [tidyA, this, compactA_id h]
theorem pruneN_same {α : Type} {sp : List α → α → Bool} {l : List α} (h : ∀ k x, l[k]? = some x → sp (l.eraseIdx k) x = false) : ∀ i, pruneN sp i l = l
  | 0 => rfl
  | i + 1 => by
    rw [pruneN]
    split
    · exact pruneN_same h i
    · rename_i x hx
      rw [h i x hx, if_neg (by simp)]; exact pruneN_same h i
/-- what a core is -/
structure IsCore (ts : List ByteArray) (l m : List Atom) : Prop where
  mem : ∀ x ∈ m, x ∈ l
  hom : Hom ts m l
  men : mentionB l ts = true → mentionB m ts = true
  ne : l ≠ [] → m ≠ []
  len : m.length ≤ l.length
  tight : ∀ k x, m[k]? = some x → spareB ts (m.eraseIdx k) x = false
  again : coreA ts m = m
theorem core_ok (ts : List ByteArray) (l : List Atom) : IsCore ts l (coreA ts l) := by
  obtain ⟨p1, p2, p3, p4, p5⟩ := prune_ok (ts := ts) (tidyA l).length (tidyA l) (tidyA_strict l).nodup (Nat.le_refl _)
  have e : pruneN (spareB ts) (tidyA l).length (tidyA l) = coreA ts l := rfl
  rw [e] at p1 p2 p3 p4 p5
  have hs : Strict (coreA ts l) := (tidyA_strict l).sublist p1
  have ht : ∀ k x, (coreA ts l)[k]? = some x → spareB ts ((coreA ts l).eraseIdx k) x = false := fun k x hk => p5 k x hk (by rw [List.take_length]; exact p1.subset (List.mem_of_getElem? hk))
  refine ⟨fun x hx => tidyA_mem (p1.subset hx), hom_mem (fun _ h => h) (fun x hx => tidyA_iff.2 hx) p2, fun h => p3 (mention_mono (fun x hx => tidyA_iff.2 hx) h), fun h => p4 fun e => ?_, Nat.le_trans p1.length_le (tidyA_le l), ht, ?_⟩
  · obtain ⟨x, hx⟩ := List.exists_mem_of_ne_nil _ h
    have := tidyA_iff.2 hx; rw [e] at this; cases this
  · generalize coreA ts l = m at hs ht
    rw [coreA, tidyA_id hs, pruneL, pruneN_same ht]
end Go.Proofs.YtgpmjggdloldnaaGreatDoor

namespace Go.Proofs.YtgpmjggdloldnaaGreatDoor
open Go Go.Sx
set_option maxRecDepth 100000
theorem blt_of {a b : List UInt8} (h : a ≤ b) (hne : a ≠ b) : a < b := Classical.byContradiction fun hn => hne (List.le_antisymm h hn)
theorem ble_trans {a b c : List UInt8} (h1 : a ≤ b) (h2 : b ≤ c) : a ≤ c := List.le_trans h1 h2
theorem compactUpTo_strict (d : Array (List UInt8)) (hd : ∀ i j, i ≤ j → j < d.size → d[i]! ≤ d[j]!) : ∀ m, m ≤ d.size → (Lib.compactUpTo d m).Pairwise (· < ·) ∧ (∀ x ∈ Lib.compactUpTo d m, 0 < m ∧ x ≤ d[m - 1]!)
  | 0, _ => ⟨by simp [Lib.compactUpTo], by simp [Lib.compactUpTo]⟩
  | m + 1, hm => by
    obtain ⟨h1, h2⟩ := compactUpTo_strict d hd m (by omega)
    rw [Lib.compactUpTo_succ]
    by_cases hk : Lib.keeps d m = true
    · rw [if_pos hk]
      refine ⟨List.pairwise_append.2 ⟨h1, List.pairwise_singleton _ _, fun x hx y hy => ?_⟩, fun x hx => ⟨Nat.succ_pos _, ?_⟩⟩
      · have hy : y = d[m]! := by simpa using hy
        subst hy
        obtain ⟨hm0, hle⟩ := h2 x hx
        have hne : d[m - 1]! ≠ d[m]! := by
          simp only [Lib.keeps, decide_eq_true_eq] at hk
          rcases hk with h | h
          · omega
          · exact Ne.symm h
        have h3 := blt_of (hd (m - 1) m (by omega) (by omega)) hne
        exact List.lt_of_le_of_lt hle h3
      · rcases List.mem_append.1 hx with hx | hx
        · obtain ⟨hm0, hle⟩ := h2 x hx
          exact ble_trans hle (hd _ _ (by omega) (by omega))
        · have hx : x = d[m]! := by simpa using hx
          subst hx; exact List.le_refl _
    · rw [if_neg hk, List.append_nil]
      refine ⟨h1, fun x hx => ⟨Nat.succ_pos _, ?_⟩⟩
      obtain ⟨hm0, hle⟩ := h2 x hx
      exact ble_trans hle (hd _ _ (by omega) (by omega))
theorem compactS_nodup (l : List ByteArray) : (compactS (sortS l)).Nodup := by
  have hp : (((l.map bytesOf).mergeSort fun x y => decide (x ≤ y))).Pairwise (fun x y => decide (x ≤ y) = true) := by
    refine List.pairwise_mergeSort ?_ ?_ _
    · intro a b c h1 h2
      exact decide_eq_true (ble_trans (of_decide_eq_true h1) (of_decide_eq_true h2))
    · intro a b
      rw [Bool.or_eq_true, decide_eq_true_eq, decide_eq_true_eq]
      exact List.le_total a b
  rw [compactS, sortS, map_bytesOf_strOf]
  generalize ((l.map bytesOf).mergeSort fun x y => decide (x ≤ y)) = zs at hp
  have hs := (compactUpTo_strict zs.toArray (fun i j hij hj => by
    have hj : j < zs.length := by simpa using hj
    rw [getElem!_pos _ _ (by simpa using Nat.lt_of_le_of_lt hij hj), getElem!_pos _ _ (by simpa using hj)]
    rcases Nat.lt_or_ge i j with h | h
    · have := List.pairwise_iff_getElem.1 hp i j (by omega) hj h
      simpa using this
    · have : i = j := by omega
      subst this; exact List.le_refl _) zs.length (by simp)).1
  have hn : (Lib.compact zs).Nodup := hs.imp fun h e => by subst e; exact List.lt_irrefl _ h
  refine List.Pairwise.map _ (fun a b hab e => hab ?_) hn
  have := congrArg bytesOf e
  exact this
theorem varsOf_sub {m l : List Atom} (h : ∀ x ∈ m, x ∈ l) : (varsOf m).length ≤ (varsOf l).length := by
  refine (compactS_nodup _).length_le_of_subset fun s hs => ?_
  have hs : s ∈ varsOf m := hs
  show s ∈ varsOf l
  rw [mem_varsOf] at *
  obtain ⟨a, ha, hs⟩ := List.mem_flatMap.1 hs
  exact List.mem_flatMap.2 ⟨a, h a ha, hs⟩
theorem looks_of_variable {s : ByteArray} (h : variableB s = true) : looksB s = true := by
  unfold variableB at h
  simp only [Bool.and_eq_true, Bool.not_eq_true', Bool.or_eq_false_iff] at h
  obtain ⟨⟨⟨⟨h1, _⟩, h3⟩, _⟩, _⟩ := h
  have h1 : 2 ≤ s.size := by simpa using h1
  have h3 : s.data.toList.headD 0 = 63 := by simpa using h3
  unfold looksB
  have hl := data_length s
  cases hd : s.data.toList with
  | nil => rw [hd] at hl; simp at hl; omega
  | cons c r =>
    rw [hd] at h3
    have : c = 63 := h3
    subst this
    simp [Lib.hasPrefix]
theorem has_vars {l : List Atom} {t : ByteArray} (ht : looksB t = true) : t ∈ varsOf l ↔ l.any (hasT t) = true := by
  rw [mem_varsOf, List.any_eq_true]
  constructor
  · intro h
    obtain ⟨a, ha, hs⟩ := List.mem_flatMap.1 h
    refine ⟨a, ha, ?_⟩
    have := (List.mem_filter.1 hs).1
    simp only [List.mem_cons, List.not_mem_nil, or_false] at this
    unfold hasT
    rw [Bool.or_eq_true, beq_toList, beq_toList]
    rcases this with rfl | rfl
    · exact .inl rfl
    · exact .inr rfl
  · rintro ⟨a, ha, hs⟩
    refine List.mem_flatMap.2 ⟨a, ha, List.mem_filter.2 ⟨?_, ht⟩⟩
    unfold hasT at hs
    rw [Bool.or_eq_true, beq_toList, beq_toList] at hs
    rcases hs with rfl | rfl <;> simp
/-- the check of one part -/
structure CheckOk (ts : List ByteArray) (l : List Atom) : Prop where
  few : ts.length ≤ 3
  low : 1 ≤ l.length
  high : l.length ≤ 12
  atoms : ∀ a ∈ l, atomE a = 0
  vars : ts.all variableB = true
  once : ∀ i, i < ts.length → Lib.containsS (ts.take i) (ts.getD i ByteArray.empty) = false
  men : mentionB l ts = true
  eight : (varsOf l).length ≤ 8
theorem checkE_iff {ts : List ByteArray} {l : List Atom} : checkE ts l = 0 ↔ CheckOk ts l := by
  have hat : ([l] : List (List Atom)).flatten = l := by simp
  have htold : ts.all variableB = true → ((List.range ts.length).all (toldOk ts [l]) = true ↔ (∀ i, i < ts.length → Lib.containsS (ts.take i) (ts.getD i ByteArray.empty) = false) ∧ mentionB l ts = true) := fun hv => by
    have hl : ∀ i, i < ts.length → looksB (ts.getD i ByteArray.empty) = true := fun i hi => by
      rw [List.getD_eq_getElem?_getD, List.getElem?_eq_getElem hi]
      exact looks_of_variable (List.all_eq_true.1 hv _ (List.getElem_mem hi))
    have key : ∀ i, i < ts.length → (toldOk ts [l] i = true ↔ Lib.containsS (ts.take i) (ts.getD i ByteArray.empty) = false ∧ l.any (hasT (ts.getD i ByteArray.empty)) = true) := fun i hi => by
      unfold toldOk
      simp only [List.all_cons, List.all_nil, Bool.and_true, Bool.and_eq_true, Bool.not_eq_true']
      rw [Lib.containsS_iff (varsOf l), has_vars (hl i hi)]
    rw [List.all_eq_true]
    constructor
    · intro h
      refine ⟨fun i hi => ((key i hi).1 (h i (List.mem_range.2 hi))).1, ?_⟩
      unfold mentionB
      rw [List.all_eq_true]
      intro t ht
      obtain ⟨i, hi, e⟩ := List.mem_iff_getElem.1 ht
      have := ((key i hi).1 (h i (List.mem_range.2 hi))).2
      rw [List.getD_eq_getElem?_getD, List.getElem?_eq_getElem hi, Option.getD_some, e] at this
      exact this
    · rintro ⟨h1, h2⟩ i hi
      have hi := List.mem_range.1 hi
      refine (key i hi).2 ⟨h1 i hi, ?_⟩
      unfold mentionB at h2
      rw [List.all_eq_true] at h2
      rw [List.getD_eq_getElem?_getD, List.getElem?_eq_getElem hi, Option.getD_some]
      exact h2 _ (List.getElem_mem hi)
  have hshape : shapeE ts [l] = 0 ↔ ts.length ≤ 3 ∧ 1 ≤ l.length ∧ l.length ≤ 12 := by
    unfold shapeE shapeBad partBad
    by_cases h1 : ts.length ≤ 3
    · have e : (decide (((([l] : List (List Atom)).length : Nat) : Int) < 1) || decide ((4 : Int) < ((([l] : List (List Atom)).length : Nat) : Int)) || decide ((3 : Int) < (ts.length : Int))) = false := by simp; omega
      rw [e, if_neg (by simp)]
      simp only [List.all_cons, List.all_nil, Bool.and_true]
      by_cases h2 : 1 ≤ l.length ∧ l.length ≤ 12
      · have e2 : (!(decide ((l.length : Int) < 1) || decide ((12 : Int) < l.length))) = true := by simp; omega
        rw [e2]; simp [h1, h2]
      · have e2 : (!(decide ((l.length : Int) < 1) || decide ((12 : Int) < l.length))) = false := by
          rw [Bool.eq_false_iff]; intro h; apply h2; simp at h; omega
        rw [e2, if_neg (by simp)]
        constructor
        · intro h; exact absurd h (by decide)
        · rintro ⟨_, h3, h4⟩; exact absurd ⟨h3, h4⟩ h2
    · have e : (decide (((([l] : List (List Atom)).length : Nat) : Int) < 1) || decide ((4 : Int) < ((([l] : List (List Atom)).length : Nat) : Int)) || decide ((3 : Int) < (ts.length : Int))) = true := by simp; omega
      rw [e, if_pos rfl]
      constructor
      · intro h; exact absurd h (by decide)
      · rintro ⟨h, _⟩; exact absurd h h1
  have htE : toldE ts [l] = 0 ↔ ts.all variableB = true ∧ (List.range ts.length).all (toldOk ts [l]) = true := by
    unfold toldE
    by_cases h1 : ts.all variableB = true
    · rw [if_pos h1]
      by_cases h2 : (List.range ts.length).all (toldOk ts [l]) = true
      · rw [if_pos h2]; simp [h1, h2]
      · rw [if_neg h2]; simp [h1, h2]
    · rw [if_neg h1]; simp [h1]
  constructor
  · intro h
    have ha := queryE_atoms (ts := ts) (l := [l]) h l (by simp)
    have hf : ([l] : List (List Atom)).flatten.find? (fun a => atomE a != 0) = none := by
      rw [hat, List.find?_eq_none]; intro x hx; simp [ha x hx]
    unfold checkE queryE at h
    by_cases hs : shapeE ts [l] = 0
    · rw [if_neg (by simp [hs]), hf] at h
      simp only at h
      by_cases ht : toldE ts [l] = 0
      · rw [if_neg (by simp [ht])] at h
        have hv : ([l] : List (List Atom)).all varsFew = true := Classical.byContradiction fun hv => by rw [if_neg hv] at h; cases h
        obtain ⟨h1, h2, h3⟩ := hshape.1 hs
        obtain ⟨h4, h5⟩ := htE.1 ht
        obtain ⟨h6, h7⟩ := (htold h4).1 h5
        exact ⟨h1, h2, h3, ha, h4, h6, h7, by simpa [varsFew] using hv⟩
      · rw [if_pos ht] at h; exact absurd h ht
    · rw [if_pos hs] at h; exact absurd h hs
  · rintro ⟨h1, h2, h3, ha, h4, h6, h7, h8⟩
    have hf : ([l] : List (List Atom)).flatten.find? (fun a => atomE a != 0) = none := by
      rw [hat, List.find?_eq_none]; intro x hx; simp [ha x hx]
    have hs := hshape.2 ⟨h1, h2, h3⟩
    have ht := htE.2 ⟨h4, (htold h4).2 ⟨h6, h7⟩⟩
    unfold checkE queryE
    rw [if_neg (by simp [hs]), hf]
    simp only
    rw [if_neg (by simp [ht]), if_pos (by simpa [varsFew] using h8)]
theorem check_sub {ts : List ByteArray} {l m : List Atom} (h : CheckOk ts l) (hs : ∀ x ∈ m, x ∈ l) (hne : m ≠ []) (hlen : m.length ≤ l.length) (hm : mentionB m ts = true) : CheckOk ts m :=
  ⟨h.few, List.length_pos_iff.2 hne, Nat.le_trans hlen h.high, fun a ha => h.atoms a (hs a ha), h.vars, h.once, hm, Nat.le_trans (varsOf_sub hs) h.eight⟩
theorem check_core {ts : List ByteArray} {l : List Atom} (h : checkE ts l = 0) : checkE ts (coreA ts l) = 0 := by
  rw [checkE_iff] at *
  have c := core_ok ts l
  exact check_sub h c.mem (c.ne (List.length_pos_iff.1 h.low)) c.len (c.men h.men)
/-- no atom can be left out -/
theorem core_tight {ts : List ByteArray} {l : List Atom} {i : Nat} {x : Atom} (hx : (coreA ts l)[i]? = some x) (h : partE ts ((coreA ts l).eraseIdx i) (coreA ts l) = 0) : partB ts ((coreA ts l).eraseIdx i) (coreA ts l) = false := by
  have hc : checkE ts ((coreA ts l).eraseIdx i) = 0 := by
    unfold partE at h
    split at h
    · exact h
    · rename_i h1; exact Classical.not_not.1 h1
  have hc := checkE_iff.1 hc
  have ht := (core_ok ts l).tight i x hx
  rw [partB, h, decide_eq_true rfl, Bool.true_and, Bool.eq_false_iff]
  intro hh
  rw [homB_iff] at hh
  have : spareB ts ((coreA ts l).eraseIdx i) x = true := spare_iff.2 ⟨List.length_pos_iff.1 hc.low, hc.men, hom_mem (fun _ h => h) (fun y hy => (erase_mem hx y).1 hy) hh⟩
  rw [this] at ht; cases ht
end Go.Proofs.YtgpmjggdloldnaaGreatDoor

namespace Go.Proofs.YtgpmjggdloldnaaGreatDoor
open Go Go.Sx
set_option maxRecDepth 100000
theorem Atoms.block {h : Ghost} {b : Nat} (l : List Atom) {T : TypeId} (e : h b = some (cells (l.flatMap Atom.enc) T)) : Atoms h (.slice (some ⟨b, 0, none⟩) l.length l.length) l :=
  Sl.of_seg (enc := Atom.enc) (k := 6) (fun _ => rfl) (Seg.of_block e) (Nat.le_refl _)
theorem Strs.nil (h : Ghost) : Strs h (.slice none 0 0) [] := Sl.nil _ _ _ _ _
theorem exPart {h : Ghost} (g : Gl h) {b c : Nat} (l m : List Atom) {T : TypeId} (hb : h b = some (cells (l.flatMap Atom.enc) T)) (hc : h c = some (cells (m.flatMap Atom.enc) T)) (hl : l.length ≤ 4) (hm : m.length ≤ 4) (h1 : checkE [] l = 0) (h2 : checkE [] m = 0) {r : Bool} (hr : homB [] l m = r) :
    SpecV Tryz.prog 8 [.agg #[.slice (some ⟨b, 0, none⟩) l.length l.length], .agg #[.slice (some ⟨c, 0, none⟩) m.length m.length], .slice none 0 0] h (.tuple #[.bool r, .int .i64 0]) :=
  (Part_spec _ _ _ [] l m h (Atoms.block l hb) (Atoms.block m hc) (Strs.nil h) (by omega) (by omega) (by simp) g).congr (by rw [partB, p_ok h1 h2, hr]; simp)
set_option maxHeartbeats 2000000 in
theorem sane_spec (h : Ghost) (g : Gl h) : SpecV Tryz.prog 6 [] h (.bool true) := by
  refine SpecP.enter cl6 Tryz.func6 rfl Tryz.ntmps6 rfl fun E R => ?_
  refine Wc.seq ?_
  refine Wc.region ?_
  refine Wl.assign rfl rfl ?_
  refine Wl.nil ?_
  refine Wx.then_code ?_
  refine Wc.seq ?_
  refine Wc.region ?_
  refine Wl.callV rfl rfl rfl (role_spec _ _ _ _) ?_
  refine Wl.callV rfl rfl rfl (role_spec _ _ _ _) ?_
  refine Wl.buildSlice sl22 rfl rfl rfl (by repeat (first | rfl | exact .nil | apply Cellss.cons)) rfl rfl rfl (fun b1 => ?_)
  refine Wl.callV rfl rfl rfl (part_spec _ _ _ _) ?_
  refine Wl.callV rfl rfl rfl (role_spec _ _ _ _) ?_
  refine Wl.buildSlice sl22 rfl rfl rfl (by repeat (first | rfl | exact .nil | apply Cellss.cons)) rfl rfl rfl (fun b2 => ?_)
  refine Wl.callV rfl rfl rfl (part_spec _ _ _ _) ?_
  refine Wl.frz1 fun g1 l1 e2 => Wl.frz1 fun g2 l2 e1 => ?_
  refine Wl.callV rfl rfl rfl (exPart (g.mono (l1.trans l2)) [mkRole sr vx vy, mkRole sr vy vx] [mkRole sr vu vv] e1 (l2 _ _ e2) (by decide) (by decide) (c_roles2 t_x t_y t_y t_x) (c_role1 t_u t_v) h1) ?_
  refine Wl.weak (l1.trans l2) ?_
  refine Wl.move rfl rfl ?_
  refine Wl.extract rfl rfl rfl ?_
  refine Wl.extract rfl rfl rfl ?_
  refine Wl.assign rfl rfl ?_
  refine Wl.assign rfl rfl ?_
  refine Wl.nil ?_
  refine Wx.then_code ?_
  refine Wc.seq ?_
  refine Wc.region ?_
  refine Wl.callV rfl rfl rfl (role_spec _ _ _ _) ?_
  refine Wl.buildSlice sl22 rfl rfl rfl (by repeat (first | rfl | exact .nil | apply Cellss.cons)) rfl rfl rfl (fun b3 => ?_)
  refine Wl.callV rfl rfl rfl (part_spec _ _ _ _) ?_
  refine Wl.callV rfl rfl rfl (role_spec _ _ _ _) ?_
  refine Wl.callV rfl rfl rfl (role_spec _ _ _ _) ?_
  refine Wl.buildSlice sl22 rfl rfl rfl (by repeat (first | rfl | exact .nil | apply Cellss.cons)) rfl rfl rfl (fun b4 => ?_)
  refine Wl.callV rfl rfl rfl (part_spec _ _ _ _) ?_
  refine Wl.frz1 fun g1 l1 e2 => Wl.frz1 fun g2 l2 e1 => ?_
  refine Wl.callV rfl rfl rfl (exPart (g.mono (l1.trans l2)) [mkRole sr vu vv] [mkRole sr vx vy, mkRole sr vy vx] e1 (l2 _ _ e2) (by decide) (by decide) (c_role1 t_u t_v) (c_roles2 t_x t_y t_y t_x) h2) ?_
  refine Wl.weak (l1.trans l2) ?_
  refine Wl.move rfl rfl ?_
  refine Wl.extract rfl rfl rfl ?_
  refine Wl.extract rfl rfl rfl ?_
  refine Wl.assign rfl rfl ?_
  refine Wl.assign rfl rfl ?_
  refine Wl.nil ?_
  refine Wx.then_code ?_
  refine Wc.seq ?_
  refine Wc.region ?_
  refine Wl.callV rfl rfl rfl (span_spec _ _ _ _ _) ?_
  refine Wl.callV rfl rfl rfl (span_spec _ _ _ _ _) ?_
  refine Wl.buildSlice sl22 rfl rfl rfl (by repeat (first | rfl | exact .nil | apply Cellss.cons)) rfl rfl rfl (fun b5 => ?_)
  refine Wl.callV rfl rfl rfl (part_spec _ _ _ _) ?_
  refine Wl.callV rfl rfl rfl (span_spec _ _ _ _ _) ?_
  refine Wl.buildSlice sl22 rfl rfl rfl (by repeat (first | rfl | exact .nil | apply Cellss.cons)) rfl rfl rfl (fun b6 => ?_)
  refine Wl.callV rfl rfl rfl (part_spec _ _ _ _) ?_
  refine Wl.frz1 fun g1 l1 e2 => Wl.frz1 fun g2 l2 e1 => ?_
  refine Wl.callV rfl rfl rfl (exPart (g.mono (l1.trans l2)) [mkSpan sf sa 1 5, mkSpan sf sa 4 9] [mkSpan sf sa 4 6] e1 (l2 _ _ e2) (by decide) (by decide) c_span2 c_span1 h3) ?_
  refine Wl.weak (l1.trans l2) ?_
  refine Wl.move rfl rfl ?_
  refine Wl.extract rfl rfl rfl ?_
  refine Wl.extract rfl rfl rfl ?_
  refine Wl.assign rfl rfl ?_
  refine Wl.assign rfl rfl ?_
  refine Wl.nil ?_
  refine Wx.then_code ?_
  refine Wc.seq ?_
  refine Wc.region ?_
  refine Wl.callV rfl rfl rfl (role_spec _ _ _ _) ?_
  refine Wl.callV rfl rfl rfl (role_spec _ _ _ _) ?_
  refine Wl.callV rfl rfl rfl (concept_spec _ _ _) ?_
  refine Wl.buildSlice sl22 rfl rfl rfl (by repeat (first | rfl | exact .nil | apply Cellss.cons)) rfl rfl rfl (fun b7 => ?_)
  refine Wl.callV rfl rfl rfl (part_spec _ _ _ _) ?_
  refine Wl.frz1 fun g1 l1 e1 => ?_
  refine Wl.callP rfl rfl rfl (Core_spec _ _ _ [] g1 (Atoms.block [mkRole sr vx vy, mkRole sr vu vv, mkConcept sA vv] e1) (Strs.nil g1) (by decide) (by simp) (g.mono l1)) fun u k0 hk0 ⟨cv, hu, hcv⟩ => ?_
  subst hu
  rw [c_core, if_pos rfl, core3] at hcv
  rw [c_core]
  obtain ⟨co, cc, rfl, _⟩ := hcv.shape
  have gk := g.mono (l1.trans hk0)
  have lk := l1.trans hk0
  refine Wl.move rfl rfl ?_
  refine Wl.extract rfl rfl rfl ?_
  refine Wl.extract rfl rfl rfl ?_
  refine Wl.alloc ty24 rfl rfl (fun b8 => ?_)
  refine Wl.storeA ty24 rfl rfl (by rfl) (by repeat (first | exact .here | apply Upd.there)) (by rfl) (by rfl) (by rfl) ?_
  refine Wl.assign rfl rfl ?_
  refine Wl.nil ?_
  refine Wx.then_code ?_
  refine Wc.seq ?_
  refine Wc.region ?_
  refine Wl.callV rfl rfl rfl (concept_spec _ _ _) ?_
  refine Wl.buildSlice sl22 rfl rfl rfl (by repeat (first | rfl | exact .nil | apply Cellss.cons)) rfl rfl rfl (fun b9 => ?_)
  refine Wl.callV rfl rfl rfl (part_spec _ _ _ _) ?_
  refine Wl.callV rfl rfl rfl (concept_spec _ _ _) ?_
  refine Wl.buildSlice sl22 rfl rfl rfl (by repeat (first | rfl | exact .nil | apply Cellss.cons)) rfl rfl rfl (fun b10 => ?_)
  refine Wl.callV rfl rfl rfl (part_spec _ _ _ _) ?_
  refine Wl.frz1 fun g1 l1 e2 => Wl.frz1 fun g2 l2 e1 => ?_
  refine Wl.callV rfl rfl rfl (exPart (gk.mono (l1.trans l2)) [mkConcept sA vx] [mkConcept sA sb] e1 (l2 _ _ e2) (by decide) (by decide) (c_concept t_x) (c_concept t_b) h5) ?_
  refine Wl.weak (l1.trans l2) ?_
  refine Wl.move rfl rfl ?_
  refine Wl.extract rfl rfl rfl ?_
  refine Wl.extract rfl rfl rfl ?_
  refine Wl.assign rfl rfl ?_
  refine Wl.assign rfl rfl ?_
  refine Wl.nil ?_
  refine Wx.then_code ?_
  refine Wc.seq ?_
  refine Wc.region ?_
  refine Wl.callV rfl rfl rfl (concept_spec _ _ _) ?_
  refine Wl.buildSlice sl22 rfl rfl rfl (by repeat (first | rfl | exact .nil | apply Cellss.cons)) rfl rfl rfl (fun b11 => ?_)
  refine Wl.callV rfl rfl rfl (part_spec _ _ _ _) ?_
  refine Wl.callV rfl rfl rfl (concept_spec _ _ _) ?_
  refine Wl.buildSlice sl22 rfl rfl rfl (by repeat (first | rfl | exact .nil | apply Cellss.cons)) rfl rfl rfl (fun b12 => ?_)
  refine Wl.callV rfl rfl rfl (part_spec _ _ _ _) ?_
  refine Wl.frz1 fun g1 l1 e2 => Wl.frz1 fun g2 l2 e1 => ?_
  refine Wl.callV rfl rfl rfl (exPart (gk.mono (l1.trans l2)) [mkConcept sA sb] [mkConcept sA vx] e1 (l2 _ _ e2) (by decide) (by decide) (c_concept t_b) (c_concept t_x) h6) ?_
  refine Wl.weak (l1.trans l2) ?_
  refine Wl.move rfl rfl ?_
  refine Wl.extract rfl rfl rfl ?_
  refine Wl.extract rfl rfl rfl ?_
  refine Wl.assign rfl rfl ?_
  refine Wl.assign rfl rfl ?_
  refine Wl.nil ?_
  refine Wx.then_code ?_
  refine Wc.seq ?_
  refine Wc.region ?_
  refine Wl.callV rfl rfl rfl (concept_spec _ _ _) ?_
  refine Wl.buildSlice sl22 rfl rfl rfl (by repeat (first | rfl | exact .nil | apply Cellss.cons)) rfl rfl rfl (fun b13 => ?_)
  refine Wl.callV rfl rfl rfl (part_spec _ _ _ _) ?_
  refine Wl.callV rfl rfl rfl (concept_spec _ _ _) ?_
  refine Wl.buildSlice sl22 rfl rfl rfl (by repeat (first | rfl | exact .nil | apply Cellss.cons)) rfl rfl rfl (fun b14 => ?_)
  refine Wl.callV rfl rfl rfl (part_spec _ _ _ _) ?_
  refine Wl.buildSlice sl25 rfl rfl rfl (by repeat (first | rfl | exact .nil | apply Cellss.cons)) rfl rfl rfl (fun b15 => ?_)
  refine Wl.frz1 fun g1 l1 e3 => Wl.frz1 fun g2 l2 e2 => Wl.frz1 fun g3 l3 e1 => ?_
  refine Wl.callV rfl rfl rfl (Part_spec _ _ _ [vx, vy] [mkConcept sA vx] [mkConcept sA vy] g3 (Atoms.block [mkConcept sA vx] e1) (Atoms.block [mkConcept sA vy] (l3 _ _ e2)) (Strs.of_row (l := [vx, vy]) (l3 _ _ (l2 _ _ e3)) (Nat.le_refl _)) (by decide) (by decide) (by simp) (gk.mono ((l1.trans l2).trans l3))) ?_
  rw [p7]
  refine Wl.weak ((l1.trans l2).trans l3) ?_
  refine Wl.move rfl rfl ?_
  refine Wl.extract rfl rfl rfl ?_
  refine Wl.extract rfl rfl rfl ?_
  refine Wl.assign rfl rfl ?_
  refine Wl.assign rfl rfl ?_
  refine Wl.nil ?_
  refine Wx.then_code ?_
  refine Wc.seq ?_
  refine Wc.seq ?_
  refine Wc.region ?_
  refine Wl.move rfl rfl ?_
  refine Wl.iNeq rfl rfl rfl ?_
  refine Wl.move rfl rfl ?_
  apply Wl.orB (l1 := [_, _, _]) (i := 90) (d := 93)
  · rfl
  · intro hg1
    refine Wl.guardNo rfl rfl rfl rfl ?_
    refine Wl.guardNo rfl rfl rfl rfl ?_
    refine Wl.pickT rfl rfl rfl ?_
    refine Wl.nil ?_
    exact Wx.reach (.cons rfl (.skip rfl (.skip rfl (.skip rfl (.same rfl (by rw [hg1]) (.refl _))))))
  · intro hg1
    refine Wl.guardYes rfl rfl ?_
    refine Wl.move rfl rfl ?_
    refine Wl.guardYes rfl rfl ?_
    refine Wl.iNeq rfl rfl rfl ?_
    refine Wl.pickF rfl rfl rfl ?_
    refine Wl.nil ?_
    exact Wx.reach (.cons rfl (.skip rfl (.skip rfl (.skip rfl (.same rfl (by rw [hg1]) (.refl _))))))
  refine Wl.move rfl rfl ?_
  apply Wl.orB (l1 := [_, _, _]) (i := 94) (d := 97)
  · rfl
  · intro hg2
    refine Wl.guardNo rfl rfl rfl rfl ?_
    refine Wl.guardNo rfl rfl rfl rfl ?_
    refine Wl.pickT rfl rfl rfl ?_
    refine Wl.nil ?_
    exact Wx.reach (.cons rfl (.skip rfl (.skip rfl (.skip rfl (.same rfl (by rw [hg2]) (.refl _))))))
  · intro hg2
    refine Wl.guardYes rfl rfl ?_
    refine Wl.move rfl rfl ?_
    refine Wl.guardYes rfl rfl ?_
    refine Wl.iNeq rfl rfl rfl ?_
    refine Wl.pickF rfl rfl rfl ?_
    refine Wl.nil ?_
    exact Wx.reach (.cons rfl (.skip rfl (.skip rfl (.skip rfl (.same rfl (by rw [hg2]) (.refl _))))))
  refine Wl.move rfl rfl ?_
  apply Wl.orB (l1 := [_, _, _]) (i := 98) (d := 101)
  · rfl
  · intro hg3
    refine Wl.guardNo rfl rfl rfl rfl ?_
    refine Wl.guardNo rfl rfl rfl rfl ?_
    refine Wl.pickT rfl rfl rfl ?_
    refine Wl.nil ?_
    exact Wx.reach (.cons rfl (.skip rfl (.skip rfl (.skip rfl (.same rfl (by rw [hg3]) (.refl _))))))
  · intro hg3
    refine Wl.guardYes rfl rfl ?_
    refine Wl.move rfl rfl ?_
    refine Wl.guardYes rfl rfl ?_
    refine Wl.iNeq rfl rfl rfl ?_
    refine Wl.pickF rfl rfl rfl ?_
    refine Wl.nil ?_
    exact Wx.reach (.cons rfl (.skip rfl (.skip rfl (.skip rfl (.same rfl (by rw [hg3]) (.refl _))))))
  refine Wl.move rfl rfl ?_
  apply Wl.orB (l1 := [_, _, _]) (i := 102) (d := 105)
  · rfl
  · intro hg4
    refine Wl.guardNo rfl rfl rfl rfl ?_
    refine Wl.guardNo rfl rfl rfl rfl ?_
    refine Wl.pickT rfl rfl rfl ?_
    refine Wl.nil ?_
    exact Wx.reach (.cons rfl (.skip rfl (.skip rfl (.skip rfl (.same rfl (by rw [hg4]) (.refl _))))))
  · intro hg4
    refine Wl.guardYes rfl rfl ?_
    refine Wl.move rfl rfl ?_
    refine Wl.guardYes rfl rfl ?_
    refine Wl.iNeq rfl rfl rfl ?_
    refine Wl.pickF rfl rfl rfl ?_
    refine Wl.nil ?_
    exact Wx.reach (.cons rfl (.skip rfl (.skip rfl (.skip rfl (.same rfl (by rw [hg4]) (.refl _))))))
  refine Wl.move rfl rfl ?_
  apply Wl.orB (l1 := [_, _, _]) (i := 106) (d := 109)
  · rfl
  · intro hg5
    refine Wl.guardNo rfl rfl rfl rfl ?_
    refine Wl.guardNo rfl rfl rfl rfl ?_
    refine Wl.pickT rfl rfl rfl ?_
    refine Wl.nil ?_
    exact Wx.reach (.cons rfl (.skip rfl (.skip rfl (.skip rfl (.same rfl (by rw [hg5]) (.refl _))))))
  · intro hg5
    refine Wl.guardYes rfl rfl ?_
    refine Wl.move rfl rfl ?_
    refine Wl.guardYes rfl rfl ?_
    refine Wl.iNeq rfl rfl rfl ?_
    refine Wl.pickF rfl rfl rfl ?_
    refine Wl.nil ?_
    exact Wx.reach (.cons rfl (.skip rfl (.skip rfl (.skip rfl (.same rfl (by rw [hg5]) (.refl _))))))
  refine Wl.move rfl rfl ?_
  apply Wl.orB (l1 := [_, _, _]) (i := 110) (d := 113)
  · rfl
  · intro hg6
    refine Wl.guardNo rfl rfl rfl rfl ?_
    refine Wl.guardNo rfl rfl rfl rfl ?_
    refine Wl.pickT rfl rfl rfl ?_
    refine Wl.nil ?_
    exact Wx.reach (.cons rfl (.skip rfl (.skip rfl (.skip rfl (.same rfl (by rw [hg6]) (.refl _))))))
  · intro hg6
    refine Wl.guardYes rfl rfl ?_
    refine Wl.move rfl rfl ?_
    refine Wl.guardYes rfl rfl ?_
    refine Wl.iNeq rfl rfl rfl ?_
    refine Wl.pickF rfl rfl rfl ?_
    refine Wl.nil ?_
    exact Wx.reach (.cons rfl (.skip rfl (.skip rfl (.skip rfl (.same rfl (by rw [hg6]) (.refl _))))))
  refine Wl.nil ?_
  refine Wx.then_code ?_
  refine Wc.condS rfl (fun hc7 => ?_) (fun hc7 => ?_)
  refine Wc.seq ?_
  refine Wc.region ?_
  refine Wl.assign rfl rfl ?_
  refine Wl.nil ?_
  refine Wx.then_code ?_
  refine Wc.ret ?_
  refine Wx.then_ret ?_
  · exact absurd hc7 (by decide)
  refine Wc.skip ?_
  refine Wx.then_code ?_
  refine Wc.seq ?_
  apply Wc.draw (m := 21) (D := [[], [0], [1], [1, 2], [1, 3], [4], [5], [5, 6], [7], [8], [8, 9], [8, 10], [11], [12], [12, 13], [14], [15], [15], [15], [15, 17, 18], [15, 19]]) (Ys := [.det _, .det _, .det _, .det _, .det _, .det _, .det _, .det _, .det _, .det _, .det _, .det _, .det _, .det _, .det _, .det _, .det (.agg #[.slice co 2 cc]), .det (.agg (mkConcept sA vv).enc.toArray), .det (.agg (mkRole sr vu vv).enc.toArray), .rel (fun _ v F _ => ∃ b, v = .slice (some ⟨b, 0, none⟩) 2 2 ∧ F = [(b, cells ([mkConcept sA vv, mkRole sr vu vv].flatMap Atom.enc) 37)]), .rel (fun env v F _ => F = [] ∧ v = .agg #[env 19])])
  · exact follows
  · kernel_rfl
  · rfl
  · rfl
  · rfl
  · skip
    apply Locs.mk
    · intro env K' h' S' hs hd hl hY
      refine Wl.move (hs _ _ rfl) rfl ?_
      refine Wl.nil ?_
      exact Wx.gives0 _ (Ghost.le.refl _) ⟨rfl, rfl⟩ (Sub.refl _)
    apply Locs.mk
    · intro env K' h' S' hs hd hl hY
      refine Wl.move (detL (hd 0 (by decide)) (hY 0 (by decide))) rfl ?_
      refine Wl.nil ?_
      exact Wx.gives0 _ (Ghost.le.refl _) ⟨rfl, rfl⟩ (Sub.refl _)
    apply Locs.mk
    · intro env K' h' S' hs hd hl hY
      refine Wl.guardYes rfl (detL (hd 1 (by decide)) (hY 1 (by decide))) ?_
      refine Wl.move (hs _ _ rfl) rfl ?_
      refine Wl.nil ?_
      exact Wx.gives0 _ (Ghost.le.refl _) ⟨rfl, rfl⟩ (Sub.refl _)
    apply Locs.mk
    · intro env K' h' S' hs hd hl hY
      refine Wl.guardYes rfl (detL (hd 1 (by decide)) (hY 1 (by decide))) ?_
      refine Wl.not (detL (hd 2 (by decide)) (hY 2 (by decide))) rfl ?_
      refine Wl.nil ?_
      exact Wx.gives0 _ (Ghost.le.refl _) ⟨rfl, rfl⟩ (Sub.refl _)
    apply Locs.mk
    · intro env K' h' S' hs hd hl hY
      refine Wl.pickT (detL (hd 1 (by decide)) (hY 1 (by decide))) (detL (hd 3 (by decide)) (hY 3 (by decide))) rfl ?_
      refine Wl.nil ?_
      exact Wx.gives0 _ (Ghost.le.refl _) ⟨rfl, rfl⟩ (Sub.refl _)
    apply Locs.mk
    · intro env K' h' S' hs hd hl hY
      refine Wl.move (detL (hd 4 (by decide)) (hY 4 (by decide))) rfl ?_
      refine Wl.nil ?_
      exact Wx.gives0 _ (Ghost.le.refl _) ⟨rfl, rfl⟩ (Sub.refl _)
    apply Locs.mk
    · intro env K' h' S' hs hd hl hY
      refine Wl.guardYes rfl (detL (hd 5 (by decide)) (hY 5 (by decide))) ?_
      refine Wl.move (hs _ _ rfl) rfl ?_
      refine Wl.nil ?_
      exact Wx.gives0 _ (Ghost.le.refl _) ⟨rfl, rfl⟩ (Sub.refl _)
    apply Locs.mk
    · intro env K' h' S' hs hd hl hY
      refine Wl.pickT (detL (hd 5 (by decide)) (hY 5 (by decide))) (detL (hd 6 (by decide)) (hY 6 (by decide))) rfl ?_
      refine Wl.nil ?_
      exact Wx.gives0 _ (Ghost.le.refl _) ⟨rfl, rfl⟩ (Sub.refl _)
    apply Locs.mk
    · intro env K' h' S' hs hd hl hY
      refine Wl.move (detL (hd 7 (by decide)) (hY 7 (by decide))) rfl ?_
      refine Wl.nil ?_
      exact Wx.gives0 _ (Ghost.le.refl _) ⟨rfl, rfl⟩ (Sub.refl _)
    apply Locs.mk
    · intro env K' h' S' hs hd hl hY
      refine Wl.guardYes rfl (detL (hd 8 (by decide)) (hY 8 (by decide))) ?_
      refine Wl.move (hs _ _ rfl) rfl ?_
      refine Wl.nil ?_
      exact Wx.gives0 _ (Ghost.le.refl _) ⟨rfl, rfl⟩ (Sub.refl _)
    apply Locs.mk
    · intro env K' h' S' hs hd hl hY
      refine Wl.guardYes rfl (detL (hd 8 (by decide)) (hY 8 (by decide))) ?_
      refine Wl.not (detL (hd 9 (by decide)) (hY 9 (by decide))) rfl ?_
      refine Wl.nil ?_
      exact Wx.gives0 _ (Ghost.le.refl _) ⟨rfl, rfl⟩ (Sub.refl _)
    apply Locs.mk
    · intro env K' h' S' hs hd hl hY
      refine Wl.pickT (detL (hd 8 (by decide)) (hY 8 (by decide))) (detL (hd 10 (by decide)) (hY 10 (by decide))) rfl ?_
      refine Wl.nil ?_
      exact Wx.gives0 _ (Ghost.le.refl _) ⟨rfl, rfl⟩ (Sub.refl _)
    apply Locs.mk
    · intro env K' h' S' hs hd hl hY
      refine Wl.move (detL (hd 11 (by decide)) (hY 11 (by decide))) rfl ?_
      refine Wl.nil ?_
      exact Wx.gives0 _ (Ghost.le.refl _) ⟨rfl, rfl⟩ (Sub.refl _)
    apply Locs.mk
    · intro env K' h' S' hs hd hl hY
      refine Wl.guardYes rfl (detL (hd 12 (by decide)) (hY 12 (by decide))) ?_
      refine Wl.move (hs _ _ rfl) rfl ?_
      refine Wl.nil ?_
      exact Wx.gives0 _ (Ghost.le.refl _) ⟨rfl, rfl⟩ (Sub.refl _)
    apply Locs.mk
    · intro env K' h' S' hs hd hl hY
      refine Wl.pickT (detL (hd 12 (by decide)) (hY 12 (by decide))) (detL (hd 13 (by decide)) (hY 13 (by decide))) rfl ?_
      refine Wl.nil ?_
      exact Wx.gives0 _ (Ghost.le.refl _) ⟨rfl, rfl⟩ (Sub.refl _)
    apply Locs.mk
    · intro env K' h' S' hs hd hl hY
      refine Wl.move (detL (hd 14 (by decide)) (hY 14 (by decide))) rfl ?_
      refine Wl.nil ?_
      exact Wx.gives0 _ (Ghost.le.refl _) ⟨rfl, rfl⟩ (Sub.refl _)
    apply Locs.mk
    · intro env K' h' S' hs hd hl hY
      refine Wl.guardYes rfl (detL (hd 15 (by decide)) (hY 15 (by decide))) ?_
      refine Wl.loadOA ty24 (hs _ _ rfl) (Has.right (by repeat (first | exact .here | apply Has.there))) rfl rfl ?_
      refine Wl.nil ?_
      exact Wx.gives0 _ (Ghost.le.refl _) ⟨rfl, rfl⟩ (Sub.refl _)
    apply Locs.mk
    · intro env K' h' S' hs hd hl hY
      refine Wl.guardYes rfl (detL (hd 15 (by decide)) (hY 15 (by decide))) ?_
      refine Wl.callV rfl rfl rfl (concept_spec _ _ _) ?_
      refine Wl.nil ?_
      exact Wx.gives0 _ (Ghost.le.refl _) ⟨rfl, rfl⟩ (Sub.refl _)
    apply Locs.mk
    · intro env K' h' S' hs hd hl hY
      refine Wl.guardYes rfl (detL (hd 15 (by decide)) (hY 15 (by decide))) ?_
      refine Wl.callV rfl rfl rfl (role_spec _ _ _ _) ?_
      refine Wl.nil ?_
      exact Wx.gives0 _ (Ghost.le.refl _) ⟨rfl, rfl⟩ (Sub.refl _)
    apply Locs.mk
    · intro env K' h' S' hs hd hl hY
      refine Wl.guardYes rfl (detL (hd 15 (by decide)) (hY 15 (by decide))) ?_
      refine Wl.buildSlice sl22 (evs2 (detL (hd 17 (by decide)) (hY 17 (by decide))) (detL (hd 18 (by decide)) (hY 18 (by decide)))) rfl rfl (by repeat (first | rfl | exact .nil | apply Cellss.cons)) rfl rfl rfl (fun b19 => ?_)
      refine Wl.nil ?_
      exact Wx.gives _ _ (Ghost.le.refl _) ⟨b19, rfl, rfl⟩ (Sub.refl _)
    apply Locs.mk
    · intro env K' h' S' hs hd hl hY
      obtain ⟨F19, y19⟩ := hY 19 (by decide); have e19 := hd 19 (by decide)
      refine Wl.guardYes rfl (detL (hd 15 (by decide)) (hY 15 (by decide))) ?_
      obtain ⟨b19, hv19, _⟩ := y19
      rw [hv19] at e19
      refine Wl.callV rfl (evs1 e19) rfl (part_spec _ _ _ _) ?_
      refine Wl.nil ?_
      exact Wx.gives0 _ (Ghost.le.refl _) ⟨rfl, show _ = Value.agg #[env 19] by rw [hv19]⟩ (Sub.refl _)
    trivial
  · exact ⟨trivial, trivial, trivial, trivial, trivial, trivial, trivial, trivial, trivial, trivial, trivial, trivial, trivial, trivial, trivial, trivial, trivial, trivial, trivial, (fun _ _ _ _ _ _ H => H), (fun _ _ _ _ _ _ H => H), trivial⟩
  intro h' hl'
  intro v19 F19 y19
  intro v20 F20 y20
  show Wl _ _ _ [_, _, _] _ ((134, _) :: (133, _) :: (132, _) :: (131, _) :: (130, _) :: (129, _) :: (128, _) :: (127, _) :: (126, _) :: (125, _) :: (124, _) :: (123, _) :: (122, _) :: (121, _) :: (120, _) :: (119, _) :: (118, _) :: (117, _) :: (116, _) :: (115, _) :: (114, _) :: _) _ _ _
  refine Wl.guardYes rfl rfl ?_
  obtain ⟨b19, rfl, rfl⟩ := y19
  obtain ⟨rfl, rfl⟩ := y20
  refine Wl.drop (Wl.frz1 fun g1 l1 e1 => ?_)
  refine Wl.callV rfl rfl rfl (SamePart_spec _ _ [mkConcept sA vv, mkRole sr vu vv] [mkConcept sA vv, mkRole sr vu vv] g1 (hcv.mono (hl'.trans l1)) (Atoms.block [mkConcept sA vv, mkRole sr vu vv] e1) (by decide) (by decide)) ?_
  refine Wl.pickT rfl rfl rfl ?_
  refine Wl.assign rfl rfl ?_
  refine Wl.nil ?_
  refine Wx.then_code ?_
  refine Wc.ret ?_
  exact endV .ret (.inl rfl) rfl rfl [_] (lk.trans (hl'.trans l1)) (by rw [sameB, decide_eq_true rfl])
end Go.Proofs.YtgpmjggdloldnaaGreatDoor

namespace Go.Proofs.YtgpmjggdloldnaaGreatDoor
open Go Go.Sx
set_option maxRecDepth 100000
theorem srcAtoms {n : Nat} {K : List (Nat × Value)} {E : World} {h : Ghost} {S : List Frag} {m cap : Nat} {ao : Option Addr} {l : List Atom} (hs : Atoms h (.slice ao m cap) l) :
    ∀ a w, As n K E h S a w → ∀ j u, (l.flatMap Atom.enc)[j]? = some u → ∃ b o, ao = some ⟨b, o, none⟩ ∧ w.cell? ⟨b, o + j, none⟩ = some u := by
  have := srcS (n := n) (K := K) (E := E) (S := S) (Sl.map (enc := Atom.enc) hs)
  rw [← List.flatMap_def] at this; exact this
theorem flatA_one (l : List Atom) : ∀ u ∈ l.flatMap Atom.enc, Sx.one u := fun u hu => by
  obtain ⟨s, _, h⟩ := List.mem_flatMap.1 hu
  exact one_atom s u h
theorem partE_zero {ts : List ByteArray} {a b : List Atom} : partE ts a b = 0 ↔ checkE ts a = 0 ∧ checkE ts b = 0 := by
  unfold partE
  by_cases h : checkE ts a = 0
  · rw [if_neg (by simp [h])]; simp [h]
  · rw [if_pos h]; simp [h]
theorem partB_iff {ts : List ByteArray} {a b : List Atom} : partB ts a b = true ↔ partE ts a b = 0 ∧ Hom ts a b := by
  unfold partB; rw [Bool.and_eq_true, decide_eq_true_eq, homB_iff]
theorem order1 (ts : List ByteArray) (a b c : List Atom) : ((partE ts a a == 0 && !partB ts a a) || ((partE ts a b == 0 && partE ts b c == 0) && partE ts a c != 0)) = false := by
  rw [Bool.eq_false_iff]
  intro h
  simp only [Bool.or_eq_true, Bool.and_eq_true, beq_iff_eq, Bool.not_eq_true', bne_iff_ne] at h
  rcases h with ⟨h1, h2⟩ | ⟨⟨h1, h2⟩, h3⟩
  · have := partB_iff.2 ⟨h1, hom_sub (ts := ts) (a := a) fun _ h => h⟩
    rw [this] at h2; cases h2
  · exact h3 (partE_zero.2 ⟨(partE_zero.1 h1).1, (partE_zero.1 h2).2⟩)
theorem order2 (ts : List ByteArray) (a b c : List Atom) : ((((partE ts a b == 0 && partE ts b c == 0) && partB ts a b) && partB ts b c) && !partB ts a c) = false := by
  rw [Bool.eq_false_iff]
  intro h
  simp only [Bool.and_eq_true, beq_iff_eq, Bool.not_eq_true'] at h
  obtain ⟨⟨⟨⟨h1, h2⟩, h3⟩, h4⟩, h5⟩ := h
  have := partB_iff.2 ⟨partE_zero.2 ⟨(partE_zero.1 h1).1, (partE_zero.1 h2).2⟩, hom_trans (partB_iff.1 h3).2 (partB_iff.1 h4).2⟩
  rw [this] at h5; cases h5
theorem order3 (ts : List ByteArray) (a b : List Atom) : (partE ts (a ++ b) a != 0 || partB ts (a ++ b) a) = true := by
  by_cases h : partE ts (a ++ b) a = 0
  · have := partB_iff.2 ⟨h, hom_sub (ts := ts) (a := a ++ b) (b := a) fun x hx => List.mem_append_left _ hx⟩
    rw [this, Bool.or_true]
  · simp [h]
set_option maxHeartbeats 2000000 in
theorem ContainOrder_spec (av bv cv tv : Value) (a b c : List Atom) (ts : List ByteArray) (h : Ghost) (ha : Atoms h av a) (hb : Atoms h bv b) (hc : Atoms h cv c) (ht : Strs h tv ts) (g : Gl h) :
    SpecV Tryz.prog 3 [.agg #[av], .agg #[bv], .agg #[cv], tv] h (.bool true) := by
  obtain ⟨oa, ca, rfl, hca⟩ := ha.shape
  obtain ⟨ob, cb, rfl, hcb⟩ := hb.shape
  obtain ⟨oc, cc, rfl, hcc⟩ := hc.shape
  obtain ⟨ot, ct, rfl, hct⟩ := ht.shape
  refine SpecP.enter cl3 Tryz.func3 rfl Tryz.ntmps3 rfl fun E R => ?_
  refine Wc.seq ?_
  refine Wc.region ?_
  refine Wl.box rfl (by rfl) rfl (fun b1 => ?_)
  refine Wl.box rfl (by rfl) rfl (fun b2 => ?_)
  refine Wl.box rfl (by rfl) rfl (fun b3 => ?_)
  refine Wl.assign rfl rfl ?_
  refine Wl.nil ?_
  refine Wx.then_code ?_
  refine Wc.seq ?_
  refine Wc.seq ?_
  refine Wc.region ?_
  refine Wl.callV rfl rfl rfl (sane_spec h g) ?_
  refine Wl.not rfl rfl ?_
  refine Wl.nil ?_
  refine Wx.then_code ?_
  refine Wc.condS rfl (fun hc1 => ?_) (fun hc1 => ?_)
  refine Wc.seq ?_
  refine Wc.region ?_
  refine Wl.assign rfl rfl ?_
  refine Wl.nil ?_
  refine Wx.then_code ?_
  refine Wc.ret ?_
  refine Wx.then_ret ?_
  · exact absurd hc1 (by decide)
  refine Wc.skip ?_
  refine Wx.then_code ?_
  refine Wc.seq ?_
  refine Wc.seq ?_
  refine Wc.region ?_
  refine Wl.loadOA ty24 rfl (by repeat (first | exact .here | apply Has.there)) rfl rfl ?_
  refine Wl.callV rfl rfl rfl (Few_spec _ a h ha) ?_
  refine Wl.not rfl rfl ?_
  refine Wl.move rfl rfl ?_
  apply Wl.orB (l1 := [_, _, _, _]) (i := 25) (d := 29)
  · rfl
  · intro hg2
    refine Wl.guardNo rfl rfl rfl rfl ?_
    refine Wl.guardNo rfl rfl rfl rfl ?_
    refine Wl.guardNo rfl rfl rfl rfl ?_
    refine Wl.pickT rfl rfl rfl ?_
    refine Wl.nil ?_
    exact Wx.reach (.cons rfl (.skip rfl (.skip rfl (.skip rfl (.skip rfl (.same rfl (by rw [hg2]) (.refl _)))))))
  · intro hg2
    refine Wl.guardYes rfl rfl ?_
    refine Wl.loadOA ty24 rfl (by repeat (first | exact .here | apply Has.there)) rfl rfl ?_
    refine Wl.guardYes rfl rfl ?_
    refine Wl.callV rfl rfl rfl (Few_spec _ b h hb) ?_
    refine Wl.guardYes rfl rfl ?_
    refine Wl.not rfl rfl ?_
    refine Wl.pickF rfl rfl rfl ?_
    refine Wl.nil ?_
    exact Wx.reach (.cons rfl (.skip rfl (.skip rfl (.skip rfl (.skip rfl (.same rfl (by rw [hg2]) (.refl _)))))))
  refine Wl.move rfl rfl ?_
  apply Wl.orB (l1 := [_, _, _, _]) (i := 30) (d := 34)
  · rfl
  · intro hg3
    refine Wl.guardNo rfl rfl rfl rfl ?_
    refine Wl.guardNo rfl rfl rfl rfl ?_
    refine Wl.guardNo rfl rfl rfl rfl ?_
    refine Wl.pickT rfl rfl rfl ?_
    refine Wl.nil ?_
    exact Wx.reach (.cons rfl (.skip rfl (.skip rfl (.skip rfl (.skip rfl (.same rfl (by rw [hg3]) (.refl _)))))))
  · intro hg3
    refine Wl.guardYes rfl rfl ?_
    refine Wl.loadOA ty24 rfl (by repeat (first | exact .here | apply Has.there)) rfl rfl ?_
    refine Wl.guardYes rfl rfl ?_
    refine Wl.callV rfl rfl rfl (Few_spec _ c h hc) ?_
    refine Wl.guardYes rfl rfl ?_
    refine Wl.not rfl rfl ?_
    refine Wl.pickF rfl rfl rfl ?_
    refine Wl.nil ?_
    exact Wx.reach (.cons rfl (.skip rfl (.skip rfl (.skip rfl (.skip rfl (.same rfl (by rw [hg3]) (.refl _)))))))
  refine Wl.move rfl rfl ?_
  apply Wl.orB (l1 := [_, _, _, _]) (i := 35) (d := 39)
  · rfl
  · intro hg4
    refine Wl.guardNo rfl rfl rfl rfl ?_
    refine Wl.guardNo rfl rfl rfl rfl ?_
    refine Wl.guardNo rfl rfl rfl rfl ?_
    refine Wl.pickT rfl rfl rfl ?_
    refine Wl.nil ?_
    exact Wx.reach (.cons rfl (.skip rfl (.skip rfl (.skip rfl (.skip rfl (.same rfl (by rw [hg4]) (.refl _)))))))
  · intro hg4
    refine Wl.guardYes rfl rfl ?_
    refine Wl.move rfl rfl ?_
    refine Wl.guardYes rfl rfl ?_
    refine Wl.slLen Tryz.underlying25 rfl rfl ?_
    refine Wl.guardYes rfl rfl ?_
    refine Wl.iGtr rfl rfl rfl ?_
    refine Wl.pickF rfl rfl rfl ?_
    refine Wl.nil ?_
    exact Wx.reach (.cons rfl (.skip rfl (.skip rfl (.skip rfl (.skip rfl (.same rfl (by rw [hg4]) (.refl _)))))))
  refine Wl.nil ?_
  refine Wx.then_code ?_
  refine Wc.condS rfl (fun hc5 => ?_) (fun hc5 => ?_)
  refine Wc.seq ?_
  refine Wc.region ?_
  refine Wl.assign rfl rfl ?_
  refine Wl.nil ?_
  refine Wx.then_code ?_
  refine Wc.ret ?_
  refine Wx.then_ret ?_
  · exact endV .ret (.inl rfl) rfl rfl [_, _, _] (Ghost.le.refl _) rfl
  simp only [Bool.or_eq_false_iff, Bool.not_eq_false'] at hc5
  obtain ⟨⟨⟨hfa, hfb⟩, hfc⟩, hft⟩ := hc5
  have hla := fewB_le hfa
  have hlb := fewB_le hfb
  have hlc := fewB_le hfc
  have hlt : ts.length ≤ 5 := by have := of_decide_eq_false hft; omega
  refine Wc.skip ?_
  refine Wx.then_code ?_
  refine Wc.seq ?_
  refine Wc.region ?_
  refine Wl.loadOA ty24 rfl (by repeat (first | exact .here | apply Has.there)) rfl rfl ?_
  refine Wl.loadOA ty24 rfl (by repeat (first | exact .here | apply Has.there)) rfl rfl ?_
  refine Wl.move rfl rfl ?_
  refine Wl.callV rfl rfl rfl (Part_spec _ _ _ ts a b h ha hb ht (by omega) (by omega) (by omega) g) ?_
  refine Wl.move rfl rfl ?_
  refine Wl.extract rfl rfl rfl ?_
  refine Wl.extract rfl rfl rfl ?_
  refine Wl.assign rfl rfl ?_
  refine Wl.assign rfl rfl ?_
  refine Wl.nil ?_
  refine Wx.then_code ?_
  refine Wc.seq ?_
  refine Wc.region ?_
  refine Wl.loadOA ty24 rfl (by repeat (first | exact .here | apply Has.there)) rfl rfl ?_
  refine Wl.loadOA ty24 rfl (by repeat (first | exact .here | apply Has.there)) rfl rfl ?_
  refine Wl.move rfl rfl ?_
  refine Wl.callV rfl rfl rfl (Part_spec _ _ _ ts b c h hb hc ht (by omega) (by omega) (by omega) g) ?_
  refine Wl.move rfl rfl ?_
  refine Wl.extract rfl rfl rfl ?_
  refine Wl.extract rfl rfl rfl ?_
  refine Wl.assign rfl rfl ?_
  refine Wl.assign rfl rfl ?_
  refine Wl.nil ?_
  refine Wx.then_code ?_
  refine Wc.seq ?_
  refine Wc.region ?_
  refine Wl.loadOA ty24 rfl (by repeat (first | exact .here | apply Has.there)) rfl rfl ?_
  refine Wl.loadOA ty24 rfl (by repeat (first | exact .here | apply Has.there)) rfl rfl ?_
  refine Wl.move rfl rfl ?_
  refine Wl.callV rfl rfl rfl (Part_spec _ _ _ ts a c h ha hc ht (by omega) (by omega) (by omega) g) ?_
  refine Wl.move rfl rfl ?_
  refine Wl.extract rfl rfl rfl ?_
  refine Wl.extract rfl rfl rfl ?_
  refine Wl.assign rfl rfl ?_
  refine Wl.assign rfl rfl ?_
  refine Wl.nil ?_
  refine Wx.then_code ?_
  refine Wc.seq ?_
  refine Wc.region ?_
  refine Wl.loadOA ty24 rfl (by repeat (first | exact .here | apply Has.there)) rfl rfl ?_
  refine Wl.loadOA ty24 rfl (by repeat (first | exact .here | apply Has.there)) rfl rfl ?_
  refine Wl.move rfl rfl ?_
  refine Wl.callV rfl rfl rfl (Part_spec _ _ _ ts a a h ha ha ht (by omega) (by omega) (by omega) g) ?_
  refine Wl.move rfl rfl ?_
  refine Wl.extract rfl rfl rfl ?_
  refine Wl.extract rfl rfl rfl ?_
  refine Wl.assign rfl rfl ?_
  refine Wl.assign rfl rfl ?_
  refine Wl.nil ?_
  refine Wx.then_code ?_
  refine Wc.seq ?_
  refine Wc.seq ?_
  refine Wc.region ?_
  refine Wl.move rfl rfl ?_
  refine Wl.iEql rfl rfl rfl ?_
  refine Wl.move rfl rfl ?_
  apply Wl.andB (l1 := [_, _, _]) (i := 70) (d := 73)
  · rfl
  · intro hg6
    refine Wl.guardYes rfl rfl ?_
    refine Wl.move rfl rfl ?_
    refine Wl.guardYes rfl rfl ?_
    refine Wl.not rfl rfl ?_
    refine Wl.pickT rfl rfl rfl ?_
    refine Wl.nil ?_
    exact Wx.reach (.cons rfl (.skip rfl (.skip rfl (.skip rfl (.same rfl (by rw [hg6]) (.refl _))))))
  · intro hg6
    refine Wl.guardNo rfl rfl rfl rfl ?_
    refine Wl.guardNo rfl rfl rfl rfl ?_
    refine Wl.pickF rfl rfl rfl ?_
    refine Wl.nil ?_
    exact Wx.reach (.cons rfl (.skip rfl (.skip rfl (.skip rfl (.same rfl (by rw [hg6]) (.refl _))))))
  refine Wl.move rfl rfl ?_
  apply Wl.orB (l1 := [_, _, _, _, _, _, _, _, _, _, _]) (i := 74) (d := 85)
  · rfl
  · intro hg7
    refine Wl.guardNo rfl rfl rfl rfl ?_
    refine Wl.guardNo rfl rfl rfl rfl ?_
    refine Wl.guardNo rfl rfl rfl rfl ?_
    refine Wl.guardUndef rfl rfl rfl ?_
    refine Wl.guardUndef rfl rfl rfl ?_
    refine Wl.guardNo rfl rfl rfl rfl ?_
    refine Wl.guardNo rfl rfl rfl rfl ?_
    refine Wl.guardUndef rfl rfl rfl ?_
    refine Wl.guardUndef rfl rfl rfl ?_
    refine Wl.guardNo rfl rfl rfl rfl ?_
    refine Wl.pickT rfl rfl rfl ?_
    refine Wl.nil ?_
    exact Wx.reach (.cons rfl (.skip rfl (.skip rfl (.skip rfl (.skip rfl (.skip rfl (.skip rfl (.skip rfl (.skip rfl (.skip rfl (.skip rfl (.skip rfl (.same rfl (by rw [hg7]) (.refl _))))))))))))))
  · intro hg7
    refine Wl.guardYes rfl rfl ?_
    refine Wl.move rfl rfl ?_
    refine Wl.guardYes rfl rfl ?_
    refine Wl.iEql rfl rfl rfl ?_
    refine Wl.guardYes rfl rfl ?_
    refine Wl.move rfl rfl ?_
    apply Wl.andB (l1 := [_, _, _]) (i := 77) (d := 80)
    · rfl
    · intro hg8
      refine Wl.guardYes rfl rfl ?_
      refine Wl.move rfl rfl ?_
      refine Wl.guardYes rfl rfl ?_
      refine Wl.iEql rfl rfl rfl ?_
      refine Wl.guardYes rfl rfl ?_
      refine Wl.pickT rfl rfl rfl ?_
      refine Wl.nil ?_
      exact Wx.reach (.cons rfl (.skip rfl (.skip rfl (.skip rfl (.same rfl (by rw [hg8]) (.refl _))))))
    · intro hg8
      refine Wl.guardNo rfl rfl rfl rfl ?_
      refine Wl.guardNo rfl rfl rfl rfl ?_
      refine Wl.guardYes rfl rfl ?_
      refine Wl.pickF rfl rfl rfl ?_
      refine Wl.nil ?_
      exact Wx.reach (.cons rfl (.skip rfl (.skip rfl (.skip rfl (.same rfl (by rw [hg8]) (.refl _))))))
    refine Wl.guardYes rfl rfl ?_
    refine Wl.move rfl rfl ?_
    apply Wl.andB (l1 := [_, _, _]) (i := 81) (d := 84)
    · rfl
    · intro hg9
      refine Wl.guardYes rfl rfl ?_
      refine Wl.move rfl rfl ?_
      refine Wl.guardYes rfl rfl ?_
      refine Wl.iNeq rfl rfl rfl ?_
      refine Wl.guardYes rfl rfl ?_
      refine Wl.pickT rfl rfl rfl ?_
      refine Wl.nil ?_
      exact Wx.reach (.cons rfl (.skip rfl (.skip rfl (.skip rfl (.same rfl (by rw [hg9]) (.refl _))))))
    · intro hg9
      refine Wl.guardNo rfl rfl rfl rfl ?_
      refine Wl.guardNo rfl rfl rfl rfl ?_
      refine Wl.guardYes rfl rfl ?_
      refine Wl.pickF rfl rfl rfl ?_
      refine Wl.nil ?_
      exact Wx.reach (.cons rfl (.skip rfl (.skip rfl (.skip rfl (.same rfl (by rw [hg9]) (.refl _))))))
    refine Wl.pickF rfl rfl rfl ?_
    refine Wl.nil ?_
    exact Wx.reach (.cons rfl (.skip rfl (.skip rfl (.skip rfl (.skip rfl (.skip rfl (.skip rfl (.skip rfl (.same rfl (by rw [hg7]) (.refl _))))))))))
  refine Wl.nil ?_
  refine Wx.then_code ?_
  refine Wc.condS rfl (fun hc10 => ?_) (fun hc10 => ?_)
  refine Wc.seq ?_
  refine Wc.region ?_
  refine Wl.assign rfl rfl ?_
  refine Wl.nil ?_
  refine Wx.then_code ?_
  refine Wc.ret ?_
  refine Wx.then_ret ?_
  · exact absurd (hc10.symm.trans (order1 ts a b c)) (by decide)
  refine Wc.skip ?_
  refine Wx.then_code ?_
  refine Wc.seq ?_
  refine Wc.seq ?_
  refine Wc.region ?_
  refine Wl.move rfl rfl ?_
  refine Wl.iEql rfl rfl rfl ?_
  refine Wl.move rfl rfl ?_
  apply Wl.andB (l1 := [_, _, _]) (i := 88) (d := 91)
  · rfl
  · intro hg11
    refine Wl.guardYes rfl rfl ?_
    refine Wl.move rfl rfl ?_
    refine Wl.guardYes rfl rfl ?_
    refine Wl.iEql rfl rfl rfl ?_
    refine Wl.pickT rfl rfl rfl ?_
    refine Wl.nil ?_
    exact Wx.reach (.cons rfl (.skip rfl (.skip rfl (.skip rfl (.same rfl (by rw [hg11]) (.refl _))))))
  · intro hg11
    refine Wl.guardNo rfl rfl rfl rfl ?_
    refine Wl.guardNo rfl rfl rfl rfl ?_
    refine Wl.pickF rfl rfl rfl ?_
    refine Wl.nil ?_
    exact Wx.reach (.cons rfl (.skip rfl (.skip rfl (.skip rfl (.same rfl (by rw [hg11]) (.refl _))))))
  refine Wl.move rfl rfl ?_
  apply Wl.andB (l1 := [_, _]) (i := 92) (d := 94)
  · rfl
  · intro hg12
    refine Wl.guardYes rfl rfl ?_
    refine Wl.move rfl rfl ?_
    refine Wl.pickT rfl rfl rfl ?_
    refine Wl.nil ?_
    exact Wx.reach (.cons rfl (.skip rfl (.skip rfl (.same rfl (by rw [hg12]) (.refl _)))))
  · intro hg12
    refine Wl.guardNo rfl rfl rfl rfl ?_
    refine Wl.pickF rfl rfl rfl ?_
    refine Wl.nil ?_
    exact Wx.reach (.cons rfl (.skip rfl (.skip rfl (.same rfl (by rw [hg12]) (.refl _)))))
  refine Wl.move rfl rfl ?_
  apply Wl.andB (l1 := [_, _]) (i := 95) (d := 97)
  · rfl
  · intro hg13
    refine Wl.guardYes rfl rfl ?_
    refine Wl.move rfl rfl ?_
    refine Wl.pickT rfl rfl rfl ?_
    refine Wl.nil ?_
    exact Wx.reach (.cons rfl (.skip rfl (.skip rfl (.same rfl (by rw [hg13]) (.refl _)))))
  · intro hg13
    refine Wl.guardNo rfl rfl rfl rfl ?_
    refine Wl.pickF rfl rfl rfl ?_
    refine Wl.nil ?_
    exact Wx.reach (.cons rfl (.skip rfl (.skip rfl (.same rfl (by rw [hg13]) (.refl _)))))
  refine Wl.move rfl rfl ?_
  apply Wl.andB (l1 := [_, _, _]) (i := 98) (d := 101)
  · rfl
  · intro hg14
    refine Wl.guardYes rfl rfl ?_
    refine Wl.move rfl rfl ?_
    refine Wl.guardYes rfl rfl ?_
    refine Wl.not rfl rfl ?_
    refine Wl.pickT rfl rfl rfl ?_
    refine Wl.nil ?_
    exact Wx.reach (.cons rfl (.skip rfl (.skip rfl (.skip rfl (.same rfl (by rw [hg14]) (.refl _))))))
  · intro hg14
    refine Wl.guardNo rfl rfl rfl rfl ?_
    refine Wl.guardNo rfl rfl rfl rfl ?_
    refine Wl.pickF rfl rfl rfl ?_
    refine Wl.nil ?_
    exact Wx.reach (.cons rfl (.skip rfl (.skip rfl (.skip rfl (.same rfl (by rw [hg14]) (.refl _))))))
  refine Wl.nil ?_
  refine Wx.then_code ?_
  refine Wc.condS rfl (fun hc15 => ?_) (fun hc15 => ?_)
  refine Wc.seq ?_
  refine Wc.region ?_
  refine Wl.assign rfl rfl ?_
  refine Wl.nil ?_
  refine Wx.then_code ?_
  refine Wc.ret ?_
  refine Wx.then_ret ?_
  · exact absurd (hc15.symm.trans (order2 ts a b c)) (by decide)
  refine Wc.skip ?_
  refine Wx.then_code ?_
  refine Wc.seq ?_
  apply Wc.drawU (m := 9) (D := [[], [], [1], [0, 2], [], [4], [3, 5], [6], []]) (U := [[], [], [], [0], [], [], [3], [], []]) (Ys := [.gone (fun _ v F _ => Row F v 37 6 0 [] ∧ ∃ b, v = .slice (some ⟨b, 0, none⟩) 0 0), .det _, .det (.slice oa a.length ca), .gone (fun _ v F _ => Row F v 37 6 a.length (a.flatMap Atom.enc)), .det _, .det (.slice ob b.length cb), .rel (fun _ v F _ => Row F v 37 6 (a.length + b.length) ((a ++ b).flatMap Atom.enc)), .rel (fun env v F _ => F = [] ∧ v = .agg #[env 6]), .rel (NewY 24 _)])
  · exact follows
  · kernel_rfl
  · kernel_rfl
  · rfl
  · rfl
  · rfl
  · rfl
  · skip
    apply Locs.mk
    · intro env K' h' S' hs hd hl hY
      refine Wl.buildSlice0 sl22 rfl (fun b0 => ?_)
      refine Wl.nil ?_
      exact Wx.gives _ _ (Ghost.le.refl _) ⟨⟨rfl, .inr ⟨b0, 0, [], rfl, rfl, Nat.le_refl _, rfl⟩⟩, b0, rfl⟩ (Sub.refl _)
    apply Locs.mk
    · intro env K' h' S' hs hd hl hY
      refine Wl.field fd24_0 (hs _ _ rfl) rfl ?_
      refine Wl.nil ?_
      exact Wx.gives0 _ (Ghost.le.refl _) ⟨rfl, rfl⟩ (Sub.refl _)
    apply Locs.mk
    · intro env K' h' S' hs hd hl hY
      refine Wl.loadO ty22 (detL (hd 1 (by decide)) (hY 1 (by decide))) (Has.right (by repeat (first | exact .here | apply Has.there))) rfl rfl ?_
      refine Wl.nil ?_
      exact Wx.gives0 _ (Ghost.le.refl _) ⟨rfl, rfl⟩ (Sub.refl _)
    apply Locs.mk
    · intro env K' h' S' φ hs hd hl hY hU
      have y0 := hU 0 (by decide); have e0 := hd 0 (by decide)
      refine Wl.append (F := φ 0) [] _ (a.flatMap Atom.enc) sl22 e0 (detL (hd 2 (by decide)) (hY 2 (by decide) (by decide))) rfl y0.1 rfl (flat_len a) (srcAtoms (ha.mono hl)) (flatA_one a) (by omega) (by omega) fun v' F' hrow => ?_
      refine Wl.nil ?_
      exact Wx.gives _ F' (Ghost.le.refl _) (by rw [Nat.zero_add, List.nil_append] at hrow; exact hrow) (Sub.refl _)
    apply Locs.mk
    · intro env K' h' S' hs hd hl hY
      refine Wl.field fd24_0 (hs _ _ rfl) rfl ?_
      refine Wl.nil ?_
      exact Wx.gives0 _ (Ghost.le.refl _) ⟨rfl, rfl⟩ (Sub.refl _)
    apply Locs.mk
    · intro env K' h' S' hs hd hl hY
      refine Wl.loadO ty22 (detL (hd 4 (by decide)) (hY 4 (by decide))) (Has.right (by repeat (first | exact .here | apply Has.there))) rfl rfl ?_
      refine Wl.nil ?_
      exact Wx.gives0 _ (Ghost.le.refl _) ⟨rfl, rfl⟩ (Sub.refl _)
    apply Locs.mk
    · intro env K' h' S' φ hs hd hl hY hU
      have y3 := hU 3 (by decide); have e3 := hd 3 (by decide)
      refine Wl.append (F := φ 3) [] _ (b.flatMap Atom.enc) sl22 e3 (detL (hd 5 (by decide)) (hY 5 (by decide) (by decide))) rfl y3 rfl (flat_len b) (srcAtoms (hb.mono hl)) (flatA_one b) (by omega) (by omega) fun v' F' hrow => ?_
      refine Wl.nil ?_
      exact Wx.gives _ F' (Ghost.le.refl _) (by rw [← List.flatMap_append] at hrow; exact hrow) (Sub.refl _)
    apply Locs.mk
    · intro env K' h' S' hs hd hl hY
      obtain ⟨F6, y6⟩ := hY 6 (by decide); have e6 := hd 6 (by decide)
      obtain ⟨o6, c6, hv6⟩ := Row.shape y6
      rw [hv6] at e6
      refine Wl.callV rfl (evs1 e6) rfl (part_spec _ _ _ _) ?_
      refine Wl.nil ?_
      exact Wx.gives0 _ (Ghost.le.refl _) ⟨rfl, show _ = Value.agg #[env 6] by rw [hv6]⟩ (Sub.refl _)
    apply Locs.mk
    · intro env K' h' S' hs hd hl hY
      refine Wl.alloc ty24 rfl rfl (fun b4 => ?_)
      refine Wl.nil ?_
      exact Wx.gives _ _ (Ghost.le.refl _) ⟨_, rfl, rfl⟩ (Sub.refl _)
    trivial
  · exact ⟨(fun _ _ _ _ _ _ H => H), trivial, trivial, (fun _ _ _ _ _ _ H => H), trivial, trivial, (fun _ _ _ _ _ _ H => H), (fun _ _ _ _ _ _ H => H), NewY.mono, trivial⟩
  intro h' hl'
  intro v0
  intro v3
  intro v6 F6 y6
  intro v7 F7 y7
  refine NewY.all fun b5 => ?_
  show Wl _ _ _ [_] _ ((17, _) :: (109, _) :: (108, _) :: (107, _) :: (106, _) :: (105, _) :: (104, _) :: (103, _) :: (102, _) :: _) _ _ _
  obtain ⟨o6, c6, rfl⟩ := Row.shape y6
  obtain ⟨rfl, hv7⟩ := y7
  have hv7 : v7 = .agg #[.slice o6 (a.length + b.length) c6] := hv7
  subst hv7
  refine Wl.storeA ty24 rfl rfl (by rfl) (by repeat (first | exact .here | apply Upd.there)) (by rfl) (by rfl) (by rfl) ?_
  refine Wl.nil ?_
  refine Wx.then_code ?_
  refine Wc.seq ?_
  refine Wc.seq ?_
  refine Wc.region ?_
  refine Wl.loadOA ty24 rfl (by repeat (first | exact .here | apply Has.there)) rfl rfl ?_
  refine Wl.freezeBut [] _ [_, F6] _ rfl fun h2 hl2 hF => ?_
  have hab : Atoms h2 (.slice o6 (a.length + b.length) c6) (a ++ b) := Row.sl (fun _ => rfl) y6 (List.length_append).symm fun p hp => hF p (by simp [hp])
  refine Wl.callV rfl rfl rfl (Few_spec _ (a ++ b) h2 hab) ?_
  refine Wl.not rfl rfl ?_
  refine Wl.nil ?_
  refine Wx.then_code ?_
  refine Wc.condS rfl (fun hc16 => ?_) (fun hc16 => ?_)
  refine Wc.seq ?_
  refine Wc.region ?_
  refine Wl.assign rfl rfl ?_
  refine Wl.nil ?_
  refine Wx.then_code ?_
  refine Wc.ret ?_
  refine Wx.then_ret ?_
  · exact endV .ret (.inl rfl) rfl rfl [_, _, _, _] (hl'.trans hl2) rfl
  refine Wc.skip ?_
  refine Wx.then_code ?_
  refine Wc.seq ?_
  refine Wc.region ?_
  refine Wl.loadOA ty24 rfl (by repeat (first | exact .here | apply Has.there)) rfl rfl ?_
  refine Wl.loadOA ty24 rfl (by repeat (first | exact .here | apply Has.there)) rfl rfl ?_
  refine Wl.move rfl rfl ?_
  refine Wl.callV rfl rfl rfl (Part_spec _ _ _ ts (a ++ b) a h2 hab (ha.mono (hl'.trans hl2)) (ht.mono (hl'.trans hl2)) (by simp; omega) (by omega) (by omega) (g.mono (hl'.trans hl2))) ?_
  refine Wl.move rfl rfl ?_
  refine Wl.extract rfl rfl rfl ?_
  refine Wl.extract rfl rfl rfl ?_
  refine Wl.assign rfl rfl ?_
  refine Wl.assign rfl rfl ?_
  refine Wl.nil ?_
  refine Wx.then_code ?_
  refine Wc.seq ?_
  refine Wc.region ?_
  refine Wl.move rfl rfl ?_
  refine Wl.iNeq rfl rfl rfl ?_
  refine Wl.move rfl rfl ?_
  apply Wl.orB (l1 := [_, _]) (i := 122) (d := 124)
  · rfl
  · intro hg17
    refine Wl.guardNo rfl rfl rfl rfl ?_
    refine Wl.pickT rfl rfl rfl ?_
    refine Wl.nil ?_
    exact Wx.reach (.cons rfl (.skip rfl (.skip rfl (.same rfl (by rw [hg17]) (.refl _)))))
  · intro hg17
    refine Wl.guardYes rfl rfl ?_
    refine Wl.move rfl rfl ?_
    refine Wl.pickF rfl rfl rfl ?_
    refine Wl.nil ?_
    exact Wx.reach (.cons rfl (.skip rfl (.skip rfl (.same rfl (by rw [hg17]) (.refl _)))))
  refine Wl.assign rfl rfl ?_
  refine Wl.nil ?_
  refine Wx.then_code ?_
  refine Wc.ret ?_
  exact endV .ret (.inl rfl) rfl rfl [_, _, _, _] (hl'.trans hl2) (by rw [order3])
end Go.Proofs.YtgpmjggdloldnaaGreatDoor

namespace Go.Proofs.YtgpmjggdloldnaaGreatDoor
open Go Go.Sx
set_option maxRecDepth 100000
theorem _root_.Go.Sx.Sl.from {α : Type} {h : Ghost} {R : α → List Value → Prop} {k n cap : Nat} {ao : Option Addr} {l : List α} (H : Sl h R k (.slice ao n cap) l) {i : Nat} (hi : i ≤ l.length) : Sl h R k (.slice (if cap = i then ao else ao.map (·.add (i * k))) (l.length - i) (cap - i)) (l.drop i) := by
  obtain ⟨a, c, e, hc, r⟩ := H
  cases e
  refine ⟨_, cap - i, by rw [List.length_drop], by rw [List.length_drop]; omega, ?_⟩
  rcases r with rfl | ⟨b, o, rfl, r⟩
  · exact .inl (by simp)
  · by_cases he : l.length = i
    · exact .inl (List.drop_eq_nil_of_le (by omega))
    · refine .inr ⟨b, o + i * k, by rw [if_neg (by omega)]; simp only [Option.map_some, Addr.add_eq], fun j x hx => ?_⟩
      rw [List.getElem?_drop] at hx
      obtain ⟨vs, h1, h2, h3⟩ := r (i + j) x hx
      refine ⟨vs, h1, h2, ?_⟩
      rwa [show o + i * k + j * k = o + (i + j) * k by rw [Nat.add_mul]; omega]
theorem core_tight2 {ts : List ByteArray} {l X : List Atom} (hX : X = coreA ts l) {i : Nat} {x : Atom} (hx : X[i]? = some x) (h : partE ts (X.eraseIdx i) X = 0) : partB ts (X.eraseIdx i) X = false := by
  subst hX; exact core_tight hx h
set_option maxHeartbeats 2000000 in
theorem ContainCore_spec (av tv : Value) (a : List Atom) (ts : List ByteArray) (h : Ghost) (ha : Atoms h av a) (ht : Strs h tv ts) (g : Gl h) :
    SpecV Tryz.prog 4 [.agg #[av], tv] h (.bool true) := by
  obtain ⟨oa, ca, rfl, hca⟩ := ha.shape
  obtain ⟨ot, ct, rfl, hct⟩ := ht.shape
  refine SpecP.enter cl4 Tryz.func4 rfl Tryz.ntmps4 rfl fun E R => ?_
  refine Wc.seq ?_
  refine Wc.region ?_
  refine Wl.box rfl (by rfl) rfl (fun b1 => ?_)
  refine Wl.assign rfl rfl ?_
  refine Wl.nil ?_
  refine Wx.then_code ?_
  refine Wc.seq ?_
  refine Wc.seq ?_
  refine Wc.region ?_
  refine Wl.callV rfl rfl rfl (sane_spec h g) ?_
  refine Wl.not rfl rfl ?_
  refine Wl.nil ?_
  refine Wx.then_code ?_
  refine Wc.condS rfl (fun hc1 => ?_) (fun hc1 => ?_)
  refine Wc.seq ?_
  refine Wc.region ?_
  refine Wl.assign rfl rfl ?_
  refine Wl.nil ?_
  refine Wx.then_code ?_
  refine Wc.ret ?_
  refine Wx.then_ret ?_
  · exact absurd hc1 (by decide)
  refine Wc.skip ?_
  refine Wx.then_code ?_
  refine Wc.seq ?_
  refine Wc.seq ?_
  refine Wc.region ?_
  refine Wl.loadOA ty24 rfl (by repeat (first | exact .here | apply Has.there)) rfl rfl ?_
  refine Wl.callV rfl rfl rfl (Few_spec _ a h ha) ?_
  refine Wl.not rfl rfl ?_
  refine Wl.move rfl rfl ?_
  apply Wl.orB (l1 := [_, _, _, _]) (i := 24) (d := 28)
  · rfl
  · intro hg2
    refine Wl.guardNo rfl rfl rfl rfl ?_
    refine Wl.guardNo rfl rfl rfl rfl ?_
    refine Wl.guardNo rfl rfl rfl rfl ?_
    refine Wl.pickT rfl rfl rfl ?_
    refine Wl.nil ?_
    exact Wx.reach (.cons rfl (.skip rfl (.skip rfl (.skip rfl (.skip rfl (.same rfl (by rw [hg2]) (.refl _)))))))
  · intro hg2
    refine Wl.guardYes rfl rfl ?_
    refine Wl.move rfl rfl ?_
    refine Wl.guardYes rfl rfl ?_
    refine Wl.slLen Tryz.underlying25 rfl rfl ?_
    refine Wl.guardYes rfl rfl ?_
    refine Wl.iGtr rfl rfl rfl ?_
    refine Wl.pickF rfl rfl rfl ?_
    refine Wl.nil ?_
    exact Wx.reach (.cons rfl (.skip rfl (.skip rfl (.skip rfl (.skip rfl (.same rfl (by rw [hg2]) (.refl _)))))))
  refine Wl.nil ?_
  refine Wx.then_code ?_
  refine Wc.condS rfl (fun hc3 => ?_) (fun hc3 => ?_)
  refine Wc.seq ?_
  refine Wc.region ?_
  refine Wl.assign rfl rfl ?_
  refine Wl.nil ?_
  refine Wx.then_code ?_
  refine Wc.ret ?_
  refine Wx.then_ret ?_
  · exact endV .ret (.inl rfl) rfl rfl [_] (Ghost.le.refl _) rfl
  simp only [Bool.or_eq_false_iff, Bool.not_eq_false'] at hc3
  obtain ⟨hfa, hft⟩ := hc3
  have hla := fewB_le hfa
  have hlt : ts.length ≤ 5 := by have := of_decide_eq_false hft; omega
  refine Wc.skip ?_
  refine Wx.then_code ?_
  refine Wc.seq ?_
  refine Wc.region ?_
  refine Wl.loadOA ty24 rfl (by repeat (first | exact .here | apply Has.there)) rfl rfl ?_
  refine Wl.move rfl rfl ?_
  refine Wl.callP rfl rfl rfl (Core_spec _ _ a ts h ha ht (by omega) (by omega) g) fun u h1 hl1 ⟨xv, hu, hx⟩ => ?_
  subst hu
  obtain ⟨X, hX⟩ : ∃ X, X = if checkE ts a = 0 then coreA ts a else [] := ⟨_, rfl⟩
  rw [← hX] at hx
  obtain ⟨ox, cx, rfl, hcx⟩ := hx.shape
  refine Wl.move rfl rfl ?_
  refine Wl.extract rfl rfl rfl ?_
  refine Wl.extract rfl rfl rfl ?_
  refine Wl.alloc ty24 rfl rfl (fun b2 => ?_)
  refine Wl.storeA ty24 rfl rfl (by rfl) (by repeat (first | exact .here | apply Upd.there)) (by rfl) (by rfl) (by rfl) ?_
  refine Wl.assign rfl rfl ?_
  refine Wl.nil ?_
  refine Wx.then_code ?_
  refine Wc.seq ?_
  refine Wc.seq ?_
  refine Wc.region ?_
  refine Wl.move rfl rfl ?_
  refine Wl.iNeq rfl rfl rfl ?_
  refine Wl.nil ?_
  refine Wx.then_code ?_
  refine Wc.condS rfl (fun hc4 => ?_) (fun hc4 => ?_)
  refine Wc.seq ?_
  refine Wc.region ?_
  refine Wl.field fd24_0 rfl rfl ?_
  refine Wl.loadO ty22 rfl (by repeat (first | exact .here | apply Has.there)) rfl rfl ?_
  refine Wl.slLen Tryz.underlying22 rfl rfl ?_
  refine Wl.iEql rfl rfl rfl ?_
  refine Wl.assign rfl rfl ?_
  refine Wl.nil ?_
  refine Wx.then_code ?_
  refine Wc.ret ?_
  refine Wx.then_ret ?_
  · have h0 : checkE ts a ≠ 0 := by simpa using hc4
    rw [if_neg h0] at hX
    exact endV .ret (.inl rfl) rfl rfl [_, _] hl1 (by rw [hX]; rfl)
  have h0 : checkE ts a = 0 := by simpa using hc4
  rw [if_pos h0] at hX
  have hcX : checkE ts X = 0 := by rw [hX]; exact check_core h0
  have core := core_ok ts a
  rw [← hX] at core
  have hlX : X.length ≤ 6 := Nat.le_trans core.len hla
  have ha1 := ha.mono hl1
  have ht1 := ht.mono hl1
  have g1 := g.mono hl1
  refine Wc.skip ?_
  refine Wx.then_code ?_
  refine Wc.seq ?_
  refine Wc.region ?_
  refine Wl.loadOA ty24 rfl (by repeat (first | exact .here | apply Has.there)) rfl rfl ?_
  refine Wl.loadOA ty24 rfl (by repeat (first | exact .here | apply Has.there)) rfl rfl ?_
  refine Wl.move rfl rfl ?_
  refine Wl.callV rfl rfl rfl (Part_spec _ _ _ ts X a h1 hx ha1 ht1 (by omega) (by omega) (by omega) g1) ?_
  rw [partB_iff.2 ⟨partE_zero.2 ⟨hcX, h0⟩, core.hom⟩, partE_zero.2 ⟨hcX, h0⟩]
  refine Wl.move rfl rfl ?_
  refine Wl.extract rfl rfl rfl ?_
  refine Wl.extract rfl rfl rfl ?_
  refine Wl.assign rfl rfl ?_
  refine Wl.assign rfl rfl ?_
  refine Wl.nil ?_
  refine Wx.then_code ?_
  refine Wc.seq ?_
  refine Wc.region ?_
  refine Wl.loadOA ty24 rfl (by repeat (first | exact .here | apply Has.there)) rfl rfl ?_
  refine Wl.loadOA ty24 rfl (by repeat (first | exact .here | apply Has.there)) rfl rfl ?_
  refine Wl.move rfl rfl ?_
  refine Wl.callV rfl rfl rfl (Part_spec _ _ _ ts a X h1 ha1 hx ht1 (by omega) (by omega) (by omega) g1) ?_
  rw [partB_iff.2 ⟨partE_zero.2 ⟨h0, hcX⟩, hom_sub core.mem⟩, partE_zero.2 ⟨h0, hcX⟩]
  refine Wl.move rfl rfl ?_
  refine Wl.extract rfl rfl rfl ?_
  refine Wl.extract rfl rfl rfl ?_
  refine Wl.assign rfl rfl ?_
  refine Wl.assign rfl rfl ?_
  refine Wl.nil ?_
  refine Wx.then_code ?_
  refine Wc.seq ?_
  refine Wc.region ?_
  refine Wl.loadOA ty24 rfl (by repeat (first | exact .here | apply Has.there)) rfl rfl ?_
  refine Wl.move rfl rfl ?_
  refine Wl.callP rfl rfl rfl (Core_spec _ _ X ts h1 hx ht1 (by omega) (by omega) g1) fun u h2 hl2 ⟨yv, hu, hy⟩ => ?_
  subst hu
  rw [hcX, if_pos rfl, core.again] at hy
  rw [hcX]
  obtain ⟨oy, cy, rfl, hcy⟩ := hy.shape
  have hx2 := hx.mono hl2
  have ha2 := ha1.mono hl2
  have ht2 := ht1.mono hl2
  have g2 := g1.mono hl2
  have hl12 := hl1.trans hl2
  refine Wl.move rfl rfl ?_
  refine Wl.extract rfl rfl rfl ?_
  refine Wl.extract rfl rfl rfl ?_
  refine Wl.alloc ty24 rfl rfl (fun b3 => ?_)
  refine Wl.storeA ty24 rfl rfl (by rfl) (by repeat (first | exact .here | apply Upd.there)) (by rfl) (by rfl) (by rfl) ?_
  refine Wl.assign rfl rfl ?_
  refine Wl.nil ?_
  refine Wx.then_code ?_
  refine Wc.seq ?_
  refine Wc.seq ?_
  refine Wc.region ?_
  refine Wl.move rfl rfl ?_
  refine Wl.iNeq rfl rfl rfl ?_
  refine Wl.move rfl rfl ?_
  apply Wl.orB (l1 := [_, _, _]) (i := 63) (d := 66)
  · rfl
  · intro hg5
    refine Wl.guardNo rfl rfl rfl rfl ?_
    refine Wl.guardNo rfl rfl rfl rfl ?_
    refine Wl.pickT rfl rfl rfl ?_
    refine Wl.nil ?_
    exact Wx.reach (.cons rfl (.skip rfl (.skip rfl (.skip rfl (.same rfl (by rw [hg5]) (.refl _))))))
  · intro hg5
    refine Wl.guardYes rfl rfl ?_
    refine Wl.move rfl rfl ?_
    refine Wl.guardYes rfl rfl ?_
    refine Wl.iNeq rfl rfl rfl ?_
    refine Wl.pickF rfl rfl rfl ?_
    refine Wl.nil ?_
    exact Wx.reach (.cons rfl (.skip rfl (.skip rfl (.skip rfl (.same rfl (by rw [hg5]) (.refl _))))))
  refine Wl.move rfl rfl ?_
  apply Wl.orB (l1 := [_, _, _]) (i := 67) (d := 70)
  · rfl
  · intro hg6
    refine Wl.guardNo rfl rfl rfl rfl ?_
    refine Wl.guardNo rfl rfl rfl rfl ?_
    refine Wl.pickT rfl rfl rfl ?_
    refine Wl.nil ?_
    exact Wx.reach (.cons rfl (.skip rfl (.skip rfl (.skip rfl (.same rfl (by rw [hg6]) (.refl _))))))
  · intro hg6
    refine Wl.guardYes rfl rfl ?_
    refine Wl.move rfl rfl ?_
    refine Wl.guardYes rfl rfl ?_
    refine Wl.iNeq rfl rfl rfl ?_
    refine Wl.pickF rfl rfl rfl ?_
    refine Wl.nil ?_
    exact Wx.reach (.cons rfl (.skip rfl (.skip rfl (.skip rfl (.same rfl (by rw [hg6]) (.refl _))))))
  refine Wl.move rfl rfl ?_
  apply Wl.orB (l1 := [_, _, _]) (i := 71) (d := 74)
  · rfl
  · intro hg7
    refine Wl.guardNo rfl rfl rfl rfl ?_
    refine Wl.guardNo rfl rfl rfl rfl ?_
    refine Wl.pickT rfl rfl rfl ?_
    refine Wl.nil ?_
    exact Wx.reach (.cons rfl (.skip rfl (.skip rfl (.skip rfl (.same rfl (by rw [hg7]) (.refl _))))))
  · intro hg7
    refine Wl.guardYes rfl rfl ?_
    refine Wl.move rfl rfl ?_
    refine Wl.guardYes rfl rfl ?_
    refine Wl.not rfl rfl ?_
    refine Wl.pickF rfl rfl rfl ?_
    refine Wl.nil ?_
    exact Wx.reach (.cons rfl (.skip rfl (.skip rfl (.skip rfl (.same rfl (by rw [hg7]) (.refl _))))))
  refine Wl.move rfl rfl ?_
  apply Wl.orB (l1 := [_, _, _]) (i := 75) (d := 78)
  · rfl
  · intro hg8
    refine Wl.guardNo rfl rfl rfl rfl ?_
    refine Wl.guardNo rfl rfl rfl rfl ?_
    refine Wl.pickT rfl rfl rfl ?_
    refine Wl.nil ?_
    exact Wx.reach (.cons rfl (.skip rfl (.skip rfl (.skip rfl (.same rfl (by rw [hg8]) (.refl _))))))
  · intro hg8
    refine Wl.guardYes rfl rfl ?_
    refine Wl.move rfl rfl ?_
    refine Wl.guardYes rfl rfl ?_
    refine Wl.not rfl rfl ?_
    refine Wl.pickF rfl rfl rfl ?_
    refine Wl.nil ?_
    exact Wx.reach (.cons rfl (.skip rfl (.skip rfl (.skip rfl (.same rfl (by rw [hg8]) (.refl _))))))
  refine Wl.move rfl rfl ?_
  apply Wl.orB (l1 := [_, _, _, _, _]) (i := 79) (d := 84)
  · rfl
  · intro hg9
    refine Wl.guardNo rfl rfl rfl rfl ?_
    refine Wl.guardNo rfl rfl rfl rfl ?_
    refine Wl.guardNo rfl rfl rfl rfl ?_
    refine Wl.guardNo rfl rfl rfl rfl ?_
    refine Wl.pickT rfl rfl rfl ?_
    refine Wl.nil ?_
    exact Wx.reach (.cons rfl (.skip rfl (.skip rfl (.skip rfl (.skip rfl (.skip rfl (.same rfl (by rw [hg9]) (.refl _))))))))
  · intro hg9
    refine Wl.guardYes rfl rfl ?_
    refine Wl.loadOA ty24 rfl (by repeat (first | exact .here | apply Has.there)) rfl rfl ?_
    refine Wl.guardYes rfl rfl ?_
    refine Wl.loadOA ty24 rfl (by repeat (first | exact .here | apply Has.there)) rfl rfl ?_
    refine Wl.guardYes rfl rfl ?_
    refine Wl.callV rfl rfl rfl (SamePart_spec _ _ X X h2 hx2 hy (by omega) (by omega)) ?_
    refine Wl.guardYes rfl rfl ?_
    refine Wl.not rfl rfl ?_
    refine Wl.pickF rfl rfl rfl ?_
    refine Wl.nil ?_
    exact Wx.reach (.cons rfl (.skip rfl (.skip rfl (.skip rfl (.skip rfl (.skip rfl (.same rfl (by rw [hg9]) (.refl _))))))))
  refine Wl.move rfl rfl ?_
  apply Wl.orB (l1 := [_, _, _, _, _, _, _, _]) (i := 85) (d := 93)
  · rfl
  · intro hg10
    refine Wl.guardNo rfl rfl rfl rfl ?_
    refine Wl.guardNo rfl rfl rfl rfl ?_
    refine Wl.guardNo rfl rfl rfl rfl ?_
    refine Wl.guardNo rfl rfl rfl rfl ?_
    refine Wl.guardNo rfl rfl rfl rfl ?_
    refine Wl.guardNo rfl rfl rfl rfl ?_
    refine Wl.guardNo rfl rfl rfl rfl ?_
    refine Wl.pickT rfl rfl rfl ?_
    refine Wl.nil ?_
    exact Wx.reach (.cons rfl (.skip rfl (.skip rfl (.skip rfl (.skip rfl (.skip rfl (.skip rfl (.skip rfl (.skip rfl (.same rfl (by rw [hg10]) (.refl _)))))))))))
  · intro hg10
    refine Wl.guardYes rfl rfl ?_
    refine Wl.field fd24_0 rfl rfl ?_
    refine Wl.guardYes rfl rfl ?_
    refine Wl.loadO ty22 rfl (by repeat (first | exact .here | apply Has.there)) rfl rfl ?_
    refine Wl.guardYes rfl rfl ?_
    refine Wl.slLen Tryz.underlying22 rfl rfl ?_
    refine Wl.guardYes rfl rfl ?_
    refine Wl.field fd24_0 rfl rfl ?_
    refine Wl.guardYes rfl rfl ?_
    refine Wl.loadO ty22 rfl (by repeat (first | exact .here | apply Has.there)) rfl rfl ?_
    refine Wl.guardYes rfl rfl ?_
    refine Wl.slLen Tryz.underlying22 rfl rfl ?_
    refine Wl.guardYes rfl rfl ?_
    refine Wl.iGtr rfl rfl rfl ?_
    refine Wl.pickF rfl rfl rfl ?_
    refine Wl.nil ?_
    exact Wx.reach (.cons rfl (.skip rfl (.skip rfl (.skip rfl (.skip rfl (.skip rfl (.skip rfl (.skip rfl (.skip rfl (.same rfl (by rw [hg10]) (.refl _)))))))))))
  refine Wl.nil ?_
  refine Wx.then_code ?_
  refine Wc.condS rfl (fun hc11 => ?_) (fun hc11 => ?_)
  refine Wc.seq ?_
  refine Wc.region ?_
  refine Wl.assign rfl rfl ?_
  refine Wl.nil ?_
  refine Wx.then_code ?_
  refine Wc.ret ?_
  refine Wx.then_ret ?_
  · have : sameB X X = true := decide_eq_true rfl
    have h3 : decide ((a.length : Int) < X.length) = false := by have := core.len; simp; omega
    rw [this, h3] at hc11
    exact absurd hc11 (by decide)
  refine Wc.skip ?_
  refine Wx.then_code ?_
  refine Wc.seq ?_
  refine Wc.seq ?_
  refine Wc.region ?_
  refine Wl.assign rfl rfl ?_
  refine Wl.nil ?_
  refine Wx.then_code ?_
  refine Wc.block ?_
  refine Wc.loop (ι := Nat × Ghost) (fun x => x.1 ≤ X.length ∧ h2.le x.2) (fun x => [(1, .slice ot ts.length ct), (2, .pointer (some ⟨b1, 0, none⟩)), (5, .pointer (some ⟨b2, 0, none⟩)), (13, .int .i64 x.1)]) (fun x => x.2) (fun _ => _) (fun x => X.length - x.1) (0, h2)
    ⟨Nat.zero_le _, Ghost.le.refl _⟩ (.cons rfl (.cons rfl (.cons rfl (.cons rfl (.nil _))))) rfl rfl fun ⟨i, g3⟩ ⟨hi, hg3⟩ => ?_
  dsimp only at hi hg3
  refine Wc.seq ?_
  refine Wc.seq ?_
  refine Wc.region ?_
  refine Wl.move rfl rfl ?_
  refine Wl.field fd24_0 rfl rfl ?_
  refine Wl.loadO ty22 rfl (by repeat (first | exact .here | apply Has.there)) rfl rfl ?_
  refine Wl.slLen Tryz.underlying22 rfl rfl ?_
  refine Wl.iLss rfl rfl rfl ?_
  refine Wl.nil ?_
  refine Wx.then_code ?_
  refine Wc.condS rfl (fun hc12 => ?_) (fun hc12 => ?_)
  refine Wc.skip ?_
  refine Wx.then_code ?_
  refine Wc.seq ?_
  refine Wc.block ?_
  refine Wc.seq ?_
  refine Wc.region ?_
  refine Wl.assign rfl rfl ?_
  refine Wl.nil ?_
  refine Wx.then_code ?_
  refine Wc.seq ?_
  refine Wc.seq ?_
  refine Wc.region ?_
  refine Wl.assign rfl rfl ?_
  refine Wl.nil ?_
  refine Wx.then_code ?_
  refine Wc.block ?_
  have hlt1 : i < X.length := by have := of_decide_eq_true hc12; dsimp only at this; omega
  have hxi := List.getElem?_eq_getElem hlt1
  refine Wc.loop (ι := Nat) (fun k => k ≤ a.length) (fun k => [(1, .slice ot ts.length ct), (2, .pointer (some ⟨b1, 0, none⟩)), (5, .pointer (some ⟨b2, 0, none⟩)), (13, .int .i64 i), (14, .bool ((a.take k).any fun y => decide (y = X[i]))), (15, .int .i64 k)]) (fun _ => g3) (fun _ => _) (fun k => a.length - k) 0
    (Nat.zero_le _) (.cons rfl (.cons rfl (.cons rfl (.cons rfl (.cons rfl (.cons rfl (.nil _))))))) rfl rfl fun k hk => ?_
  refine Wc.seq ?_
  refine Wc.seq ?_
  refine Wc.region ?_
  refine Wl.move rfl rfl ?_
  refine Wl.field fd24_0 rfl rfl ?_
  refine Wl.loadO ty22 rfl (by repeat (first | exact .here | apply Has.there)) rfl rfl ?_
  refine Wl.slLen Tryz.underlying22 rfl rfl ?_
  refine Wl.iLss rfl rfl rfl ?_
  refine Wl.nil ?_
  refine Wx.then_code ?_
  refine Wc.condS rfl (fun hc13 => ?_) (fun hc13 => ?_)
  refine Wc.skip ?_
  refine Wx.then_code ?_
  refine Wc.seq ?_
  refine Wc.block ?_
  have hlt2 : k < a.length := by have := of_decide_eq_true hc13; omega
  have hak := List.getElem?_eq_getElem hlt2
  obtain ⟨xb, xo, hxo, hxe⟩ := hx2.at (by omega)
  obtain ⟨ab, ao, hao, hae⟩ := ha2.at (by omega)
  subst hxo hao
  have hcx2 : Seg g3 xb (xo + i * 6) X[i].enc := by
    obtain ⟨vs, e, _, hs⟩ := hxe i _ hxi; exact e ▸ hs.mono hg3
  have hca2 : Seg g3 ab (ao + k * 6) a[k].enc := by
    obtain ⟨vs, e, _, hs⟩ := hae k _ hak; exact e ▸ hs.mono hg3
  have hstep : (a.take (k + 1)).any (fun y => decide (y = X[i])) = ((a.take k).any (fun y => decide (y = X[i])) || decide (a[k] = X[i])) := by
    rw [List.take_add_one, hak, List.any_append]; simp
  by_cases hmet : (a.take k).any (fun y => decide (y = X[i])) = true
  · rw [hmet, Bool.true_or] at hstep
    rw [hmet]
    apply Wc.draw (m := 14) (D := [[], [0], [1], [1, 2], [1], [1, 3, 4], [1, 5], [1], [1, 7], [1], [1, 8, 9], [1, 10], [1, 6, 11], [1, 12]]) (Ys := [.det _, .det _, .det _, .det _, .det _, .det _, .det _, .det _, .det _, .det _, .det _, .det _, .det _, .det _])
    · exact follows
    · kernel_rfl
    · rfl
    · rfl
    · rfl
    · skip
      apply Locs.mk
      · intro env K' h' S' hs hd hl hY
        refine Wl.move (hs _ _ rfl) rfl ?_
        refine Wl.nil ?_
        exact Wx.gives0 _ (Ghost.le.refl _) ⟨rfl, rfl⟩ (Sub.refl _)
      apply Locs.mk
      · intro env K' h' S' hs hd hl hY
        refine Wl.move (detL (hd 0 (by decide)) (hY 0 (by decide))) rfl ?_
        refine Wl.nil ?_
        exact Wx.gives0 _ (Ghost.le.refl _) ⟨rfl, rfl⟩ (Sub.refl _)
      apply Locs.mk
      · intro env K' h' S' hs hd hl hY
        refine Wl.guardNo rfl (detL (hd 1 (by decide)) (hY 1 (by decide))) rfl rfl ?_
        refine Wl.nil ?_
        exact Wx.gives0 _ (Ghost.le.refl _) ⟨rfl, rfl⟩ (Sub.refl _)
      apply Locs.mk
      · intro env K' h' S' hs hd hl hY
        refine Wl.guardNo rfl (detL (hd 1 (by decide)) (hY 1 (by decide))) rfl rfl ?_
        refine Wl.nil ?_
        exact Wx.gives0 _ (Ghost.le.refl _) ⟨rfl, rfl⟩ (Sub.refl _)
      apply Locs.mk
      · intro env K' h' S' hs hd hl hY
        refine Wl.guardNo rfl (detL (hd 1 (by decide)) (hY 1 (by decide))) rfl rfl ?_
        refine Wl.nil ?_
        exact Wx.gives0 _ (Ghost.le.refl _) ⟨rfl, rfl⟩ (Sub.refl _)
      apply Locs.mk
      · intro env K' h' S' hs hd hl hY
        refine Wl.guardNo rfl (detL (hd 1 (by decide)) (hY 1 (by decide))) rfl rfl ?_
        refine Wl.nil ?_
        exact Wx.gives0 _ (Ghost.le.refl _) ⟨rfl, rfl⟩ (Sub.refl _)
      apply Locs.mk
      · intro env K' h' S' hs hd hl hY
        refine Wl.guardNo rfl (detL (hd 1 (by decide)) (hY 1 (by decide))) rfl rfl ?_
        refine Wl.nil ?_
        exact Wx.gives0 _ (Ghost.le.refl _) ⟨rfl, rfl⟩ (Sub.refl _)
      apply Locs.mk
      · intro env K' h' S' hs hd hl hY
        refine Wl.guardNo rfl (detL (hd 1 (by decide)) (hY 1 (by decide))) rfl rfl ?_
        refine Wl.nil ?_
        exact Wx.gives0 _ (Ghost.le.refl _) ⟨rfl, rfl⟩ (Sub.refl _)
      apply Locs.mk
      · intro env K' h' S' hs hd hl hY
        refine Wl.guardNo rfl (detL (hd 1 (by decide)) (hY 1 (by decide))) rfl rfl ?_
        refine Wl.nil ?_
        exact Wx.gives0 _ (Ghost.le.refl _) ⟨rfl, rfl⟩ (Sub.refl _)
      apply Locs.mk
      · intro env K' h' S' hs hd hl hY
        refine Wl.guardNo rfl (detL (hd 1 (by decide)) (hY 1 (by decide))) rfl rfl ?_
        refine Wl.nil ?_
        exact Wx.gives0 _ (Ghost.le.refl _) ⟨rfl, rfl⟩ (Sub.refl _)
      apply Locs.mk
      · intro env K' h' S' hs hd hl hY
        refine Wl.guardNo rfl (detL (hd 1 (by decide)) (hY 1 (by decide))) rfl rfl ?_
        refine Wl.nil ?_
        exact Wx.gives0 _ (Ghost.le.refl _) ⟨rfl, rfl⟩ (Sub.refl _)
      apply Locs.mk
      · intro env K' h' S' hs hd hl hY
        refine Wl.guardNo rfl (detL (hd 1 (by decide)) (hY 1 (by decide))) rfl rfl ?_
        refine Wl.nil ?_
        exact Wx.gives0 _ (Ghost.le.refl _) ⟨rfl, rfl⟩ (Sub.refl _)
      apply Locs.mk
      · intro env K' h' S' hs hd hl hY
        refine Wl.guardNo rfl (detL (hd 1 (by decide)) (hY 1 (by decide))) rfl rfl ?_
        refine Wl.nil ?_
        exact Wx.gives0 _ (Ghost.le.refl _) ⟨rfl, rfl⟩ (Sub.refl _)
      apply Locs.mk
      · intro env K' h' S' hs hd hl hY
        refine Wl.pickT (detL (hd 1 (by decide)) (hY 1 (by decide))) rfl rfl ?_
        refine Wl.nil ?_
        exact Wx.gives0 _ (Ghost.le.refl _) ⟨rfl, rfl⟩ (Sub.refl _)
      trivial
    · exact ⟨trivial, trivial, trivial, trivial, trivial, trivial, trivial, trivial, trivial, trivial, trivial, trivial, trivial, trivial, trivial⟩
    intro h' hl'
    show Wl _ _ _ [_] _ ((121, _) :: (120, _) :: (119, _) :: (118, _) :: (117, _) :: (116, _) :: (115, _) :: (114, _) :: (113, _) :: (112, _) :: (111, _) :: (110, _) :: (109, _) :: (108, _) :: _) _ _ _
    refine Wl.assign rfl rfl ?_
    refine Wl.nil ?_
    refine Wx.block_normal ?_
    refine Wx.then_code ?_
    refine Wc.region ?_
    refine Wl.move rfl rfl ?_
    refine Wl.inc rfl rfl (by first | assumption | omega | (have hx := of_decide_eq_true hc13; omega) | (have hx := of_decide_eq_true hc12; omega) | (have hx := of_decide_eq_true hc11; omega) | (have hx := of_decide_eq_true hc4; omega)) ?_
    refine Wl.assign rfl rfl ?_
    refine Wl.nil ?_
    exact Wx.weak hl' (Wx.again (k + 1) hlt2 (by omega) (.cons rfl (.cons rfl (.cons rfl (.cons rfl (.cons (show some _ = some (Value.bool ((a.take (k + 1)).any fun y => decide (y = X[i]))) by rw [hstep]) (.cons rfl (.nil _))))))) rfl .refl)
  · have hmet : (a.take k).any (fun y => decide (y = X[i])) = false := Bool.eq_false_iff.2 hmet
    rw [hmet, Bool.false_or] at hstep
    rw [hmet]
    apply Wc.draw (m := 14) (D := [[], [0], [1], [1, 2], [1], [1, 3, 4], [1, 5], [1], [1, 7], [1], [1, 8, 9], [1, 10], [1, 6, 11], [1, 12]]) (Ys := [.det _, .det _, .det _, .det (.slice (some ⟨ab, ao, none⟩) a.length ca), .det _, .det (.pointer (some ⟨ab, ao + k * 6, none⟩)), .det (.agg a[k].enc.toArray), .det _, .det (.slice (some ⟨xb, xo, none⟩) X.length cx), .det _, .det (.pointer (some ⟨xb, xo + i * 6, none⟩)), .det (.agg X[i].enc.toArray), .det (.bool (decide (a[k] = X[i]))), .det _])
    · exact follows
    · kernel_rfl
    · rfl
    · rfl
    · rfl
    · skip
      apply Locs.mk
      · intro env K' h' S' hs hd hl hY
        refine Wl.move (hs _ _ rfl) rfl ?_
        refine Wl.nil ?_
        exact Wx.gives0 _ (Ghost.le.refl _) ⟨rfl, rfl⟩ (Sub.refl _)
      apply Locs.mk
      · intro env K' h' S' hs hd hl hY
        refine Wl.move (detL (hd 0 (by decide)) (hY 0 (by decide))) rfl ?_
        refine Wl.nil ?_
        exact Wx.gives0 _ (Ghost.le.refl _) ⟨rfl, rfl⟩ (Sub.refl _)
      apply Locs.mk
      · intro env K' h' S' hs hd hl hY
        refine Wl.guardYes rfl (detL (hd 1 (by decide)) (hY 1 (by decide))) ?_
        refine Wl.field fd24_0 (hs _ _ rfl) rfl ?_
        refine Wl.nil ?_
        exact Wx.gives0 _ (Ghost.le.refl _) ⟨rfl, rfl⟩ (Sub.refl _)
      apply Locs.mk
      · intro env K' h' S' hs hd hl hY
        refine Wl.guardYes rfl (detL (hd 1 (by decide)) (hY 1 (by decide))) ?_
        refine Wl.loadO ty22 (detL (hd 2 (by decide)) (hY 2 (by decide))) (Has.right (by repeat (first | exact .here | apply Has.there))) rfl rfl ?_
        refine Wl.nil ?_
        exact Wx.gives0 _ (Ghost.le.refl _) ⟨rfl, rfl⟩ (Sub.refl _)
      apply Locs.mk
      · intro env K' h' S' hs hd hl hY
        refine Wl.guardYes rfl (detL (hd 1 (by decide)) (hY 1 (by decide))) ?_
        refine Wl.move (hs _ _ rfl) rfl ?_
        refine Wl.nil ?_
        exact Wx.gives0 _ (Ghost.le.refl _) ⟨rfl, rfl⟩ (Sub.refl _)
      apply Locs.mk
      · intro env K' h' S' hs hd hl hY
        refine Wl.guardYes rfl (detL (hd 1 (by decide)) (hY 1 (by decide))) ?_
        refine Wl.elem (j := k) sl22 (detL (hd 3 (by decide)) (hY 3 (by decide))) (detL (hd 4 (by decide)) (hY 4 (by decide))) rfl hlt2 rfl ?_
        refine Wl.nil ?_
        exact Wx.gives0 _ (Ghost.le.refl _) ⟨rfl, rfl⟩ (Sub.refl _)
      apply Locs.mk
      · intro env K' h' S' hs hd hl hY
        refine Wl.guardYes rfl (detL (hd 1 (by decide)) (hY 1 (by decide))) ?_
        refine Wl.loadGA ty37 (detL (hd 5 (by decide)) (hY 5 (by decide))) (hca2.mono hl) rfl rfl ?_
        refine Wl.nil ?_
        exact Wx.gives0 _ (Ghost.le.refl _) ⟨rfl, rfl⟩ (Sub.refl _)
      apply Locs.mk
      · intro env K' h' S' hs hd hl hY
        refine Wl.guardYes rfl (detL (hd 1 (by decide)) (hY 1 (by decide))) ?_
        refine Wl.field fd24_0 (hs _ _ rfl) rfl ?_
        refine Wl.nil ?_
        exact Wx.gives0 _ (Ghost.le.refl _) ⟨rfl, rfl⟩ (Sub.refl _)
      apply Locs.mk
      · intro env K' h' S' hs hd hl hY
        refine Wl.guardYes rfl (detL (hd 1 (by decide)) (hY 1 (by decide))) ?_
        refine Wl.loadO ty22 (detL (hd 7 (by decide)) (hY 7 (by decide))) (Has.right (by repeat (first | exact .here | apply Has.there))) rfl rfl ?_
        refine Wl.nil ?_
        exact Wx.gives0 _ (Ghost.le.refl _) ⟨rfl, rfl⟩ (Sub.refl _)
      apply Locs.mk
      · intro env K' h' S' hs hd hl hY
        refine Wl.guardYes rfl (detL (hd 1 (by decide)) (hY 1 (by decide))) ?_
        refine Wl.move (hs _ _ rfl) rfl ?_
        refine Wl.nil ?_
        exact Wx.gives0 _ (Ghost.le.refl _) ⟨rfl, rfl⟩ (Sub.refl _)
      apply Locs.mk
      · intro env K' h' S' hs hd hl hY
        refine Wl.guardYes rfl (detL (hd 1 (by decide)) (hY 1 (by decide))) ?_
        refine Wl.elem (j := i) sl22 (detL (hd 8 (by decide)) (hY 8 (by decide))) (detL (hd 9 (by decide)) (hY 9 (by decide))) rfl hlt1 rfl ?_
        refine Wl.nil ?_
        exact Wx.gives0 _ (Ghost.le.refl _) ⟨rfl, rfl⟩ (Sub.refl _)
      apply Locs.mk
      · intro env K' h' S' hs hd hl hY
        refine Wl.guardYes rfl (detL (hd 1 (by decide)) (hY 1 (by decide))) ?_
        refine Wl.loadGA ty37 (detL (hd 10 (by decide)) (hY 10 (by decide))) (hcx2.mono hl) rfl rfl ?_
        refine Wl.nil ?_
        exact Wx.gives0 _ (Ghost.le.refl _) ⟨rfl, rfl⟩ (Sub.refl _)
      apply Locs.mk
      · intro env K' h' S' hs hd hl hY
        refine Wl.guardYes rfl (detL (hd 1 (by decide)) (hY 1 (by decide))) ?_
        refine Wl.aEql a[k] X[i] eqAtom (detL (hd 6 (by decide)) (hY 6 (by decide))) (detL (hd 11 (by decide)) (hY 11 (by decide))) rfl ?_
        refine Wl.nil ?_
        exact Wx.gives0 _ (Ghost.le.refl _) ⟨rfl, rfl⟩ (Sub.refl _)
      apply Locs.mk
      · intro env K' h' S' hs hd hl hY
        refine Wl.pickF (detL (hd 1 (by decide)) (hY 1 (by decide))) (detL (hd 12 (by decide)) (hY 12 (by decide))) rfl ?_
        refine Wl.nil ?_
        exact Wx.gives0 _ (Ghost.le.refl _) ⟨rfl, rfl⟩ (Sub.refl _)
      trivial
    · exact ⟨trivial, trivial, trivial, trivial, trivial, trivial, trivial, trivial, trivial, trivial, trivial, trivial, trivial, trivial, trivial⟩
    intro h' hl'
    show Wl _ _ _ [_] _ ((121, _) :: (120, _) :: (119, _) :: (118, _) :: (117, _) :: (116, _) :: (115, _) :: (114, _) :: (113, _) :: (112, _) :: (111, _) :: (110, _) :: (109, _) :: (108, _) :: _) _ _ _
    refine Wl.assign rfl rfl ?_
    refine Wl.nil ?_
    refine Wx.block_normal ?_
    refine Wx.then_code ?_
    refine Wc.region ?_
    refine Wl.move rfl rfl ?_
    refine Wl.inc rfl rfl (by first | assumption | omega | (have hx := of_decide_eq_true hc13; omega) | (have hx := of_decide_eq_true hc12; omega) | (have hx := of_decide_eq_true hc11; omega) | (have hx := of_decide_eq_true hc4; omega)) ?_
    refine Wl.assign rfl rfl ?_
    refine Wl.nil ?_
    exact Wx.weak hl' (Wx.again (k + 1) hlt2 (by omega) (.cons rfl (.cons rfl (.cons rfl (.cons rfl (.cons (show some _ = some (Value.bool ((a.take (k + 1)).any fun y => decide (y = X[i]))) by rw [hstep]) (.cons rfl (.nil _))))))) rfl .refl)
  refine Wc.exit ?_
  refine Wx.then_exit ?_
  refine Wx.then_exit ?_
  refine Wx.block_exit ?_
  refine Wx.then_code ?_
  refine Wc.seq ?_
  have hk' : k = a.length := by have := of_decide_eq_false hc13; omega
  have hmet : (a.take k).any (fun y => decide (y = X[i])) = true := by
    rw [hk', List.take_length]
    exact List.any_eq_true.2 ⟨X[i], core.mem _ (List.getElem_mem hlt1), decide_eq_true rfl⟩
  rw [hmet]
  have hx3 := hx2.mono hg3
  apply Wc.drawU (m := 14) (D := [[], [], [1], [], [2, 3], [0, 4], [], [6], [], [8], [7, 9], [5, 10], [11], []]) (U := [[], [], [], [], [], [0], [], [], [], [], [], [5], [], []]) (Ys := [.gone (fun _ v F _ => Row F v 37 6 0 [] ∧ ∃ b, v = .slice (some ⟨b, 0, none⟩) 0 0), .det _, .det (.slice ox X.length cx), .det _, .det (.slice ox i cx), .gone (fun _ v F _ => Row F v 37 6 i ((X.take i).flatMap Atom.enc)), .det _, .det (.slice ox X.length cx), .det _, .det _, .det (.slice (if cx = i + 1 then ox else ox.map (·.add ((i + 1) * 6))) (X.length - (i + 1)) (cx - (i + 1))), .rel (fun _ v F _ => Row F v 37 6 (i + (X.length - (i + 1))) ((X.eraseIdx i).flatMap Atom.enc)), .rel (fun env v F _ => F = [] ∧ v = .agg #[env 11]), .rel (NewY 24 _)])
  · exact follows
  · kernel_rfl
  · kernel_rfl
  · rfl
  · rfl
  · rfl
  · rfl
  · skip
    apply Locs.mk
    · intro env K' h' S' hs hd hl hY
      refine Wl.buildSlice0 sl22 rfl (fun b0 => ?_)
      refine Wl.nil ?_
      exact Wx.gives _ _ (Ghost.le.refl _) ⟨⟨rfl, .inr ⟨b0, 0, [], rfl, rfl, Nat.le_refl _, rfl⟩⟩, b0, rfl⟩ (Sub.refl _)
    apply Locs.mk
    · intro env K' h' S' hs hd hl hY
      refine Wl.field fd24_0 (hs _ _ rfl) rfl ?_
      refine Wl.nil ?_
      exact Wx.gives0 _ (Ghost.le.refl _) ⟨rfl, rfl⟩ (Sub.refl _)
    apply Locs.mk
    · intro env K' h' S' hs hd hl hY
      refine Wl.loadO ty22 (detL (hd 1 (by decide)) (hY 1 (by decide))) (Has.right (by repeat (first | exact .here | apply Has.there))) rfl rfl ?_
      refine Wl.nil ?_
      exact Wx.gives0 _ (Ghost.le.refl _) ⟨rfl, rfl⟩ (Sub.refl _)
    apply Locs.mk
    · intro env K' h' S' hs hd hl hY
      refine Wl.move (hs _ _ rfl) rfl ?_
      refine Wl.nil ?_
      exact Wx.gives0 _ (Ghost.le.refl _) ⟨rfl, rfl⟩ (Sub.refl _)
    apply Locs.mk
    · intro env K' h' S' hs hd hl hY
      refine Wl.sliceHi sl22 (detL (hd 2 (by decide)) (hY 2 (by decide))) (detL (hd 3 (by decide)) (hY 3 (by decide))) rfl (by omega) rfl ?_
      refine Wl.nil ?_
      exact Wx.gives0 _ (Ghost.le.refl _) ⟨rfl, rfl⟩ (Sub.refl _)
    apply Locs.mk
    · intro env K' h' S' φ hs hd hl hY hU
      have y0 := hU 0 (by decide); have e0 := hd 0 (by decide)
      refine Wl.append (F := φ 0) [] _ ((X.take i).flatMap Atom.enc) sl22 e0 (detL (hd 4 (by decide)) (hY 4 (by decide) (by decide))) rfl y0.1 rfl (by rw [flat_len, List.length_take]; omega) (srcAtoms (Sl.take (hx3.mono hl) (by omega))) (flatA_one _) (by omega) (by omega) fun v' F' hrow => ?_
      refine Wl.nil ?_
      exact Wx.gives _ F' (Ghost.le.refl _) (by rw [Nat.zero_add, List.nil_append] at hrow; exact hrow) (Sub.refl _)
    apply Locs.mk
    · intro env K' h' S' hs hd hl hY
      refine Wl.field fd24_0 (hs _ _ rfl) rfl ?_
      refine Wl.nil ?_
      exact Wx.gives0 _ (Ghost.le.refl _) ⟨rfl, rfl⟩ (Sub.refl _)
    apply Locs.mk
    · intro env K' h' S' hs hd hl hY
      refine Wl.loadO ty22 (detL (hd 6 (by decide)) (hY 6 (by decide))) (Has.right (by repeat (first | exact .here | apply Has.there))) rfl rfl ?_
      refine Wl.nil ?_
      exact Wx.gives0 _ (Ghost.le.refl _) ⟨rfl, rfl⟩ (Sub.refl _)
    apply Locs.mk
    · intro env K' h' S' hs hd hl hY
      refine Wl.move (hs _ _ rfl) rfl ?_
      refine Wl.nil ?_
      exact Wx.gives0 _ (Ghost.le.refl _) ⟨rfl, rfl⟩ (Sub.refl _)
    apply Locs.mk
    · intro env K' h' S' hs hd hl hY
      refine Wl.inc (detL (hd 8 (by decide)) (hY 8 (by decide))) rfl (by first | assumption | omega | (have hx := of_decide_eq_true hc13; omega) | (have hx := of_decide_eq_true hc12; omega) | (have hx := of_decide_eq_true hc11; omega) | (have hx := of_decide_eq_true hc4; omega)) ?_
      refine Wl.nil ?_
      exact Wx.gives0 _ (Ghost.le.refl _) ⟨rfl, rfl⟩ (Sub.refl _)
    apply Locs.mk
    · intro env K' h' S' hs hd hl hY
      refine Wl.sliceLo (lo := i + 1) sl22 (detL (hd 7 (by decide)) (hY 7 (by decide))) (detL (hd 9 (by decide)) (hY 9 (by decide))) rfl (by omega) rfl ?_
      refine Wl.nil ?_
      exact Wx.gives0 _ (Ghost.le.refl _) ⟨rfl, rfl⟩ (Sub.refl _)
    apply Locs.mk
    · intro env K' h' S' φ hs hd hl hY hU
      have y5 := hU 5 (by decide); have e5 := hd 5 (by decide)
      refine Wl.append (F := φ 5) [] _ ((X.drop (i + 1)).flatMap Atom.enc) sl22 e5 (detL (hd 10 (by decide)) (hY 10 (by decide) (by decide))) rfl y5 rfl (by rw [flat_len, List.length_drop]) (srcAtoms (Sl.from (hx3.mono hl) (by omega))) (flatA_one _) (by omega) (by omega) fun v' F' hrow => ?_
      refine Wl.nil ?_
      exact Wx.gives _ F' (Ghost.le.refl _) (by rw [← List.flatMap_append, ← List.eraseIdx_eq_take_drop_succ] at hrow; exact hrow) (Sub.refl _)
    apply Locs.mk
    · intro env K' h' S' hs hd hl hY
      obtain ⟨F11, y11⟩ := hY 11 (by decide); have e11 := hd 11 (by decide)
      obtain ⟨o11, c11, hv11⟩ := Row.shape y11
      rw [hv11] at e11
      refine Wl.callV rfl (evs1 e11) rfl (part_spec _ _ _ _) ?_
      refine Wl.nil ?_
      exact Wx.gives0 _ (Ghost.le.refl _) ⟨rfl, show _ = Value.agg #[env 11] by rw [hv11]⟩ (Sub.refl _)
    apply Locs.mk
    · intro env K' h' S' hs hd hl hY
      refine Wl.alloc ty24 rfl rfl (fun b4 => ?_)
      refine Wl.nil ?_
      exact Wx.gives _ _ (Ghost.le.refl _) ⟨_, rfl, rfl⟩ (Sub.refl _)
    trivial
  · exact ⟨(fun _ _ _ _ _ _ H => H), trivial, trivial, trivial, trivial, (fun _ _ _ _ _ _ H => H), trivial, trivial, trivial, trivial, trivial, (fun _ _ _ _ _ _ H => H), (fun _ _ _ _ _ _ H => H), NewY.mono, trivial⟩
  intro h' hl'
  intro v0
  intro v5
  intro v11 F11 y11
  intro v12 F12 y12
  refine NewY.all fun b5 => ?_
  show Wl _ _ _ [_] _ ((16, _) :: (134, _) :: (133, _) :: (132, _) :: (131, _) :: (130, _) :: (129, _) :: (128, _) :: (127, _) :: (126, _) :: (125, _) :: (124, _) :: (123, _) :: (122, _) :: _) _ _ _
  obtain ⟨o6, c6, rfl⟩ := Row.shape y11
  obtain ⟨rfl, hv7⟩ := y12
  have hv7 : v12 = .agg #[.slice o6 (i + (X.length - (i + 1))) c6] := hv7
  subst hv7
  refine Wl.storeA ty24 rfl rfl (by rfl) (by repeat (first | exact .here | apply Upd.there)) (by rfl) (by rfl) (by rfl) ?_
  refine Wl.nil ?_
  refine Wx.then_code ?_
  refine Wc.seq ?_
  refine Wc.region ?_
  refine Wl.loadOA ty24 rfl (by repeat (first | exact .here | apply Has.there)) rfl rfl ?_
  refine Wl.loadOA ty24 rfl (by repeat (first | exact .here | apply Has.there)) rfl rfl ?_
  refine Wl.move rfl rfl ?_
  have hel : (X.eraseIdx i).length = X.length - 1 := List.length_eraseIdx_of_lt hlt1
  refine Wl.freezeBut [] _ [_, F11] _ rfl fun h4 hl4 hF => ?_
  have hg4 := hl'.trans hl4
  have hless : Atoms h4 (.slice o6 (i + (X.length - (i + 1))) c6) (X.eraseIdx i) := Row.sl (fun _ => rfl) y11 (by omega) fun p hp => hF p (by simp [hp])
  refine Wl.callV rfl rfl rfl (Part_spec _ _ _ ts (X.eraseIdx i) X h4 hless (hx3.mono hg4) ((ht2.mono hg3).mono hg4) (by omega) (by omega) (by omega) ((g2.mono hg3).mono hg4)) ?_
  refine Wl.move rfl rfl ?_
  refine Wl.extract rfl rfl rfl ?_
  refine Wl.extract rfl rfl rfl ?_
  refine Wl.assign rfl rfl ?_
  refine Wl.assign rfl rfl ?_
  refine Wl.nil ?_
  refine Wx.then_code ?_
  refine Wc.seq ?_
  refine Wc.region ?_
  refine Wl.move rfl rfl ?_
  refine Wl.not rfl rfl ?_
  refine Wl.move rfl rfl ?_
  apply Wl.orB (l1 := [_, _, _, _, _, _]) (i := 144) (d := 150)
  · rfl
  · intro hg14
    refine Wl.guardNo rfl rfl rfl rfl ?_
    refine Wl.guardNo rfl rfl rfl rfl ?_
    refine Wl.guardNo rfl rfl rfl rfl ?_
    refine Wl.guardUndef rfl rfl rfl ?_
    refine Wl.guardNo rfl rfl rfl rfl ?_
    refine Wl.pickT rfl rfl rfl ?_
    refine Wl.nil ?_
    exact Wx.reach (.cons rfl (.skip rfl (.skip rfl (.skip rfl (.skip rfl (.skip rfl (.skip rfl (.same rfl (by rw [hg14]) (.refl _)))))))))
  · intro hg14
    refine Wl.guardYes rfl rfl ?_
    refine Wl.move rfl rfl ?_
    refine Wl.guardYes rfl rfl ?_
    refine Wl.iEql rfl rfl rfl ?_
    refine Wl.guardYes rfl rfl ?_
    refine Wl.move rfl rfl ?_
    apply Wl.andB (l1 := [_, _]) (i := 147) (d := 149)
    · rfl
    · intro hg15
      refine Wl.guardYes rfl rfl ?_
      refine Wl.move rfl rfl ?_
      refine Wl.guardYes rfl rfl ?_
      refine Wl.pickT rfl rfl rfl ?_
      refine Wl.nil ?_
      exact Wx.reach (.cons rfl (.skip rfl (.skip rfl (.same rfl (by rw [hg15]) (.refl _)))))
    · intro hg15
      refine Wl.guardNo rfl rfl rfl rfl ?_
      refine Wl.guardYes rfl rfl ?_
      refine Wl.pickF rfl rfl rfl ?_
      refine Wl.nil ?_
      exact Wx.reach (.cons rfl (.skip rfl (.skip rfl (.same rfl (by rw [hg15]) (.refl _)))))
    refine Wl.pickF rfl rfl rfl ?_
    refine Wl.nil ?_
    exact Wx.reach (.cons rfl (.skip rfl (.skip rfl (.skip rfl (.skip rfl (.skip rfl (.same rfl (by rw [hg14]) (.refl _))))))))
  refine Wl.nil ?_
  refine Wx.then_code ?_
  refine Wc.condS rfl (fun hc16 => ?_) (fun hc16 => ?_)
  refine Wc.seq ?_
  refine Wc.region ?_
  refine Wl.assign rfl rfl ?_
  refine Wl.nil ?_
  refine Wx.then_code ?_
  refine Wc.ret ?_
  refine Wx.block_ret ?_
  refine Wx.then_ret ?_
  refine Wx.then_ret ?_
  refine Wx.block_ret ?_
  refine Wx.then_ret ?_
  · have hT : (partE ts (X.eraseIdx i) X == 0 && partB ts (X.eraseIdx i) X) = false := by
      by_cases h : partE ts (X.eraseIdx i) X = 0
      · rw [core_tight2 hX hxi h, Bool.and_false]
      · have : (partE ts (X.eraseIdx i) X == 0) = false := by simpa using h
        rw [this, Bool.false_and]
    exact absurd (hc16.symm.trans (show _ = false by rw [hT]; rfl)) (by decide)
  refine Wc.skip ?_
  refine Wx.block_normal ?_
  refine Wx.then_code ?_
  refine Wc.region ?_
  refine Wl.move rfl rfl ?_
  refine Wl.inc rfl rfl (by first | assumption | omega | (have hx := of_decide_eq_true hc16; omega) | (have hx := of_decide_eq_true hc13; omega) | (have hx := of_decide_eq_true hc12; omega) | (have hx := of_decide_eq_true hc11; omega)) ?_
  refine Wl.assign rfl rfl ?_
  refine Wl.nil ?_
  · exact Wx.again (i + 1, h4) ⟨hlt1, hg3.trans hg4⟩ (show X.length - (i + 1) < X.length - i by omega) (.cons rfl (.cons rfl (.cons rfl (.cons rfl (.nil _))))) rfl (.skip .refl)
  refine Wc.exit ?_
  refine Wx.then_exit ?_
  refine Wx.then_exit ?_
  refine Wx.block_exit ?_
  refine Wx.then_code ?_
  refine Wc.seq ?_
  refine Wc.region ?_
  refine Wl.assign rfl rfl ?_
  refine Wl.nil ?_
  refine Wx.then_code ?_
  refine Wc.ret ?_
  exact endV .ret (.inl rfl) rfl rfl [_, _, _] (hl12.trans hg3) rfl
end Go.Proofs.YtgpmjggdloldnaaGreatDoor
