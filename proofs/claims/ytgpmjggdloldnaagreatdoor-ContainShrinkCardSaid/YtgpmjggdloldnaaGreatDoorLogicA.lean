/-
  Contracts and plain lemmas, joined: SxA, SxB, SxC, SxD, SxE, SxF
-/
import Derived.WalkKit
import Derived.Below
import Derived.Deep.Draws
namespace Go.Sx
open Go

/-- What is known of the slots: the first entry of a slot counts. -/
def get : List (Nat × Value) → Nat → Option Value
  | [], _ => none
  | (i, v) :: r, j => bif Nat.beq i j then some v else get r j

/-- An operand's value. -/
def ev (K : List (Nat × Value)) : Operand → Option Value
  | .tmp t => get K t
  | .const v => some v
  | .global g => some (.pointer (some ⟨g, 0, none⟩))
  | .func f => some (.func (.func f) #[] #[])

def evs (K : List (Nat × Value)) : List Operand → Option (List Value)
  | [] => some []
  | x :: r => match ev K x, evs K r with
    | some v, some vs => some (v :: vs)
    | _, _ => none

/-- Memory that stays as it is. -/
abbrev Ghost := Nat → Option Obj
/-- Blocks with what they hold. -/
abbrev Frag := List (Nat × Obj)

def Ghost.le (h h' : Ghost) : Prop := ∀ b o, h b = some o → h' b = some o
theorem Ghost.le.refl (h : Ghost) : h.le h := fun _ _ e => e
theorem Ghost.le.trans {a b c : Ghost} (h : a.le b) (k : b.le c) : a.le c := fun _ _ e => k _ _ (h _ _ e)

/-- The world's memory: the ghost's blocks stand; the own blocks hold what they hold. -/
structure Heap (E : World) (h : Ghost) (S : Frag) (w : World) : Prop where
  os : w.os = E.os
  tape : w.tape = E.tape
  output : w.output = E.output
  drawn : E.drawn ≤ w.drawn
  imm : ∀ b o, h b = some o → w.heap[b]? = some o
  own : ∀ p, p ∈ S → w.heap[p.1]? = some p.2
  fresh : ∀ p, p ∈ S → h p.1 = none
  nodup : (S.map Prod.fst).Nodup

theorem Heap.drew {E : World} {h : Ghost} {S : Frag} {w : World} (H : Heap E h S w) : Heap E h S { w with drawn := w.drawn + 1 } :=
  ⟨H.os, H.tape, H.output, Nat.le_succ_of_le H.drawn, H.imm, H.own, H.fresh, H.nodup⟩

theorem Heap.perm {E : World} {h : Ghost} {S S' : Frag} {w : World} (H : Heap E h S w) (p : S.Perm S') : Heap E h S' w :=
  ⟨H.os, H.tape, H.output, H.drawn, H.imm, fun q hq => H.own q (p.mem_iff.2 hq), fun q hq => H.fresh q (p.mem_iff.2 hq), (p.map _).nodup_iff.1 H.nodup⟩

theorem Heap.drop {E : World} {h : Ghost} {F S : Frag} {w : World} (H : Heap E h (F ++ S) w) : Heap E h S w :=
  ⟨H.os, H.tape, H.output, H.drawn, H.imm, fun q hq => H.own q (List.mem_append_right _ hq), fun q hq => H.fresh q (List.mem_append_right _ hq), by
    have := H.nodup; rw [List.map_append, List.nodup_append] at this; exact this.2.1⟩

/-- Own blocks become memory that stays. -/
def Ghost.ext (h : Ghost) (F : Frag) : Ghost := fun b => match h b with
  | some o => some o
  | none => (F.find? (fun p => Nat.beq p.1 b)).map Prod.snd

theorem Ghost.le_ext (h : Ghost) (F : Frag) : h.le (h.ext F) := fun b o e => by simp [Ghost.ext, e]

theorem find_mem {F : Frag} (hn : (F.map Prod.fst).Nodup) {p : Nat × Obj} (hp : p ∈ F) : F.find? (fun q => Nat.beq q.1 p.1) = some p := by
  induction F with
  | nil => cases hp
  | cons q F ih =>
    simp only [List.map_cons, List.nodup_cons] at hn
    by_cases e : q.1 = p.1
    · rcases List.mem_cons.1 hp with rfl | hp
      · simp [List.find?]
      · exact absurd (e ▸ List.mem_map_of_mem (f := Prod.fst) hp) hn.1
    · rcases List.mem_cons.1 hp with rfl | hp
      · exact absurd rfl e
      · have hb : Nat.beq q.1 p.1 = false := by
          cases hh : Nat.beq q.1 p.1 with
          | false => rfl
          | true => exact absurd (Nat.eq_of_beq_eq_true hh) e
        simp only [List.find?, hb]; exact ih hn.2 hp

theorem Heap.freeze {E : World} {h : Ghost} {F S : Frag} {w : World} (H : Heap E h (F ++ S) w) :
    Heap E (h.ext F) S w ∧ ∀ p, p ∈ F → (h.ext F) p.1 = some p.2 := by
  have hn := H.nodup
  rw [List.map_append, List.nodup_append] at hn
  refine ⟨⟨H.os, H.tape, H.output, H.drawn, fun b o hb => ?_, fun q hq => H.own q (List.mem_append_right _ hq), fun q hq => ?_, hn.2.1⟩, fun p hp => ?_⟩
  · unfold Ghost.ext at hb
    split at hb
    · rename_i o' e; cases hb; exact H.imm b o e
    · obtain ⟨p, hp, rfl⟩ := Option.map_eq_some_iff.1 hb
      have h1 := List.mem_of_find?_eq_some hp
      have h2 : Nat.beq p.1 b = true := List.find?_some (p := fun p : Nat × Obj => Nat.beq p.1 b) hp
      rw [← Nat.eq_of_beq_eq_true h2]
      exact H.own p (List.mem_append_left _ h1)
  · have h1 := H.fresh q (List.mem_append_right _ hq)
    unfold Ghost.ext
    rw [h1]
    cases hf : F.find? (fun p => Nat.beq p.1 q.1) with
    | none => rfl
    | some p =>
      have e1 := List.mem_of_find?_eq_some hf
      have e2 := Nat.eq_of_beq_eq_true (List.find?_some (p := fun p : Nat × Obj => Nat.beq p.1 q.1) hf)
      exact absurd e2 (hn.2.2 _ (List.mem_map_of_mem (f := Prod.fst) e1) _ (List.mem_map_of_mem (f := Prod.fst) hq))
  · have h1 := H.fresh p (List.mem_append_left _ hp)
    unfold Ghost.ext
    rw [h1]
    simp [find_mem hn.1 hp]

/-- The state: slots known, memory known. -/
structure As (n : Nat) (K : List (Nat × Value)) (E : World) (h : Ghost) (S : List Frag) (a : Act) (w : World) : Prop where
  size : a.tmps.size = n
  defers : a.defers = []
  slots : ∀ i v, get K i = some v → a.tmps[i]? = some v
  heap : Heap E h S.flatten w

theorem As.ev {n : Nat} {K : List (Nat × Value)} {E : World} {h : Ghost} {S : List Frag} {a : Act} {w : World} (A : As n K E h S a w) {x : Operand} {v : Value}
    (hx : ev K x = some v) : a.eval x = v := by
  cases x with
  | tmp t => simp only [Sx.ev] at hx; have := A.slots t v hx; simp [Act.eval, Array.getD_eq_getD_getElem?, this]
  | const u => simpa [Sx.ev, Act.eval] using hx
  | global g => simpa [Sx.ev, Act.eval] using hx
  | func f => simpa [Sx.ev, Act.eval] using hx

theorem As.evs {n : Nat} {K : List (Nat × Value)} {E : World} {h : Ghost} {S : List Frag} {a : Act} {w : World} (A : As n K E h S a w) :
    ∀ {xs : List Operand} {vs : List Value}, evs K xs = some vs → xs.map a.eval = vs
  | [], vs, hx => by simpa [Sx.evs] using hx
  | x :: r, vs, hx => by
    simp only [Sx.evs] at hx
    split at hx
    · rename_i v us h1 h2
      cases hx
      rw [List.map_cons, A.ev h1, A.evs h2]
    · cases hx

theorem As.put {n : Nat} {K : List (Nat × Value)} {E : World} {h h' : Ghost} {S S' : List Frag} {a : Act} {w w' : World} (A : As n K E h S a w) {d : Nat} {v : Value}
    (hd : Nat.blt d n = true) (H : Heap E h' S'.flatten w') : As n ((d, v) :: K) E h' S' (a.put (some d) v) w' := by
  have hd' : d < n := by have := Nat.le_of_ble_eq_true hd; omega
  refine ⟨by simp [Act.put, A.size], A.defers, fun i u hi => ?_, H⟩
  simp only [get] at hi
  cases hb : Nat.beq d i with
  | true =>
    rw [hb] at hi
    have e := Nat.eq_of_beq_eq_true hb
    subst e
    simp only [cond_true, Option.some.injEq] at hi
    subst hi
    simp [Act.put, A.size, hd']
  | false =>
    rw [hb] at hi
    have e : d ≠ i := Nat.ne_of_beq_eq_false hb
    simp only [cond_false] at hi
    simpa [Act.put, Array.getElem?_setIfInBounds_ne e] using A.slots i u hi

theorem As.skip {n : Nat} {K : List (Nat × Value)} {E : World} {h h' : Ghost} {S S' : List Frag} {a : Act} {w w' : World} (A : As n K E h S a w) {v : Value}
    (H : Heap E h' S'.flatten w') : As n K E h' S' (a.put none v) w' := ⟨A.size, A.defers, A.slots, H⟩

/-- K' says no more than K. -/
def Sub (K' K : List (Nat × Value)) : Prop := ∀ i v, get K' i = some v → get K i = some v

theorem Sub.nil (K : List (Nat × Value)) : Sub [] K := fun _ _ h => by cases h
theorem Sub.cons {K' K : List (Nat × Value)} {i : Nat} {v : Value} (h : get K i = some v) (r : Sub K' K) : Sub ((i, v) :: K') K := fun j u hj => by
  simp only [get] at hj
  cases hb : Nat.beq i j with
  | true => rw [hb] at hj; rw [← Nat.eq_of_beq_eq_true hb]; simp only [cond_true] at hj; rw [h]; exact hj
  | false => rw [hb] at hj; exact r j u hj
/-- The same, the value given by an equation. -/
theorem Sub.eq {K' K : List (Nat × Value)} {i : Nat} {v u : Value} (h : get K i = some u) (e : u = v) (r : Sub K' K) : Sub ((i, v) :: K') K := Sub.cons (e ▸ h) r

theorem As.sub {n : Nat} {K K' : List (Nat × Value)} {E : World} {h : Ghost} {S : List Frag} {a : Act} {w : World} (A : As n K E h S a w) (hs : Sub K' K) : As n K' E h S a w :=
  ⟨A.size, A.defers, fun i v hi => A.slots i v (hs i v hi), A.heap⟩

theorem As.perm {n : Nat} {K : List (Nat × Value)} {E : World} {h : Ghost} {S S' : List Frag} {a : Act} {w : World} (A : As n K E h S a w) (p : S.Perm S') : As n K E h S' a w :=
  ⟨A.size, A.defers, A.slots, A.heap.perm p.flatten⟩

/-! ### goals -/
section
variable (P : Program) (ops : Array Oper) (Q : Exit → Act → World → Prop)
/-- the rest of a region -/
def Wl (l : List Oper) (n : Nat) (K : List (Nat × Value)) (E : World) (h : Ghost) (S : List Frag) : Prop := ∀ a w, As n K E h S a w → wpList P ops Q l a w
/-- code -/
def Wc (c : Code) (n : Nat) (K : List (Nat × Value)) (E : World) (h : Ghost) (S : List Frag) : Prop := ∀ a w, As n K E h S a w → c.wp P Q a w
end
/-- an exit -/
def Wx (Q : Exit → Act → World → Prop) (e : Exit) (n : Nat) (K : List (Nat × Value)) (E : World) (h : Ghost) (S : List Frag) : Prop := ∀ a w, As n K E h S a w → Q e a w

section
variable {P : Program} {ops : Array Oper} {Q Q' : Exit → Act → World → Prop} {n : Nat} {K : List (Nat × Value)} {E : World} {h : Ghost} {S : List Frag} {c c₁ c₂ : Code}

theorem Wc.seq (H : Wc P (Exit.then (c₂.wp P Q) Q) c₁ n K E h S) : Wc P Q (.seq c₁ c₂) n K E h S := fun a w A => wp_seq (H a w A)
theorem Wc.block {id : Nat} (H : Wc P (Exit.inBlock id Q) c n K E h S) : Wc P Q (.block id c) n K E h S := fun a w A => wp_block (H a w A)
theorem Wc.skip (H : Wx Q .normal n K E h S) : Wc P Q .skip n K E h S := fun a w A => wp_skip (H a w A)
theorem Wc.ret (H : Wx Q .ret n K E h S) : Wc P Q .ret n K E h S := fun a w A => wp_ret (H a w A)
theorem Wc.exit {id : Nat} (H : Wx Q (.exit id) n K E h S) : Wc P Q (.exit id) n K E h S := fun a w A => wp_exit (H a w A)
theorem Wc.region {id : Nat} {l : List Oper} (H : Wl P l.toArray Q l n K E h S) : Wc P Q (.region id l.toArray false) n K E h S := fun a w A => wp_region_lit (H a w A)
theorem Wc.cond {x : Operand} {t : Bool} (hx : ev K x = some (.bool t)) (ht : t = true → Wc P Q c₁ n K E h S) (hf : t = false → Wc P Q c₂ n K E h S) :
    Wc P Q (.cond x c₁ c₂) n K E h S := fun a w A => wp_cond_split (A.ev hx) (fun e => ht e a w A) (fun e => hf e a w A)
theorem Wc.condT {x : Operand} (hx : ev K x = some (.bool true)) (ht : Wc P Q c₁ n K E h S) : Wc P Q (.cond x c₁ c₂) n K E h S := fun a w A => wp_cond_true (A.ev hx) (ht a w A)
theorem Wc.condF {x : Operand} (hx : ev K x = some (.bool false)) (hf : Wc P Q c₂ n K E h S) : Wc P Q (.cond x c₁ c₂) n K E h S := fun a w A => wp_cond_false (A.ev hx) (hf a w A)

theorem Wc.condS {i : Nat} {t : Bool} (hx : get K i = some (.bool t)) (ht : t = true → Wc P Q c₁ n ((i, .bool true) :: K) E h S) (hf : t = false → Wc P Q c₂ n ((i, .bool false) :: K) E h S) :
    Wc P Q (.cond (.tmp i) c₁ c₂) n K E h S := fun a w A => by
  cases t with
  | true => exact wp_cond_true (A.ev hx) (ht rfl a w (A.sub (Sub.cons hx fun _ _ e => e)))
  | false => exact wp_cond_false (A.ev hx) (hf rfl a w (A.sub (Sub.cons hx fun _ _ e => e)))

theorem Wl.nil (H : Wx Q .normal n K E h S) : Wl P ops Q [] n K E h S := fun a w A => H a w A
theorem Wx.then_code (H : Wc P Q c n K E h S) : Wx (Exit.then (c.wp P Q) Q') .normal n K E h S := fun a w A => H a w A
theorem Wx.then_ret {N : Act → World → Prop} (H : Wx Q .ret n K E h S) : Wx (Exit.then N Q) .ret n K E h S := fun a w A => H a w A
theorem Wx.then_exit {N : Act → World → Prop} {id : Nat} (H : Wx Q (.exit id) n K E h S) : Wx (Exit.then N Q) (.exit id) n K E h S := fun a w A => H a w A
theorem Wx.block_normal {id : Nat} (H : Wx Q .normal n K E h S) : Wx (Exit.inBlock id Q) .normal n K E h S := fun a w A => H a w A
theorem Wx.block_ret {id : Nat} (H : Wx Q .ret n K E h S) : Wx (Exit.inBlock id Q) .ret n K E h S := fun a w A => H a w A
theorem Wx.block_exit {id : Nat} (H : Wx Q .normal n K E h S) : Wx (Exit.inBlock id Q) (.exit id) n K E h S := fun a w A => by simp only [Exit.inBlock, if_true]; exact H a w A
theorem Wx.block_other {id id' : Nat} (hne : Nat.beq id' id = false) (H : Wx Q (.exit id') n K E h S) : Wx (Exit.inBlock id Q) (.exit id') n K E h S := fun a w A => by
  simp only [Exit.inBlock, if_neg (Nat.ne_of_beq_eq_false hne)]; exact H a w A

theorem Wc.sub {K' : List (Nat × Value)} (hs : Sub K' K) (H : Wc P Q c n K' E h S) : Wc P Q c n K E h S := fun a w A => H a w (A.sub hs)
theorem Wl.sub {K' : List (Nat × Value)} {l : List Oper} (hs : Sub K' K) (H : Wl P ops Q l n K' E h S) : Wl P ops Q l n K E h S := fun a w A => H a w (A.sub hs)
theorem Wx.sub {K' : List (Nat × Value)} {e : Exit} (hs : Sub K' K) (H : Wx Q e n K' E h S) : Wx Q e n K E h S := fun a w A => H a w (A.sub hs)
theorem Wc.perm {S' : List Frag} (hs : S.Perm S') (H : Wc P Q c n K E h S') : Wc P Q c n K E h S := fun a w A => H a w (A.perm hs)
theorem Wl.perm {S' : List Frag} {l : List Oper} (hs : S.Perm S') (H : Wl P ops Q l n K E h S') : Wl P ops Q l n K E h S := fun a w A => H a w (A.perm hs)
theorem Wx.perm {S' : List Frag} {e : Exit} (hs : S.Perm S') (H : Wx Q e n K E h S') : Wx Q e n K E h S := fun a w A => H a w (A.perm hs)

/-- the first fragment is let go -/
theorem As.drop {a : Act} {w : World} {F : Frag} (A : As n K E h (F :: S) a w) : As n K E h S a w := ⟨A.size, A.defers, A.slots, (show Heap E h (F ++ S.flatten) w from A.heap).drop⟩
theorem Wc.drop {F : Frag} (H : Wc P Q c n K E h S) : Wc P Q c n K E h (F :: S) := fun a w A => H a w A.drop
theorem Wl.drop {F : Frag} {l : List Oper} (H : Wl P ops Q l n K E h S) : Wl P ops Q l n K E h (F :: S) := fun a w A => H a w A.drop
/-- the first fragment becomes memory that stays -/
theorem Wc.freeze {F : Frag} (H : (∀ p, p ∈ F → (h.ext F) p.1 = some p.2) → Wc P Q c n K E (h.ext F) S) : Wc P Q c n K E h (F :: S) := fun a w A =>
  let ⟨H1, H2⟩ := (show Heap E h (F ++ S.flatten) w from A.heap).freeze; H H2 a w ⟨A.size, A.defers, A.slots, H1⟩
theorem Wl.freeze {F : Frag} {l : List Oper} (H : (∀ p, p ∈ F → (h.ext F) p.1 = some p.2) → Wl P ops Q l n K E (h.ext F) S) : Wl P ops Q l n K E h (F :: S) := fun a w A =>
  let ⟨H1, H2⟩ := (show Heap E h (F ++ S.flatten) w from A.heap).freeze; H H2 a w ⟨A.size, A.defers, A.slots, H1⟩

/-- A loop: the state at each round's head is told by x : ι. -/
theorem Wc.loop {ι : Type} (I : ι → Prop) (KK : ι → List (Nat × Value)) (hh : ι → Ghost) (SS : ι → List Frag) (μ : ι → Nat) (x₀ : ι) (h0 : I x₀)
    (hK : Sub (KK x₀) K) (hh0 : h = hh x₀) (hS : S = SS x₀)
    (round : ∀ x, I x → Wc P (Exit.then (fun a w => ∃ y, I y ∧ μ y < μ x ∧ As n (KK y) E (hh y) (SS y) a w) Q) c n (KK x) E (hh x) (SS x)) :
    Wc P Q (.loop c) n K E h S := fun a w A => by
  subst hh0; subst hS
  intro b k cs
  have key : ∀ m x a w, μ x = m → I x → As n (KK x) E (hh x) (SS x) a w →
      ∃ e a' w', Q e a' w' ∧ Arrives P (lone (b.at a (.code c :: .inLoop c :: k)) cs w) b k cs e a' w' := by
    intro m
    induction m using Nat.strongRecOn with
    | _ m ih =>
      intro x a w hm hI hA
      obtain ⟨e, a₁, w₁, hq, harr⟩ := round x hI a w hA b (.inLoop c :: k) cs
      cases e with
      | normal =>
        obtain ⟨y, hIy, hlt, hAy⟩ := hq
        obtain ⟨e₂, a₂, w₂, hq₂, harr₂⟩ := ih (μ y) (hm ▸ hlt) y a₁ w₁ rfl hIy hAy
        exact ⟨e₂, a₂, w₂, hq₂, .of_steps (Steps.trans harr (.one step_inLoop)) harr₂⟩
      | exit id => exact ⟨_, a₁, w₁, hq, .pass (x := .inLoop c) rfl (fun _ _ => .inl (by simp)) harr⟩
      | goto l => exact ⟨_, a₁, w₁, hq, .pass (x := .inLoop c) rfl (fun _ _ => .inl (by simp)) harr⟩
      | ret => exact ⟨_, a₁, w₁, hq, .pass (x := .inLoop c) rfl (fun _ _ => .inl (by simp)) harr⟩
      | panic ch => exact ⟨_, a₁, w₁, hq, .pass (x := .inLoop c) rfl (fun _ _ => .inl (by simp)) harr⟩
      | outgrown => exact ⟨_, a₁, w₁, hq, .pass (x := .inLoop c) rfl (fun _ _ => .inl (by simp)) harr⟩
  obtain ⟨e, a', w', hq, harr⟩ := key _ x₀ a w rfl h0 (A.sub hK)
  exact ⟨e, a', w', hq, .of_steps (.one step_loop) harr⟩

/-- some fragments are let go -/
inductive Drops : List Frag → List Frag → Prop
  | refl {S : List Frag} : Drops S S
  | skip {S S' : List Frag} {F : Frag} : Drops S S' → Drops (F :: S) S'
  | keep {S S' : List Frag} {F : Frag} : Drops S S' → Drops (F :: S) (F :: S')
theorem Drops.heap {E : World} {h : Ghost} {w : World} {S S' : List Frag} (d : Drops S S') : ∀ {A : Frag}, Heap E h (A ++ S.flatten) w → Heap E h (A ++ S'.flatten) w := by
  induction d with
  | refl => exact fun H => H
  | skip _ ih =>
    rename_i F _
    intro A H
    simp only [List.flatten_cons] at H
    refine ih ?_
    refine Heap.drop (F := F) (H.perm ?_)
    rw [← List.append_assoc, ← List.append_assoc]
    exact List.perm_append_comm.append_right _
  | keep _ ih =>
    rename_i F _
    intro A H
    simp only [List.flatten_cons] at H ⊢
    rw [← List.append_assoc] at H ⊢
    exact ih H
theorem As.drops {a : Act} {w : World} {S' : List Frag} (A : As n K E h S a w) (d : Drops S S') : As n K E h S' a w :=
  ⟨A.size, A.defers, A.slots, by simpa using d.heap (A := []) (by simpa using A.heap)⟩
theorem Wc.drops {S' : List Frag} (d : Drops S S') (H : Wc P Q c n K E h S') : Wc P Q c n K E h S := fun a w A => H a w (A.drops d)
theorem Wl.drops {S' : List Frag} {l : List Oper} (d : Drops S S') (H : Wl P ops Q l n K E h S') : Wl P ops Q l n K E h S := fun a w A => H a w (A.drops d)
theorem Wc.addNil (H : Wc P Q c n K E h ([] :: S)) : Wc P Q c n K E h S := fun a w A => H a w ⟨A.size, A.defers, A.slots, A.heap⟩

/-- the end of a round -/
theorem Wx.again {ι : Type} {I : ι → Prop} {KK : ι → List (Nat × Value)} {hh : ι → Ghost} {SS : ι → List Frag} {μ : ι → Nat} {x : ι} (y : ι) (hI : I y) (hμ : μ y < μ x)
    (hK : Sub (KK y) K) (hh0 : h = hh y) (hS : Drops S (SS y)) :
    Wx (Exit.then (fun a w => ∃ y, I y ∧ μ y < μ x ∧ As n (KK y) E (hh y) (SS y) a w) Q) .normal n K E h S := fun a w A => by
  subst hh0
  exact ⟨y, hI, hμ, (A.sub hK).drops hS⟩

/-! ### functions -/
/-- A function with a body. -/
def Callable (P : Program) (f : FuncId) : Prop := ∃ fn, P.funcs[f]? = some fn ∧ (fn.name == "runtime.NumGoroutine") = false ∧ fn.body.isNone = false

/-- WHAT A FUNCTION DOES: called with the memory h that stays and the own blocks F, whatever else (R) is there. -/
def Spec (P : Program) (f : FuncId) (args : List Value) (h : Ghost) (F : List Frag) (Post : Value → Ghost → List Frag → Prop) : Prop :=
  Callable P f ∧ ∀ E R w, Heap E h (F ++ R).flatten w → Calls P f args.toArray w fun e w' => ∃ v h' F', e = .returned v ∧ h.le h' ∧ Heap E h' (F' ++ R).flatten w' ∧ Post v h' F'

/-- The same of a function that is handed no block that turns. -/
def SpecP (P : Program) (f : FuncId) (args : List Value) (h : Ghost) (Post : Value → Ghost → Prop) : Prop :=
  Spec P f args h [] fun v h' F' => F' = [] ∧ Post v h'

theorem Spec.mono {f : FuncId} {args : List Value} {F : List Frag} {Post Post' : Value → Ghost → List Frag → Prop} (H : Spec P f args h F Post)
    (hp : ∀ v h' F', h.le h' → Post v h' F' → Post' v h' F') : Spec P f args h F Post' := ⟨H.1, fun E R w A =>
  (H.2 E R w A).mono fun _ _ ⟨v, h', F', e, l, H', p⟩ => ⟨v, h', F', e, l, H', hp v h' F' l p⟩⟩

theorem SpecP.mono {f : FuncId} {args : List Value} {Post Post' : Value → Ghost → Prop} (H : SpecP P f args h Post) (hp : ∀ v h', h.le h' → Post v h' → Post' v h') : SpecP P f args h Post' :=
  Spec.mono H fun v h' _ l ⟨e, p⟩ => ⟨e, hp v h' l p⟩

/-- How a function ends. -/
def Fin (P : Program) (fn : Func) (E : World) (h : Ghost) (R : List Frag) (Post : Value → Ghost → List Frag → Prop) : Exit → Act → World → Prop :=
  bodyPost P fn fun e w' => ∃ v h' F', e = .returned v ∧ h.le h' ∧ Heap E h' (F' ++ R).flatten w' ∧ Post v h' F'

def params : List Value → Nat → List (Nat × Value)
  | [], _ => []
  | v :: r, i => (i, v) :: params r (i + 1)

theorem get_params : ∀ (l : List Value) (k i : Nat) (v : Value), get (params l k) i = some v → k ≤ i ∧ l[i - k]? = some v
  | [], _, _, _, h => by cases h
  | u :: r, k, i, v, h => by
    simp only [params, get] at h
    cases hb : Nat.beq k i with
    | true =>
      rw [hb] at h
      have e := Nat.eq_of_beq_eq_true hb
      subst e
      simp only [cond_true, Option.some.injEq] at h
      exact ⟨Nat.le_refl _, by simp [h]⟩
    | false =>
      rw [hb] at h
      have e : k ≠ i := Nat.ne_of_beq_eq_false hb
      have ⟨h1, h2⟩ := get_params r (k + 1) i v h
      refine ⟨by omega, ?_⟩
      rw [show i - k = (i - (k + 1)) + 1 from by omega, List.getElem?_cons_succ]
      exact h2

theorem Spec.enter {f : FuncId} {fn : Func} {args : List Value} {F : List Frag} {Post : Value → Ghost → List Frag → Prop} (hc : Callable P f) (hf : P.funcs[f]? = some fn) (hb : fn.body = some c)
    (hn : fn.ntmps = n) (hs : Nat.ble args.length n = true) (H : ∀ E R, Wc P (Fin P fn E h R Post) c n (params args 0) E h (F ++ R)) : Spec P f args h F Post := by
  refine ⟨hc, fun E R w A => ?_⟩
  refine calls_of_wp hf hb (H E R _ _ ⟨?_, rfl, fun i v hi => ?_, A⟩)
  · have := Nat.le_of_ble_eq_true hs
    simp only [Array.size_append, List.size_toArray, Array.size_replicate, hn]; omega
  · have ⟨_, h2⟩ := get_params _ _ _ _ hi
    simp only [Nat.sub_zero] at h2
    have hl : i < args.length := (List.getElem?_eq_some_iff.1 h2).1
    rw [Array.getElem?_append_left (by simpa using hl)]
    simpa using h2

theorem SpecP.enter {f : FuncId} {fn : Func} {args : List Value} {Post : Value → Ghost → Prop} (hc : Callable P f) (hf : P.funcs[f]? = some fn) (hb : fn.body = some c)
    (hn : fn.ntmps = n) (hs : Nat.ble args.length n = true) (H : ∀ E R, Wc P (Fin P fn E h R fun v h' F' => F' = [] ∧ Post v h') c n (params args 0) E h R) : SpecP P f args h Post :=
  Spec.enter hc hf hb hn hs H

/-- The results of a function in slots. -/
theorem Fin.slots {fn : Func} {h₀ : Ghost} {R L : List Frag} {Post : Value → Ghost → List Frag → Prop} {v : Value} (e : Exit) (he : e = .ret ∨ e = .normal)
    (hr : ∀ a w, As n K E h (L ++ R) a w → (results fn a.tmps).run P w = .ok v w) (hl : h₀.le h)
    (hp : (∀ p, p ∈ L.flatten → (h.ext L.flatten) p.1 = some p.2) → h.le (h.ext L.flatten) → Post v (h.ext L.flatten) []) : Wx (Fin P fn E h₀ R Post) e n K E h (L ++ R) := fun a w A => by
  have A2 : Heap E h (L.flatten ++ R.flatten) w := by have := A.heap; rwa [List.flatten_append] at this
  obtain ⟨H1, H2⟩ := A2.freeze
  have hres := hr a w A
  have fin : ∃ v' h' F', Ending.returned v = .returned v' ∧ h₀.le h' ∧ Heap E h' (F' ++ R).flatten w ∧ Post v' h' F' :=
    ⟨v, h.ext L.flatten, [], rfl, hl.trans (Ghost.le_ext _ _), by simpa using H1, hp H2 (Ghost.le_ext _ _)⟩
  rcases he with rfl | rfl
  · exact ⟨A.defers, v, hres, fin⟩
  · exact ⟨A.defers, v, hres, fin⟩

theorem run_tmp {fn : Func} {t : Tmp} (hf : fn.results = #[.tmp t]) {v : Value} (hv : get K t = some v) : ∀ a w, As n K E h S a w → (results fn a.tmps).run P w = .ok v w := fun a w A => by
  rw [results_tmp hf]; have := A.slots t v hv; simp [Array.getD_eq_getD_getElem?, this]
theorem run_tmp2 {fn : Func} {t u : Tmp} (hf : fn.results = #[.tmp t, .tmp u]) {v x : Value} (hv : get K t = some v) (hx : get K u = some x) :
    ∀ a w, As n K E h S a w → (results fn a.tmps).run P w = .ok (.tuple #[v, x]) w := fun a w A => by
  rw [results_tmp2 hf]; have h1 := A.slots t v hv; have h2 := A.slots u x hx; simp [Array.getD_eq_getD_getElem?, h1, h2]
theorem run_none {fn : Func} (hf : fn.results = #[]) : ∀ a w, As n K E h S a w → (results fn a.tmps).run P w = .ok (.tuple #[]) w := fun a w _ => by
  rw [results_none hf]
end
end Go.Sx

namespace Go.Sx
open Go
section
variable {P : Program} {ops : Array Oper} {Q : Exit → Act → World → Prop} {n : Nat} {K : List (Nat × Value)} {E : World} {h : Ghost} {S : List Frag} {rest : List Oper}
  {d : Nat} {ty : TypeId} {pos : String} {af : Array Edge}

/-! ### guards -/
theorem Wl.guardYes {dst : Option Tmp} {op : Op} {j : Nat} {b : Bool} {dj : Nat} (hj : (ops[j]?).bind (·.dst) = some dj) (hc : get K dj = some (.bool b))
    (H : Wl P ops Q (⟨dst, op, ty, pos, af, none⟩ :: rest) n K E h S) : Wl P ops Q (⟨dst, op, ty, pos, af, some (j, b)⟩ :: rest) n K E h S := fun a w A => by
  have hy : yielded ops a.tmps j = some b := by simp only [yielded, hj, Option.bind_some, A.slots _ _ hc]
  have h0 := H a w A
  unfold wpList at h0 ⊢
  simp only [Region.wanted, if_true] at h0
  simp only [Region.wanted, hy, beq_self_eq_true, if_true]
  exact h0

theorem Wl.guardNo {op : Op} {j : Nat} {b c : Bool} {dj : Nat} (hj : (ops[j]?).bind (·.dst) = some dj) (hc : get K dj = some (.bool c)) (hbc : (c == b) = false) (hd : Nat.blt d n = true)
    (H : Wl P ops Q rest n ((d, undef) :: K) E h S) : Wl P ops Q (⟨some d, op, ty, pos, af, some (j, b)⟩ :: rest) n K E h S := fun a w A => by
  have hy : yielded ops a.tmps j = some c := by simp only [yielded, hj, Option.bind_some, A.slots _ _ hc]
  have e : (some c == some b) = false := by rw [← hbc]; rfl
  unfold wpList
  simp only [Region.wanted, hy, e, if_false, Bool.false_eq_true]
  exact H _ w (A.put hd A.heap)

theorem Wl.guardNoSkip {op : Op} {j : Nat} {b c : Bool} {dj : Nat} (hj : (ops[j]?).bind (·.dst) = some dj) (hc : get K dj = some (.bool c)) (hbc : (c == b) = false)
    (H : Wl P ops Q rest n K E h S) : Wl P ops Q (⟨none, op, ty, pos, af, some (j, b)⟩ :: rest) n K E h S := fun a w A => by
  have hy : yielded ops a.tmps j = some c := by simp only [yielded, hj, Option.bind_some, A.slots _ _ hc]
  have e : (some c == some b) = false := by rw [← hbc]; rfl
  unfold wpList
  simp only [Region.wanted, hy, e, if_false, Bool.false_eq_true]
  exact H _ w (A.skip A.heap)

/-- a guard that was not run itself: its value is no bool -/
theorem Wl.guardUndef {op : Op} {j : Nat} {b : Bool} {dj : Nat} (hj : (ops[j]?).bind (·.dst) = some dj) (hc : get K dj = some undef) (hd : Nat.blt d n = true)
    (H : Wl P ops Q rest n ((d, undef) :: K) E h S) : Wl P ops Q (⟨some d, op, ty, pos, af, some (j, b)⟩ :: rest) n K E h S := fun a w A => by
  have hy : yielded ops a.tmps j = none := by simp only [yielded, hj, Option.bind_some, A.slots _ _ hc]; rfl
  unfold wpList
  simp only [Region.wanted, hy]
  exact H _ w (A.put hd A.heap)

/-- a bool in a slot is split -/
theorem Wl.split {l : List Oper} {i : Nat} {c : Bool} (hc : get K i = some (.bool c)) (ht : c = true → Wl P ops Q l n ((i, .bool true) :: K) E h S)
    (hf : c = false → Wl P ops Q l n ((i, .bool false) :: K) E h S) : Wl P ops Q l n K E h S := fun a w A => by
  cases c with
  | true => exact ht rfl a w (A.sub (Sub.cons hc fun _ _ e => e))
  | false => exact hf rfl a w (A.sub (Sub.cons hc fun _ _ e => e))

/-! ### an operation that yields a value -/
theorem wl_value {op : Op} {v : Value} {a : Act} {w w' : World} (hrun : (execOp a.eval ⟨some d, op, ty, pos, af, none⟩).run P w = .ok (.value v) w')
    (H : wpList P ops Q rest (a.put (some d) v) w') : wpList P ops Q (⟨some d, op, ty, pos, af, none⟩ :: rest) a w := by
  unfold wpList
  simp only [Region.wanted, if_true]
  refine .inl ?_
  unfold Oper.wp
  rw [hrun]
  exact H

theorem wl_skip {dst : Option Tmp} {op : Op} {a : Act} {w w' : World} (hrun : (execOp a.eval ⟨dst, op, ty, pos, af, none⟩).run P w = .ok .skip w')
    (H : wpList P ops Q rest (a.put dst undef) w') : wpList P ops Q (⟨dst, op, ty, pos, af, none⟩ :: rest) a w := by
  unfold wpList
  simp only [Region.wanted, if_true]
  refine .inl ?_
  unfold Oper.wp
  rw [hrun]
  exact H

theorem wl_call {dst : Option Tmp} {op : Op} {a : Act} {w : World} {f : FuncId} {args : Array Value} {R : Ending → World → Prop}
    (hrun : (execOp a.eval ⟨dst, op, ty, pos, af, none⟩).run P w = .ok (.enter f args) w) (hc : Calls P f args w R)
    (H : ∀ e w', R e w' → ∃ v, e = .returned v ∧ wpList P ops Q rest (a.put dst v) w') : wpList P ops Q (⟨dst, op, ty, pos, af, none⟩ :: rest) a w := by
  unfold wpList
  simp only [Region.wanted, if_true]
  refine .inl ?_
  unfold Oper.wp
  rw [hrun]
  refine hc.mono fun e w' hR => ?_
  obtain ⟨v, rfl, hv⟩ := H e w' hR
  exact hv

/-- a value that hangs on the slots alone -/
theorem Wl.pure {op : Op} {v : Value} (hd : Nat.blt d n = true) (hrun : ∀ a w, As n K E h S a w → (execOp a.eval ⟨some d, op, ty, pos, af, none⟩).run P w = .ok (.value v) w)
    (H : Wl P ops Q rest n ((d, v) :: K) E h S) : Wl P ops Q (⟨some d, op, ty, pos, af, none⟩ :: rest) n K E h S :=
  fun a w A => wl_value (hrun a w A) (H _ _ (A.put hd A.heap))

theorem Wl.move {x : Operand} {v : Value} (hx : ev K x = some v) (hd : Nat.blt d n = true) (H : Wl P ops Q rest n ((d, v) :: K) E h S) :
    Wl P ops Q (⟨some d, .move x, ty, pos, af, none⟩ :: rest) n K E h S := Wl.pure hd (fun a w A => by simp [execOp, A.ev hx]) H
theorem Wl.assign {x : Operand} {v : Value} (hx : ev K x = some v) (hd : Nat.blt d n = true) (H : Wl P ops Q rest n ((d, v) :: K) E h S) :
    Wl P ops Q (⟨some d, .assign x, ty, pos, af, none⟩ :: rest) n K E h S := Wl.pure hd (fun a w A => by simp [execOp, A.ev hx]) H
theorem Wl.pickT {c x y : Operand} {v : Value} (hc : ev K c = some (.bool true)) (hx : ev K x = some v) (hd : Nat.blt d n = true) (H : Wl P ops Q rest n ((d, v) :: K) E h S) :
    Wl P ops Q (⟨some d, .pick c x y, ty, pos, af, none⟩ :: rest) n K E h S := Wl.pure hd (fun a w A => by simp [execOp, A.ev hc, A.ev hx, asBool]) H
theorem Wl.pickF {c x y : Operand} {v : Value} (hc : ev K c = some (.bool false)) (hy : ev K y = some v) (hd : Nat.blt d n = true) (H : Wl P ops Q rest n ((d, v) :: K) E h S) :
    Wl P ops Q (⟨some d, .pick c x y, ty, pos, af, none⟩ :: rest) n K E h S := Wl.pure hd (fun a w A => by simp [execOp, A.ev hc, A.ev hy, asBool]) H
theorem Wl.not {x : Operand} {t : TypeId} {b : Bool} (hx : ev K x = some (.bool b)) (hd : Nat.blt d n = true) (H : Wl P ops Q rest n ((d, .bool !b) :: K) E h S) :
    Wl P ops Q (⟨some d, .unOp .not t x, ty, pos, af, none⟩ :: rest) n K E h S := Wl.pure hd (fun a w A => by simp [execOp, A.ev hx, Op.unary]) H
theorem Wl.extract {x : Operand} {i : Nat} {l : List Value} {v : Value} (hx : ev K x = some (.tuple l.toArray)) (hv : l[i]? = some v) (hd : Nat.blt d n = true)
    (H : Wl P ops Q rest n ((d, v) :: K) E h S) : Wl P ops Q (⟨some d, .extract x i, ty, pos, af, none⟩ :: rest) n K E h S :=
  Wl.pure hd (fun a w A => by simp [execOp, A.ev hx, Instr.extract, hv]) H
theorem Wl.makeFunc {f : Fn} {first cap : List Operand} {u v : List Value} (h1 : evs K first = some u) (h2 : evs K cap = some v) (hd : Nat.blt d n = true)
    (H : Wl P ops Q rest n ((d, .func f u.toArray v.toArray) :: K) E h S) : Wl P ops Q (⟨some d, .makeFunc f first.toArray cap.toArray, ty, pos, af, none⟩ :: rest) n K E h S :=
  Wl.pure hd (fun a w A => by simp [execOp, Instr.makeFunc, A.evs h1, A.evs h2]) H

/-! integers -/
theorem Wl.iEql {t t' : TypeId} {x y : Operand} {k : IntKind} {a b : Int} (hx : ev K x = some (.int k a)) (hy : ev K y = some (.int k b)) (hd : Nat.blt d n = true)
    (H : Wl P ops Q rest n ((d, .bool (a == b)) :: K) E h S) : Wl P ops Q (⟨some d, .binOp .eql t x y t', ty, pos, af, none⟩ :: rest) n K E h S :=
  Wl.pure hd (fun a w A => by simp [execOp, A.ev hx, A.ev hy, eqGuard, binOp, Op.intCmp]) H
theorem Wl.iNeq {t t' : TypeId} {x y : Operand} {k : IntKind} {a b : Int} (hx : ev K x = some (.int k a)) (hy : ev K y = some (.int k b)) (hd : Nat.blt d n = true)
    (H : Wl P ops Q rest n ((d, .bool (a != b)) :: K) E h S) : Wl P ops Q (⟨some d, .binOp .neq t x y t', ty, pos, af, none⟩ :: rest) n K E h S :=
  Wl.pure hd (fun a w A => by simp [execOp, A.ev hx, A.ev hy, eqGuard, binOp, Op.intCmp]) H
theorem Wl.iLss {t t' : TypeId} {x y : Operand} {k : IntKind} {a b : Int} (hx : ev K x = some (.int k a)) (hy : ev K y = some (.int k b)) (hd : Nat.blt d n = true)
    (H : Wl P ops Q rest n ((d, .bool (decide (a < b))) :: K) E h S) : Wl P ops Q (⟨some d, .binOp .lss t x y t', ty, pos, af, none⟩ :: rest) n K E h S :=
  Wl.pure hd (fun a w A => by simp [execOp, A.ev hx, A.ev hy, eqGuard, binOp, Op.intCmp]) H
theorem Wl.iLeq {t t' : TypeId} {x y : Operand} {k : IntKind} {a b : Int} (hx : ev K x = some (.int k a)) (hy : ev K y = some (.int k b)) (hd : Nat.blt d n = true)
    (H : Wl P ops Q rest n ((d, .bool (decide (a ≤ b))) :: K) E h S) : Wl P ops Q (⟨some d, .binOp .leq t x y t', ty, pos, af, none⟩ :: rest) n K E h S :=
  Wl.pure hd (fun a w A => by simp [execOp, A.ev hx, A.ev hy, eqGuard, binOp, Op.intCmp]) H
theorem Wl.iGtr {t t' : TypeId} {x y : Operand} {k : IntKind} {a b : Int} (hx : ev K x = some (.int k a)) (hy : ev K y = some (.int k b)) (hd : Nat.blt d n = true)
    (H : Wl P ops Q rest n ((d, .bool (decide (b < a))) :: K) E h S) : Wl P ops Q (⟨some d, .binOp .gtr t x y t', ty, pos, af, none⟩ :: rest) n K E h S :=
  Wl.pure hd (fun a w A => by simp [execOp, A.ev hx, A.ev hy, eqGuard, binOp, Op.intCmp]) H
theorem Wl.iGeq {t t' : TypeId} {x y : Operand} {k : IntKind} {a b : Int} (hx : ev K x = some (.int k a)) (hy : ev K y = some (.int k b)) (hd : Nat.blt d n = true)
    (H : Wl P ops Q rest n ((d, .bool (decide (b ≤ a))) :: K) E h S) : Wl P ops Q (⟨some d, .binOp .geq t x y t', ty, pos, af, none⟩ :: rest) n K E h S :=
  Wl.pure hd (fun a w A => by simp [execOp, A.ev hx, A.ev hy, eqGuard, binOp, Op.intCmp]) H
theorem Wl.iAdd {t t' : TypeId} {x y : Operand} {k : IntKind} {a b c : Int} (hx : ev K x = some (.int k a)) (hy : ev K y = some (.int k b)) (hd : Nat.blt d n = true) (hc : k.wrap (a + b) = c)
    (H : Wl P ops Q rest n ((d, .int k c) :: K) E h S) : Wl P ops Q (⟨some d, .binOp .add t x y t', ty, pos, af, none⟩ :: rest) n K E h S :=
  Wl.pure hd (fun a w A => by simp [execOp, A.ev hx, A.ev hy, eqGuard, binOp, Op.intArith, hc]) H
theorem Wl.iSub {t t' : TypeId} {x y : Operand} {k : IntKind} {a b c : Int} (hx : ev K x = some (.int k a)) (hy : ev K y = some (.int k b)) (hd : Nat.blt d n = true) (hc : k.wrap (a - b) = c)
    (H : Wl P ops Q rest n ((d, .int k c) :: K) E h S) : Wl P ops Q (⟨some d, .binOp .sub t x y t', ty, pos, af, none⟩ :: rest) n K E h S :=
  Wl.pure hd (fun a w A => by simp [execOp, A.ev hx, A.ev hy, eqGuard, binOp, Op.intArith, hc]) H
theorem Wl.iMul {t t' : TypeId} {x y : Operand} {k : IntKind} {a b c : Int} (hx : ev K x = some (.int k a)) (hy : ev K y = some (.int k b)) (hd : Nat.blt d n = true) (hc : k.wrap (a * b) = c)
    (H : Wl P ops Q rest n ((d, .int k c) :: K) E h S) : Wl P ops Q (⟨some d, .binOp .mul t x y t', ty, pos, af, none⟩ :: rest) n K E h S :=
  Wl.pure hd (fun a w A => by simp [execOp, A.ev hx, A.ev hy, eqGuard, binOp, Op.intArith, hc]) H
theorem wrap_add1 {i : Nat} (hi : i + 1 ≤ 9223372036854775807) : IntKind.i64.wrap ((i : Int) + 1) = ((i + 1 : Nat) : Int) := by
  have := IntWalk.i64_in ((i : Int) + 1) (by omega)
  rw [this]; omega
/-- the step of a counter -/
theorem Wl.inc {t t' : TypeId} {x : Operand} {i : Nat} (hx : ev K x = some (.int .i64 (i : Int))) (hd : Nat.blt d n = true) (hi : i + 1 ≤ 9223372036854775807)
    (H : Wl P ops Q rest n ((d, .int .i64 ((i + 1 : Nat) : Int)) :: K) E h S) : Wl P ops Q (⟨some d, .binOp .add t x (.const (.int .i64 1)) t', ty, pos, af, none⟩ :: rest) n K E h S :=
  Wl.iAdd hx rfl hd (wrap_add1 hi) H

/-! strings -/
theorem Wl.sEql {t t' : TypeId} {x y : Operand} {a b : ByteArray} (hx : ev K x = some (.string a)) (hy : ev K y = some (.string b)) (hd : Nat.blt d n = true)
    (H : Wl P ops Q rest n ((d, .bool (a.toList == b.toList)) :: K) E h S) : Wl P ops Q (⟨some d, .binOp .eql t x y t', ty, pos, af, none⟩ :: rest) n K E h S :=
  Wl.pure hd (fun a w A => by simp [execOp, A.ev hx, A.ev hy, eqGuard, binOp, Op.stringOp]) H
theorem Wl.sNeq {t t' : TypeId} {x y : Operand} {a b : ByteArray} (hx : ev K x = some (.string a)) (hy : ev K y = some (.string b)) (hd : Nat.blt d n = true)
    (H : Wl P ops Q rest n ((d, .bool (!(a.toList == b.toList))) :: K) E h S) : Wl P ops Q (⟨some d, .binOp .neq t x y t', ty, pos, af, none⟩ :: rest) n K E h S :=
  Wl.pure hd (fun a w A => by simp [execOp, A.ev hx, A.ev hy, eqGuard, binOp, Op.stringOp]) H
theorem Wl.sLss {t t' : TypeId} {x y : Operand} {a b : ByteArray} (hx : ev K x = some (.string a)) (hy : ev K y = some (.string b)) (hd : Nat.blt d n = true)
    (H : Wl P ops Q rest n ((d, .bool (Op.bytesLess a.toList b.toList)) :: K) E h S) : Wl P ops Q (⟨some d, .binOp .lss t x y t', ty, pos, af, none⟩ :: rest) n K E h S :=
  Wl.pure hd (fun a w A => by simp [execOp, A.ev hx, A.ev hy, eqGuard, binOp, Op.stringOp]) H
theorem Wl.sLeq {t t' : TypeId} {x y : Operand} {a b : ByteArray} (hx : ev K x = some (.string a)) (hy : ev K y = some (.string b)) (hd : Nat.blt d n = true)
    (H : Wl P ops Q rest n ((d, .bool (Op.bytesLess a.toList b.toList || a.toList == b.toList)) :: K) E h S) : Wl P ops Q (⟨some d, .binOp .leq t x y t', ty, pos, af, none⟩ :: rest) n K E h S :=
  Wl.pure hd (fun a w A => by simp [execOp, A.ev hx, A.ev hy, eqGuard, binOp, Op.stringOp]) H
theorem Wl.sGtr {t t' : TypeId} {x y : Operand} {a b : ByteArray} (hx : ev K x = some (.string a)) (hy : ev K y = some (.string b)) (hd : Nat.blt d n = true)
    (H : Wl P ops Q rest n ((d, .bool (!(Op.bytesLess a.toList b.toList || a.toList == b.toList))) :: K) E h S) : Wl P ops Q (⟨some d, .binOp .gtr t x y t', ty, pos, af, none⟩ :: rest) n K E h S :=
  Wl.pure hd (fun a w A => by simp [execOp, A.ev hx, A.ev hy, eqGuard, binOp, Op.stringOp]) H
theorem Wl.sAdd {t t' : TypeId} {x y : Operand} {a b : ByteArray} (hx : ev K x = some (.string a)) (hy : ev K y = some (.string b)) (hd : Nat.blt d n = true) (hs : a.size + b.size ≤ 9223372036854775807)
    (H : Wl P ops Q rest n ((d, .string (a ++ b)) :: K) E h S) : Wl P ops Q (⟨some d, .binOp .add t x y t', ty, pos, af, none⟩ :: rest) n K E h S :=
  Wl.pure hd (fun _ _ A => by
    have hm : IntKind.i64.max = 9223372036854775807 := by decide
    have hn : ¬ (((a.size + b.size : Nat) : Int) > IntKind.i64.max) := by omega
    simp only [execOp, A.ev hx, A.ev hy, eqGuard, binOp, Op.stringOp, if_neg hn]
    rfl) H
theorem Wl.sLen {t : TypeId} {x : Operand} {s : ByteArray} (ht : P.underlying t = some .string) (hx : ev K x = some (.string s)) (hd : Nat.blt d n = true)
    (H : Wl P ops Q rest n ((d, .int .i64 (s.size : Int)) :: K) E h S) : Wl P ops Q (⟨some d, .call ⟨.builtin .len, #[x], #[t]⟩, ty, pos, af, none⟩ :: rest) n K E h S :=
  Wl.pure hd (fun a w A => by simp [execOp, resolve, invoke, builtin, Builtin.len_, A.ev hx, underlying, ht, goInt]) H
theorem Wl.sIndex {t : TypeId} {x y : Operand} {s : ByteArray} {k : IntKind} {c : Int} {i : Nat} {b : UInt8} (ht : P.underlying t = some .string) (hx : ev K x = some (.string s)) (hy : ev K y = some (.int k c)) (hi : c = (i : Int))
    (hb : s.data.toList[i]? = some b) (hd : Nat.blt d n = true) (H : Wl P ops Q rest n ((d, .int .u8 (b.toNat : Int)) :: K) E h S) :
    Wl P ops Q (⟨some d, .index t x y, ty, pos, af, none⟩ :: rest) n K E h S :=
  Wl.pure hd (fun a w A => by
    have hb' : s[i]? = some b := by
      have : s.data[i]? = some b := by simpa using hb
      obtain ⟨h1, h2⟩ := Array.getElem?_eq_some_iff.1 this
      have h1' : i < s.size := h1
      simp only [getElem?_def, h1', dite_true]
      exact congrArg some h2
    subst hi; simp [execOp, Instr.index, asIntOf, A.ev hx, A.ev hy, underlying, ht, hb']) H
end
end Go.Sx

namespace Go.Sx
open Go

/-- a block of cells, none of them shared with a string -/
def cells (l : List Value) (T : TypeId) : Obj := .cells l.toArray T (0, 0)

/-- a cell of the memory that stays -/
def gcell (h : Ghost) (b i : Nat) : Option Value := match h b with
  | some (.cells c _ _) => c[i]?
  | _ => none
/-- the cells from o on -/
def Seg (h : Ghost) (b o : Nat) (vs : List Value) : Prop := ∀ i v, vs[i]? = some v → gcell h b (o + i) = some v

theorem gcell.mono {h h' : Ghost} (l : h.le h') {b i : Nat} {v : Value} (e : gcell h b i = some v) : gcell h' b i = some v := by
  unfold gcell at *
  cases hb : h b with
  | none => rw [hb] at e; cases e
  | some o => rw [hb] at e; rw [l b o hb]; exact e
theorem Seg.mono {h h' : Ghost} (l : h.le h') {b o : Nat} {vs : List Value} (e : Seg h b o vs) : Seg h' b o vs := fun i v hv => gcell.mono l (e i v hv)
theorem Seg.of_block {h : Ghost} {b : Nat} {l : List Value} {T : TypeId} (e : h b = some (cells l T)) : Seg h b 0 l := fun i v hv => by
  unfold gcell; rw [e]; simpa [cells] using hv
theorem Seg.drop {h : Ghost} {b o : Nat} {vs us : List Value} (e : Seg h b o (vs ++ us)) : Seg h b (o + vs.length) us := fun i v hv => by
  have := e (vs.length + i) v (by rw [List.getElem?_append_right (by omega), show vs.length + i - vs.length = i from by omega]; exact hv)
  rwa [← Nat.add_assoc] at this
theorem Seg.take {h : Ghost} {b o : Nat} {vs us : List Value} (e : Seg h b o (vs ++ us)) : Seg h b o vs := fun i v hv => by
  have hi := (List.getElem?_eq_some_iff.1 hv).1
  exact e i v (by rw [List.getElem?_append_left hi]; exact hv)

section
variable {E : World} {h : Ghost} {S : Frag} {w : World}
theorem Heap.cell (H : Heap E h S w) {b i : Nat} {v : Value} (e : gcell h b i = some v) : w.cell? ⟨b, i, none⟩ = some v := by
  unfold gcell at e
  split at e
  · rename_i c t f hb; simp only [World.cell?, H.imm b _ hb]; simpa using e
  · cases e
theorem Heap.lt (H : Heap E h S w) {p : Nat × Obj} (hp : p ∈ S) : p.1 < w.heap.size := by
  have := H.own p hp
  exact (Array.getElem?_eq_some_iff.1 this).1
theorem Heap.alloc (H : Heap E h S w) (o : Obj) : Heap E h ((w.heap.size, o) :: S) (w.alloc o) := by
  have up : ∀ b x, w.heap[b]? = some x → (w.alloc o).heap[b]? = some x := fun b x e => by
    have := (Array.getElem?_eq_some_iff.1 e).1
    show (w.heap.push o)[b]? = _
    rw [Array.getElem?_push, if_neg (by omega)]; exact e
  refine ⟨H.os, H.tape, H.output, H.drawn, fun b x e => up b x (H.imm b x e), fun p hp => ?_, fun p hp => ?_, ?_⟩
  · rcases List.mem_cons.1 hp with rfl | hp
    · show (w.heap.push o)[w.heap.size]? = _; simp
    · exact up _ _ (H.own p hp)
  · rcases List.mem_cons.1 hp with rfl | hp
    · cases e : h w.heap.size with
      | none => rfl
      | some x => have := (Array.getElem?_eq_some_iff.1 (H.imm _ x e)).1; omega
    · exact H.fresh p hp
  · simp only [List.map_cons, List.nodup_cons]
    refine ⟨fun hm => ?_, H.nodup⟩
    obtain ⟨p, hp, e⟩ := List.mem_map.1 hm
    have := H.lt hp
    omega
/-- the own block b is set to o' -/
theorem Heap.set {b : Nat} {o : Obj} (H : Heap E h ((b, o) :: S) w) (o' : Obj) {w' : World} (h1 : w'.heap = w.heap.setIfInBounds b o') (h2 : w'.os = w.os) (h3 : w'.tape = w.tape) (h4 : w'.output = w.output) (h5 : w.drawn ≤ w'.drawn := by exact Nat.le_refl _) :
    Heap E h ((b, o') :: S) w' := by
  have hlt := H.lt (p := (b, o)) (List.mem_cons_self)
  have hn := H.nodup
  simp only [List.map_cons, List.nodup_cons] at hn
  refine ⟨h2.trans H.os, h3.trans H.tape, h4.trans H.output, Nat.le_trans H.drawn h5, fun c x e => ?_, fun p hp => ?_, fun p hp => ?_, ?_⟩
  · have hne : b ≠ c := fun hbc => by
      have := H.fresh (b, o) List.mem_cons_self
      rw [hbc] at this; rw [this] at e; cases e
    rw [h1, Array.getElem?_setIfInBounds_ne hne]; exact H.imm c x e
  · rcases List.mem_cons.1 hp with rfl | hp
    · rw [h1]; simp only [Array.getElem?_setIfInBounds_self]; simp at hlt; simp [hlt]
    · have hne : b ≠ p.1 := fun hbc => hn.1 (hbc ▸ List.mem_map_of_mem (f := Prod.fst) hp)
      rw [h1, Array.getElem?_setIfInBounds_ne hne]; exact H.own p (List.mem_cons_of_mem _ hp)
  · rcases List.mem_cons.1 hp with rfl | hp
    · exact H.fresh (b, o) List.mem_cons_self
    · exact H.fresh p (List.mem_cons_of_mem _ hp)
  · exact H.nodup
theorem Heap.ocell {b : Nat} {l : List Value} {T : TypeId} (H : Heap E h ((b, cells l T) :: S) w) (i : Nat) : w.cell? ⟨b, i, none⟩ = l[i]? := by
  have := H.own (b, cells l T) List.mem_cons_self
  simp only [World.cell?, this, cells]; simp
theorem Heap.ofrozen {b : Nat} {l : List Value} {T : TypeId} (H : Heap E h ((b, cells l T) :: S) w) (i : Nat) : w.frozen? ⟨b, i, none⟩ = false := by
  have := H.own (b, cells l T) List.mem_cons_self
  simp [World.frozen?, this, cells]
theorem Heap.setCell {b : Nat} {l : List Value} {T : TypeId} (H : Heap E h ((b, cells l T) :: S) w) (i : Nat) (v : Value) :
    Heap E h ((b, cells (l.set i v) T) :: S) (w.setCell ⟨b, i, none⟩ v) := by
  have hb := H.own (b, cells l T) List.mem_cons_self
  have hlt := H.lt (p := (b, cells l T)) List.mem_cons_self
  refine H.set _ ?_ rfl rfl rfl
  simp only [World.setCell]
  apply Array.ext_getElem?
  intro j
  by_cases hj : b = j
  · subst hj
    simp only [Array.getElem?_modify, if_true, Array.getElem?_setIfInBounds_self]
    simp only at hb
    rw [hb]; simp at hlt
    simp [hlt, cells]
  · rw [Array.getElem?_setIfInBounds_ne hj, Array.getElem?_modify, if_neg hj]
end

theorem Addr.add_eq (b o k : Nat) : (⟨b, o, none⟩ : Addr).add k = ⟨b, o + k, none⟩ := by
  unfold Addr.add; split
  · rename_i e; subst e; rfl
  · rfl

def splice (l : List Value) (k : Nat) (vs : List Value) : List Value := match vs with
  | [] => l
  | v :: r => splice (l.set k v) (k + 1) r
theorem splice_length : ∀ (vs l : List Value) (k : Nat), (splice l k vs).length = l.length
  | [], _, _ => rfl
  | v :: r, l, k => by rw [splice, splice_length r]; simp
theorem splice_eq : ∀ (vs l : List Value) (k : Nat), k + vs.length ≤ l.length → splice l k vs = l.take k ++ vs ++ l.drop (k + vs.length)
  | [], l, k, _ => by simp [splice]
  | v :: r, l, k, h => by
    simp only [List.length_cons] at h
    rw [splice, splice_eq r _ _ (by simp; omega)]
    have hk : k < l.length := by omega
    have e1 : (l.set k v).take (k + 1) = l.take k ++ [v] := by
      apply List.ext_getElem?
      intro j
      rw [List.getElem?_take]
      rcases Nat.lt_trichotomy j k with hj | hj | hj
      · rw [if_pos (by omega), List.getElem?_set_ne (by omega), List.getElem?_append_left (by simp; omega), List.getElem?_take, if_pos hj]
      · subst hj; rw [if_pos (by omega), List.getElem?_append_right (by simp; exact Nat.min_le_left _ _)]; simp [hk, Nat.min_eq_left (Nat.le_of_lt hk)]
      · rw [if_neg (by omega), List.getElem?_append_right (by simp; omega)]; simp; omega
    have e2 : (l.set k v).drop (k + 1 + r.length) = l.drop (k + (r.length + 1)) := by
      rw [List.drop_set_of_lt (by omega)]; congr 1; omega
    rw [e1, e2]; simp

/-- an aggregate or a single cell of a type -/
structure TyOK (P : Program) (T : TypeId) (agg : Bool) (k : Nat) (z : Value) : Prop where
  agg : ∀ w, (isAgg T).run P w = .ok agg w
  size : ∀ w, (sizeOf T).run P w = .ok k w
  zero : ∀ w, (zeroValue T).run P w = .ok z w

def one (v : Value) : Prop := v.oneCell' = true
theorem one.cells {v : Value} (h : one v) : v.cells = #[v] := by cases v <;> first | rfl | cases h

section
variable {P : Program} {E : World} {h : Ghost} {S : Frag} {w : World}
theorem run_storeCells {b : Nat} {T : TypeId} : ∀ (vs : List Value) (l : List Value) (o i : Nat) (w : World), (∀ v ∈ vs, one v) → o + i + vs.length ≤ l.length → Heap E h ((b, cells l T) :: S) w →
    ∃ w', (storeCells ⟨b, o, none⟩ vs i).run P w = .ok () w' ∧ Heap E h ((b, cells (splice l (o + i) vs) T) :: S) w'
  | [], l, o, i, w, _, _, H => ⟨w, rfl, H⟩
  | v :: r, l, o, i, w, h1, h2, H => by
    simp only [List.length_cons] at h2
    have hc := H.ocell (o + i)
    have hi : o + i < l.length := by omega
    obtain ⟨w', e1, e2⟩ := run_storeCells r (l.set (o + i) v) o (i + 1) (w.setCell ⟨b, o + i, none⟩ v) (fun u hu => h1 u (List.mem_cons_of_mem _ hu)) (by simp; omega) (H.setCell _ v)
    refine ⟨w', ?_, by rw [splice]; exact e2⟩
    simp only [storeCells, Addr.add_eq, Sem.run_bind]
    rw [run_store P w _ v .plain (h1 v List.mem_cons_self), hc, List.getElem?_eq_getElem hi, H.ofrozen]
    simpa using e1

theorem run_loadCells {b : Nat} : ∀ (vs : List Value) (o i : Nat) (acc : Array Value) (w : World), (∀ j v, vs[j]? = some v → w.cell? ⟨b, o + (i + j), none⟩ = some v) →
    (loadCellsFrom ⟨b, o, none⟩ i vs.length acc).run P w = .ok (acc ++ vs.toArray) w
  | [], o, i, acc, w, _ => by simp [loadCellsFrom]
  | v :: r, o, i, acc, w, hc => by
    have h0 := hc 0 v rfl
    simp only [List.length_cons, loadCellsFrom, Addr.add_eq, Sem.run_bind, run_load]
    simp only [Nat.add_zero] at h0
    rw [h0]
    simp only [Result.andThen_ok]
    rw [run_loadCells r o (i + 1) (acc.push v) w (fun j u hj => by have := hc (j + 1) u (by simpa using hj); rwa [show i + 1 + j = i + (j + 1) from by omega])]
    simp
theorem run_loadVar1 {T : TypeId} {k : Nat} {z v : Value} (ht : TyOK P T false k z) {b o : Nat} (hc : w.cell? ⟨b, o, none⟩ = some v) : (loadVar T ⟨b, o, none⟩).run P w = .ok v w := by
  simp [loadVar, ht.agg, hc]
theorem run_loadVarA {T : TypeId} {k : Nat} {z : Value} (ht : TyOK P T true k z) {b o : Nat} {vs : List Value} (hk : vs.length = k) (hc : ∀ j v, vs[j]? = some v → w.cell? ⟨b, o + j, none⟩ = some v) :
    (loadVar T ⟨b, o, none⟩).run P w = .ok (.agg vs.toArray) w := by
  subst hk
  have := run_loadCells (P := P) vs o 0 #[] w (by simpa using hc)
  simp [loadVar, loadCells, ht.agg, ht.size, this]
end

/-- block b holds o -/
inductive Has : List Frag → Nat → Obj → Prop
  | here {S b o} : Has ([(b, o)] :: S) b o
  | there {S b o F} : Has S b o → Has (F :: S) b o
/-- block b holds o in S; S' is S with o' in its place -/
inductive Upd : List Frag → Nat → Obj → Obj → List Frag → Prop
  | here {S b o o'} : Upd ([(b, o)] :: S) b o o' ([(b, o')] :: S)
  | there {S b o o' S' F} : Upd S b o o' S' → Upd (F :: S) b o o' (F :: S')
theorem Has.split {S : List Frag} {b : Nat} {o : Obj} (H : Has S b o) : ∃ R, S.flatten.Perm ((b, o) :: R) := by
  induction H with
  | here => exact ⟨_, .refl _⟩
  | there _ ih =>
    rename_i S b o F _
    obtain ⟨R, p⟩ := ih
    refine ⟨F ++ R, ?_⟩
    simp only [List.flatten_cons]
    exact (p.append_left F).trans List.perm_middle
theorem Upd.split {S : List Frag} {b : Nat} {o o' : Obj} {S' : List Frag} (H : Upd S b o o' S') : ∃ R, S.flatten.Perm ((b, o) :: R) ∧ S'.flatten.Perm ((b, o') :: R) := by
  induction H with
  | here => exact ⟨_, .refl _, .refl _⟩
  | there _ ih =>
    rename_i S b o o' S' F _
    obtain ⟨R, p, q⟩ := ih
    refine ⟨F ++ R, ?_, ?_⟩ <;> simp only [List.flatten_cons]
    · exact (p.append_left F).trans List.perm_middle
    · exact (q.append_left F).trans List.perm_middle

/-- l' is l with v at i -/
inductive SetL : List Value → Nat → Value → List Value → Prop
  | here {x l v} : SetL (x :: l) 0 v (v :: l)
  | there {x l i v l'} : SetL l i v l' → SetL (x :: l) (i + 1) v (x :: l')
theorem SetL.eq {l : List Value} {i : Nat} {v : Value} {l' : List Value} (H : SetL l i v l') : l.set i v = l' ∧ i < l.length := by
  induction H with
  | here => exact ⟨rfl, by simp⟩
  | there _ ih => exact ⟨by simp [ih.1], by simpa using ih.2⟩

section
variable {P : Program} {ops : Array Oper} {Q : Exit → Act → World → Prop} {n : Nat} {K : List (Nat × Value)} {E : World} {h : Ghost} {S : List Frag} {rest : List Oper}
  {d : Nat} {ty : TypeId} {pos : String} {af : Array Edge}

/-- load of one cell of the own blocks -/
theorem Wl.loadO {T : TypeId} {x : Operand} {b i k : Nat} {z v : Value} {l : List Value} {T' : TypeId} (ht : TyOK P T false k z) (hx : ev K x = some (.pointer (some ⟨b, i, none⟩))) (hb : Has S b (cells l T'))
    (hv : l[i]? = some v) (hd : Nat.blt d n = true) (H : Wl P ops Q rest n ((d, v) :: K) E h S) : Wl P ops Q (⟨some d, .load T x, ty, pos, af, none⟩ :: rest) n K E h S :=
  Wl.pure hd (fun a w A => by
    obtain ⟨R, p⟩ := hb.split
    have hc := (A.heap.perm p).ocell i
    rw [hv] at hc
    simp [execOp, Instr.loadAt, A.ev hx, Instr.sureAddr, run_loadVar1 ht hc]) H
/-- load of a whole own block -/
theorem Wl.loadOA {T : TypeId} {x : Operand} {b k : Nat} {z : Value} {l : List Value} {T' : TypeId} (ht : TyOK P T true k z) (hx : ev K x = some (.pointer (some ⟨b, 0, none⟩))) (hb : Has S b (cells l T'))
    (hk : l.length = k) (hd : Nat.blt d n = true) (H : Wl P ops Q rest n ((d, .agg l.toArray) :: K) E h S) : Wl P ops Q (⟨some d, .load T x, ty, pos, af, none⟩ :: rest) n K E h S :=
  Wl.pure hd (fun a w A => by
    obtain ⟨R, p⟩ := hb.split
    have hc : ∀ j v, l[j]? = some v → w.cell? ⟨b, 0 + j, none⟩ = some v := fun j v hj => by rw [(A.heap.perm p).ocell]; simpa using hj
    simp [execOp, Instr.loadAt, A.ev hx, Instr.sureAddr, run_loadVarA ht hk hc]) H
/-- load of one cell of the memory that stays -/
theorem Wl.loadG {T : TypeId} {x : Operand} {b i k : Nat} {z v : Value} (ht : TyOK P T false k z) (hx : ev K x = some (.pointer (some ⟨b, i, none⟩))) (hv : gcell h b i = some v)
    (hd : Nat.blt d n = true) (H : Wl P ops Q rest n ((d, v) :: K) E h S) : Wl P ops Q (⟨some d, .load T x, ty, pos, af, none⟩ :: rest) n K E h S :=
  Wl.pure hd (fun a w A => by
    simp [execOp, Instr.loadAt, A.ev hx, Instr.sureAddr, run_loadVar1 ht (A.heap.cell hv)]) H
/-- .. the first of a segment -/
theorem Wl.loadG1 {T : TypeId} {x : Operand} {b i k : Nat} {z v : Value} {vs : List Value} (ht : TyOK P T false k z) (hx : ev K x = some (.pointer (some ⟨b, i, none⟩))) (hv : Seg h b i (v :: vs))
    (hd : Nat.blt d n = true) (H : Wl P ops Q rest n ((d, v) :: K) E h S) : Wl P ops Q (⟨some d, .load T x, ty, pos, af, none⟩ :: rest) n K E h S :=
  Wl.loadG ht hx (by have := hv 0 v rfl; simpa using this) hd H
theorem Wl.loadGA {T : TypeId} {x : Operand} {b i k : Nat} {z : Value} {vs : List Value} (ht : TyOK P T true k z) (hx : ev K x = some (.pointer (some ⟨b, i, none⟩))) (hv : Seg h b i vs) (hk : vs.length = k)
    (hd : Nat.blt d n = true) (H : Wl P ops Q rest n ((d, .agg vs.toArray) :: K) E h S) : Wl P ops Q (⟨some d, .load T x, ty, pos, af, none⟩ :: rest) n K E h S :=
  Wl.pure hd (fun a w A => by
    simp [execOp, Instr.loadAt, A.ev hx, Instr.sureAddr, run_loadVarA ht hk (fun j v hj => A.heap.cell (hv j v hj))]) H

/-- a new variable -/
theorem Wl.alloc {T : TypeId} {agg : Bool} {k : Nat} {z : Value} (ht : TyOK P T agg k z) {l : List Value} (hl : z.cells = l.toArray) (hd : Nat.blt d n = true)
    (H : ∀ b, Wl P ops Q rest n ((d, .pointer (some ⟨b, 0, none⟩)) :: K) E h ([(b, cells l T)] :: S)) : Wl P ops Q (⟨some d, .alloc T, ty, pos, af, none⟩ :: rest) n K E h S := fun a w A => by
  refine wl_value (v := .pointer (some ⟨w.heap.size, 0, none⟩)) (w' := w.alloc (cells l T)) ?_ (H w.heap.size _ _ (A.put hd (A.heap.alloc _)))
  simp [execOp, Instr.alloc, ht.zero, newVar, newRow, hl, cells]
theorem Wl.box {T : TypeId} {x : Operand} {v : Value} {l : List Value} (hx : ev K x = some v) (hl : v.cells = l.toArray) (hd : Nat.blt d n = true)
    (H : ∀ b, Wl P ops Q rest n ((d, .pointer (some ⟨b, 0, none⟩)) :: K) E h ([(b, cells l T)] :: S)) : Wl P ops Q (⟨some d, .box T x, ty, pos, af, none⟩ :: rest) n K E h S := fun a w A => by
  refine wl_value (v := .pointer (some ⟨w.heap.size, 0, none⟩)) (w' := w.alloc (cells l T)) ?_ (H w.heap.size _ _ (A.put hd (A.heap.alloc _)))
  simp [execOp, Instr.box, A.ev hx, newVar, newRow, hl, cells]

/-- a store into the own blocks: the cells vs of the value from cell i on -/
theorem Wl.store {T : TypeId} {x y : Operand} {b i k : Nat} {agg : Bool} {z v : Value} {l vs l' : List Value} {T' : TypeId} {S' : List Frag} (ht : TyOK P T agg k z) (hx : ev K x = some (.pointer (some ⟨b, i, none⟩)))
    (hy : ev K y = some v) (hvs : v.cells = vs.toArray) (hone : ∀ u ∈ vs, one u) (hk : vs.length = k) (hlen : Nat.ble (i + vs.length) l.length = true) (hl : splice l i vs = l') (hb : Upd S b (cells l T') (cells l' T') S')
    (H : Wl P ops Q rest n K E h S') : Wl P ops Q (⟨none, .store T x y, ty, pos, af, none⟩ :: rest) n K E h S := fun a w A => by
  obtain ⟨R, p, q⟩ := hb.split
  obtain ⟨w', e1, e2⟩ := run_storeCells (P := P) vs l i 0 w hone (by have := Nat.le_of_ble_eq_true hlen; omega) (A.heap.perm p)
  rw [Nat.add_zero, hl] at e2
  refine wl_skip (w' := w') ?_ (H _ _ (A.skip (e2.perm q.symm)))
  simp [execOp, Instr.storeAt, A.ev hx, A.ev hy, Instr.sureAddr, storeVar, hvs, hk, ht.size, e1]

/-- one cell is stored -/
theorem Wl.store1 {T : TypeId} {x y : Operand} {b i : Nat} {agg : Bool} {z v : Value} {l l' : List Value} {T' : TypeId} {S' : List Frag} (ht : TyOK P T agg 1 z) (hx : ev K x = some (.pointer (some ⟨b, i, none⟩)))
    (hy : ev K y = some v) (hone : v.oneCell' = true) (hl : SetL l i v l') (hb : Upd S b (cells l T') (cells l' T') S')
    (H : Wl P ops Q rest n K E h S') : Wl P ops Q (⟨none, .store T x y, ty, pos, af, none⟩ :: rest) n K E h S :=
  Wl.store (vs := [v]) ht hx hy (one.cells hone) (fun u hu => by rw [List.mem_singleton.1 hu]; exact hone) rfl (Nat.ble_eq_true_of_le hl.eq.2) hl.eq.1 hb H
theorem Wl.storeF {T : TypeId} {x y : Operand} {b i : Nat} {agg : Bool} {z v : Value} {l l' : List Value} {T' : TypeId} {S' : List Frag} (ht : TyOK P T agg 1 z) (hx : ev K x = some (.pointer (some ⟨b, i, none⟩)))
    (hy : ev K y = some v) (hone : v.oneCell' = true) (hb : Upd S b (cells l T') (cells l' T') S') (hl : SetL l i v l')
    (H : Wl P ops Q rest n K E h S') : Wl P ops Q (⟨none, .store T x y, ty, pos, af, none⟩ :: rest) n K E h S := Wl.store1 ht hx hy hone hl hb H
/-- a whole block is stored -/
theorem Wl.storeA {T : TypeId} {x y : Operand} {b k : Nat} {agg : Bool} {z v : Value} {l vs : List Value} {T' : TypeId} {S' : List Frag} (ht : TyOK P T agg k z) (hx : ev K x = some (.pointer (some ⟨b, 0, none⟩)))
    (hy : ev K y = some v) (hvs : v.cells = vs.toArray) (hb : Upd S b (cells l T') (cells vs T') S') (hone : vs.all (fun u => u.oneCell') = true) (hk : vs.length = k) (hlen : l.length = k)
    (H : Wl P ops Q rest n K E h S') : Wl P ops Q (⟨none, .store T x y, ty, pos, af, none⟩ :: rest) n K E h S :=
  Wl.store ht hx hy hvs (fun u hu => List.all_eq_true.1 hone u hu) hk (Nat.ble_eq_true_of_le (by omega)) (by rw [splice_eq _ _ _ (by omega)]; simp; omega) hb H
end
end Go.Sx

namespace Go.Sx
open Go

/-- field f of struct type T lies at off -/
def FieldOK (P : Program) (T : TypeId) (f off : Nat) : Prop := ∀ b i w, (Instr.fieldAt T (.pointer (some ⟨b, i, none⟩)) f).run P w = .ok (.pointer (some ⟨b, i + off, none⟩)) w
theorem FieldOK.mk {P : Program} {T : TypeId} {fs : Array Field} {fd : Field} {f k off : Nat} (hT : P.underlying T = some (.struct fs)) (hf : fs[f]? = some fd) (hs : ∀ w, (sizeOf fd.type).run P w = .ok k w) (hk : Nat.beq k 0 = false) (ho : fd.offset = off) :
    FieldOK P T f off := fun b i w => by
  subst ho
  have : ¬ (k = 0) := Nat.ne_of_beq_eq_false hk
  simp [Instr.fieldAt, underlying, hT, hf, Instr.sureAddr, fieldPlace, hs, this, Addr.add_eq]

/-- a slice type -/
structure SlOK (P : Program) (T e : TypeId) (k bytes : Nat) (z : Value) : Prop where
  und : P.underlying T = some (.slice e)
  info : ∃ i, P.info? e = some i ∧ i.size = k ∧ i.bytes = bytes ∧ i.zero = some z
  zs : z.cells.size = k
  pos : 0 < k

theorem SlOK.sizeOf {P : Program} {T e : TypeId} {k bytes : Nat} {z : Value} (h : SlOK P T e k bytes z) (w : World) : (Go.sizeOf e).run P w = .ok k w := by
  obtain ⟨i, h1, h2, _⟩ := h.info
  simp [Go.sizeOf, typeInfo, h1, h2]

section
variable {P : Program} {ops : Array Oper} {Q : Exit → Act → World → Prop} {n : Nat} {K : List (Nat × Value)} {E : World} {h : Ghost} {S : List Frag} {rest : List Oper}
  {d : Nat} {ty : TypeId} {pos : String} {af : Array Edge}

theorem Wl.field {T : TypeId} {x : Operand} {f b i off : Nat} (ht : FieldOK P T f off) (hx : ev K x = some (.pointer (some ⟨b, i, none⟩))) (hd : Nat.blt d n = true)
    (H : Wl P ops Q rest n ((d, .pointer (some ⟨b, i + off, none⟩)) :: K) E h S) : Wl P ops Q (⟨some d, .fieldAddr T x f, ty, pos, af, none⟩ :: rest) n K E h S :=
  Wl.pure hd (fun a w A => by simp [execOp, A.ev hx, ht b i w]) H
/-- the address of a slice's element -/
theorem Wl.elem {T e : TypeId} {k bytes : Nat} {z : Value} {x y : Operand} {b o len cap j : Nat} {kk : IntKind} {c : Int} (ht : SlOK P T e k bytes z) (hx : ev K x = some (.slice (some ⟨b, o, none⟩) len cap)) (hy : ev K y = some (.int kk c)) (hc : c = (j : Int))
    (hj : j < len) (hd : Nat.blt d n = true) (H : Wl P ops Q rest n ((d, .pointer (some ⟨b, o + j * k, none⟩)) :: K) E h S) : Wl P ops Q (⟨some d, .indexAddr T x y, ty, pos, af, none⟩ :: rest) n K E h S :=
  Wl.pure hd (fun a w A => by
    subst hc
    have hj' : (0 : Int) ≤ (j : Int) ∧ (j : Int) < (len : Int) := by omega
    simp only [execOp, Instr.indexAt, A.ev hx, A.ev hy, asIntOf, underlying, Sem.run_bind, Sem.run_pure, Result.andThen_ok, run_program, ht.und, if_pos hj', ht.sizeOf, Addr.add_eq, Int.toNat_natCast]) H
theorem Wl.slLen {T e : TypeId} {x : Operand} {a : Option Addr} {len cap : Nat} (ht : P.underlying T = some (.slice e)) (hx : ev K x = some (.slice a len cap)) (hd : Nat.blt d n = true)
    (H : Wl P ops Q rest n ((d, .int .i64 (len : Int)) :: K) E h S) : Wl P ops Q (⟨some d, .call ⟨.builtin .len, #[x], #[T]⟩, ty, pos, af, none⟩ :: rest) n K E h S :=
  Wl.pure hd (fun a w A => by simp [execOp, resolve, invoke, builtin, Builtin.len_, A.ev hx, underlying, ht, goInt]) H
/-- x[lo:hi] of a slice, with both bounds known -/
theorem Wl.slice {T e : TypeId} {k bytes : Nat} {z : Value} {x y u : Operand} {b : Option Addr} {len cap lo hi : Nat} {k1 k2 : IntKind} {c1 c2 : Int} (ht : SlOK P T e k bytes z) (hx : ev K x = some (.slice b len cap)) (hy : ev K y = some (.int k1 c1)) (hc1 : c1 = (lo : Int))
    (hu : ev K u = some (.int k2 c2)) (hc2 : c2 = (hi : Int)) (h1 : lo ≤ hi) (h2 : hi ≤ cap) (hd : Nat.blt d n = true) (H : Wl P ops Q rest n ((d, .slice (if cap = lo then b else b.map (·.add (lo * k))) (hi - lo) (cap - lo)) :: K) E h S) :
    Wl P ops Q (⟨some d, .slice T x (some y) (some u) none, ty, pos, af, none⟩ :: rest) n K E h S :=
  Wl.pure hd (fun a w A => by
    subst hc1; subst hc2
    have e1 : (0 : Int) ≤ (hi : Int) ∧ (hi : Int) ≤ (cap : Int) := by omega
    have e2 : (0 : Int) ≤ (lo : Int) ∧ (lo : Int) ≤ (hi : Int) := by omega
    simp only [execOp, Instr.sliceAt, Instr.slice, Instr.sliceBounds, Instr.sliceBound, A.ev hx, A.ev hy, A.ev hu, Option.map_some, Option.map_none, asIntOf, underlying, Sem.run_bind, Sem.run_pure, Result.andThen_ok, run_program, ht.und, if_pos e1, if_pos e2, ht.sizeOf, Int.toNat_natCast]) H
/-- x[:hi] -/
theorem Wl.sliceHi {T e : TypeId} {k bytes : Nat} {z : Value} {x u : Operand} {b : Option Addr} {len cap hi : Nat} {k2 : IntKind} {c2 : Int} (ht : SlOK P T e k bytes z) (hx : ev K x = some (.slice b len cap))
    (hu : ev K u = some (.int k2 c2)) (hc2 : c2 = (hi : Int)) (h2 : hi ≤ cap) (hd : Nat.blt d n = true) (H : Wl P ops Q rest n ((d, .slice b hi cap) :: K) E h S) :
    Wl P ops Q (⟨some d, .slice T x none (some u) none, ty, pos, af, none⟩ :: rest) n K E h S :=
  Wl.pure hd (fun a w A => by
    subst hc2
    have e1 : (0 : Int) ≤ (hi : Int) ∧ (hi : Int) ≤ (cap : Int) := by omega
    simp only [execOp, Instr.sliceAt, Instr.slice, Instr.sliceBounds, Instr.sliceBound, A.ev hx, A.ev hu, Option.map_some, Option.map_none, asIntOf, underlying, Sem.run_bind, Sem.run_pure, Result.andThen_ok, run_program, ht.und, if_pos e1, ht.sizeOf, Int.toNat_natCast, Nat.zero_mul, Nat.sub_zero]
    have : (if cap = 0 then b else b.map (·.add 0)) = b := by split <;> first | rfl | (cases b <;> simp [Addr.add])
    rw [this]) H
/-- x[lo:] -/
theorem Wl.sliceLo {T e : TypeId} {k bytes : Nat} {z : Value} {x y : Operand} {b : Option Addr} {len cap lo : Nat} {k1 : IntKind} {c1 : Int} (ht : SlOK P T e k bytes z) (hx : ev K x = some (.slice b len cap)) (hy : ev K y = some (.int k1 c1)) (hc1 : c1 = (lo : Int))
    (h1 : lo ≤ len) (hd : Nat.blt d n = true) (H : Wl P ops Q rest n ((d, .slice (if cap = lo then b else b.map (·.add (lo * k))) (len - lo) (cap - lo)) :: K) E h S) :
    Wl P ops Q (⟨some d, .slice T x (some y) none none, ty, pos, af, none⟩ :: rest) n K E h S :=
  Wl.pure hd (fun a w A => by
    subst hc1
    have e2 : (0 : Int) ≤ (lo : Int) ∧ (lo : Int) ≤ (len : Int) := by omega
    simp only [execOp, Instr.sliceAt, Instr.slice, Instr.sliceBounds, Instr.sliceBound, A.ev hx, A.ev hy, Option.map_some, Option.map_none, asIntOf, underlying, Sem.run_bind, Sem.run_pure, Result.andThen_ok, run_program, ht.und, if_pos e2, ht.sizeOf, Int.toNat_natCast]) H
/-- s[lo:hi], s[lo:], s[:hi] of a string -/
theorem Wl.sSlice {T : TypeId} {x y u : Operand} {s : ByteArray} {lo hi : Nat} {k1 k2 : IntKind} {c1 c2 : Int} (ht : P.underlying T = some .string) (hx : ev K x = some (.string s)) (hy : ev K y = some (.int k1 c1)) (hc1 : c1 = (lo : Int))
    (hu : ev K u = some (.int k2 c2)) (hc2 : c2 = (hi : Int)) (h1 : lo ≤ hi) (h2 : hi ≤ s.size) (hd : Nat.blt d n = true) (H : Wl P ops Q rest n ((d, .string (s.extract lo hi)) :: K) E h S) :
    Wl P ops Q (⟨some d, .slice T x (some y) (some u) none, ty, pos, af, none⟩ :: rest) n K E h S :=
  Wl.pure hd (fun a w A => by
    subst hc1; subst hc2
    have e1 : (0 : Int) ≤ (hi : Int) ∧ (hi : Int) ≤ (s.size : Int) := by omega
    have e2 : (0 : Int) ≤ (lo : Int) ∧ (lo : Int) ≤ (hi : Int) := by omega
    simp [execOp, Instr.sliceAt, Instr.slice, Instr.sliceBounds, Instr.sliceBound, A.ev hx, A.ev hy, A.ev hu, asIntOf, underlying, ht, h1, h2]) H
theorem Wl.sSliceLo {T : TypeId} {x y : Operand} {s : ByteArray} {lo : Nat} {k1 : IntKind} {c1 : Int} (ht : P.underlying T = some .string) (hx : ev K x = some (.string s)) (hy : ev K y = some (.int k1 c1)) (hc1 : c1 = (lo : Int))
    (h1 : lo ≤ s.size) (hd : Nat.blt d n = true) (H : Wl P ops Q rest n ((d, .string (s.extract lo s.size)) :: K) E h S) :
    Wl P ops Q (⟨some d, .slice T x (some y) none none, ty, pos, af, none⟩ :: rest) n K E h S :=
  Wl.pure hd (fun a w A => by
    subst hc1
    simp [execOp, Instr.sliceAt, Instr.slice, Instr.sliceBounds, Instr.sliceBound, A.ev hx, A.ev hy, asIntOf, underlying, ht, h1]) H
theorem Wl.sSliceHi {T : TypeId} {x u : Operand} {s : ByteArray} {hi : Nat} {k2 : IntKind} {c2 : Int} (ht : P.underlying T = some .string) (hx : ev K x = some (.string s))
    (hu : ev K u = some (.int k2 c2)) (hc2 : c2 = (hi : Int)) (h2 : hi ≤ s.size) (hd : Nat.blt d n = true) (H : Wl P ops Q rest n ((d, .string (s.extract 0 hi)) :: K) E h S) :
    Wl P ops Q (⟨some d, .slice T x none (some u) none, ty, pos, af, none⟩ :: rest) n K E h S :=
  Wl.pure hd (fun a w A => by
    subst hc2
    simp [execOp, Instr.sliceAt, Instr.slice, Instr.sliceBounds, Instr.sliceBound, A.ev hx, A.ev hu, asIntOf, underlying, ht, h2]) H

theorem Wl.makeMap {T : TypeId} (hd : Nat.blt d n = true) (H : ∀ b, Wl P ops Q rest n ((d, .map (some b)) :: K) E h ([(b, .map #[] 0)] :: S)) :
    Wl P ops Q (⟨some d, .makeMap T none, ty, pos, af, none⟩ :: rest) n K E h S := fun a w A => by
  refine wl_value (v := .map (some w.heap.size)) (w' := w.alloc (.map #[] 0)) ?_ (H w.heap.size _ _ (A.put hd (A.heap.alloc _)))
  simp [execOp, Instr.makeMap]

/-! calls -/
theorem run_callFunc {f : FuncId} (hf : Callable P f) (args : Array Value) (w : World) : (callFunc f args).run P w = .ok (.enter f args) w := by
  obtain ⟨fn, h1, h2, h3⟩ := hf
  simp only [callFunc, Sem.run_bind, run_program, Result.andThen_ok, h1, h2, h3, if_false, Bool.false_eq_true]
  rfl

theorem Wl.call {dst : Option Tmp} {x : Operand} {xs : List Operand} {tys : Array TypeId} {f : FuncId} {vs caps : List Value} {F G : List Frag} {Post : Value → Ghost → List Frag → Prop} (hdst : dst = some d)
    (hx : ev K x = some (.func (.func f) #[] caps.toArray)) (hxs : evs K xs = some vs) (hd : Nat.blt d n = true) (hs : Spec P f (vs ++ caps) h F Post) (hp : S.Perm (F ++ G))
    (H : ∀ v h' F', h.le h' → Post v h' F' → Wl P ops Q rest n ((d, v) :: K) E h' (F' ++ G)) : Wl P ops Q (⟨dst, .call ⟨.value x, xs.toArray, tys⟩, ty, pos, af, none⟩ :: rest) n K E h S := fun a w A => by
  subst hdst
  refine wl_call (f := f) (args := (vs ++ caps).toArray) ?_ (hs.2 E G w (A.perm hp).heap) ?_
  · have e := A.evs hxs
    simp [execOp, resolve, Deferred.ofValue, A.ev hx, invoke, run_callFunc hs.1, e]
  · rintro e w' ⟨v, h', F', rfl, hl, hH, hP⟩
    exact ⟨v, rfl, H v h' F' hl hP _ _ (A.put hd hH)⟩

/-- a call of a function that is handed no block that turns -/
theorem Wl.callP {x : Operand} {xs : List Operand} {tys : Array TypeId} {f : FuncId} {vs caps : List Value} {Post : Value → Ghost → Prop}
    (hx : ev K x = some (.func (.func f) #[] caps.toArray)) (hxs : evs K xs = some vs) (hd : Nat.blt d n = true) (hs : SpecP P f (vs ++ caps) h Post)
    (H : ∀ v h', h.le h' → Post v h' → Wl P ops Q rest n ((d, v) :: K) E h' S) : Wl P ops Q (⟨some d, .call ⟨.value x, xs.toArray, tys⟩, ty, pos, af, none⟩ :: rest) n K E h S :=
  Wl.call (F := []) (G := S) rfl hx hxs hd hs (.refl _) fun v h' F' hl ⟨e, hp⟩ => by subst e; exact H v h' hl hp

/-- a function's value that hangs on its arguments alone: it lays or keeps what it likes beside -/
def SpecV (P : Program) (f : FuncId) (args : List Value) (h : Ghost) (v : Value) : Prop := SpecP P f args h fun u _ => u = v
theorem Wl.callV {x : Operand} {xs : List Operand} {tys : Array TypeId} {f : FuncId} {vs caps : List Value} {v : Value}
    (hx : ev K x = some (.func (.func f) #[] caps.toArray)) (hxs : evs K xs = some vs) (hd : Nat.blt d n = true) (hs : SpecV P f (vs ++ caps) h v)
    (H : Wl P ops Q rest n ((d, v) :: K) E h S) : Wl P ops Q (⟨some d, .call ⟨.value x, xs.toArray, tys⟩, ty, pos, af, none⟩ :: rest) n K E h S := fun a w A => by
  refine wl_call (f := f) (args := (vs ++ caps).toArray) ?_ (hs.2 E S w A.heap) ?_
  · have e := A.evs hxs
    simp [execOp, resolve, Deferred.ofValue, A.ev hx, invoke, run_callFunc hs.1, e]
  · rintro e w' ⟨v, h', F', rfl, hl, hH, rfl, rfl⟩
    refine ⟨_, rfl, H _ _ (A.put hd ⟨hH.os, hH.tape, hH.output, hH.drawn, fun b o e => hH.imm b o (hl b o e), hH.own, fun p hp => ?_, hH.nodup⟩)⟩
    have := hH.fresh p (by simpa using hp)
    cases e : h p.1 with
    | none => rfl
    | some o => rw [hl _ _ e] at this; cases this
end

/-! ### append -/
/-- a slice of the call's own (or nil): n elements of k cells, which are xs -/
def Row (F : Frag) (v : Value) (e : TypeId) (k n : Nat) (xs : List Value) : Prop :=
  xs.length = n * k ∧ ((F = [] ∧ v = .slice none 0 0 ∧ n = 0) ∨
    ∃ b cap sp, F = [(b, cells (xs ++ sp) e)] ∧ v = .slice (some ⟨b, 0, none⟩) n cap ∧ n ≤ cap ∧ (xs ++ sp).length = cap * k)

theorem Row.nil (e : TypeId) (k : Nat) : Row [] (.slice none 0 0) e k 0 [] := ⟨by simp, .inl ⟨rfl, rfl, rfl⟩⟩

/-- fragment F is replaced by F' -/
inductive UpdF : List Frag → Frag → Frag → List Frag → Prop
  | here {S F F'} : UpdF (F :: S) F F' (F' :: S)
  | there {S F F' S' G} : UpdF S F F' S' → UpdF (G :: S) F F' (G :: S')
theorem UpdF.split {S : List Frag} {F : Frag} {A B : List Frag} (hS : S = A ++ F :: B) : S.flatten.Perm (F ++ (A ++ B).flatten) := by
  subst hS
  simp only [List.flatten_append, List.flatten_cons]
  rw [← List.append_assoc, ← List.append_assoc]
  exact List.perm_append_comm.append_right _

theorem Heap.mem {E : World} {h : Ghost} {S : Frag} {w : World} (H : Heap E h S w) {b : Nat} {o : Obj} (hb : (b, o) ∈ S) : w.heap[b]? = some o := H.own (b, o) hb

section
variable {P : Program} {E : World} {h : Ghost} {S : Frag} {w : World}
theorem run_append {T e : TypeId} {k bytes : Nat} {z : Value} (ht : SlOK P T e k bytes z) (ty : TypeId) {F : Frag} {v : Value} {m : Nat} {xs : List Value} (hr : Row F v e k m xs) (H : Heap E h (F ++ S) w)
    {src : Option Addr} {c p : Nat} {news : List Value} (hn : news.length = p * k) (hsrc : ∀ j u, news[j]? = some u → ∃ b o, src = some ⟨b, o, none⟩ ∧ w.cell? ⟨b, o + j, none⟩ = some u) (h1 : ∀ u ∈ news, one u)
    (hb : (m + p) * bytes ≤ 140737488355328) (h63 : m + p ≤ 9223372036854775807) :
    ∃ v' F' w', (Builtin.append_ #[T, T] ty #[v, .slice src p c]).run P w = .ok v' w' ∧ Row F' v' e k (m + p) (xs ++ news) ∧ Heap E h (F' ++ S) w' := by
  obtain ⟨i, hi, hsz, hby, hz⟩ := ht.info
  subst hsz; subst hby
  have hlen : (xs ++ news).length = (m + p) * i.size := by rw [List.length_append, hr.1, hn, Nat.add_mul]
  by_cases hp : p = 0
  · subst hp
    have hnn : news = [] := List.eq_nil_of_length_eq_zero (by simpa using hn)
    subst hnn
    rcases hr.2 with ⟨rfl, rfl, rfl⟩ | ⟨b, cap, sp, rfl, rfl, hc, hl⟩
    · have hx : xs = [] := List.eq_nil_of_length_eq_zero (by simpa using hr.1)
      subst hx
      refine ⟨.slice none 0 0, [], w, ?_, by simpa using Row.nil e i.size, H⟩
      cases src <;> simp [Builtin.append_, run_underlying ht.und, Go.sizeOf, typeInfo, hi, Builtin.lenOf, Builtin.firstCells, loadCells, loadCellsFrom]
    · refine ⟨.slice (some ⟨b, 0, none⟩) m cap, _, w, ?_, by simpa using hr, H⟩
      cases src <;> simp [Builtin.append_, run_underlying ht.und, Go.sizeOf, typeInfo, hi, Builtin.lenOf, Builtin.firstCells, loadCells, loadCellsFrom, hc, storeCells]
  · have hpos : 0 < news.length := by rw [hn]; exact Nat.mul_pos (by omega) ht.pos
    obtain ⟨bs, os, rfl, _⟩ := hsrc 0 news[0] (List.getElem?_eq_getElem hpos)
    have hnews : ∀ j u, news[j]? = some u → w.cell? ((⟨bs, os, none⟩ : Addr).add j) = some u := fun j u hj => by
      obtain ⟨b, o, e1, e2⟩ := hsrc j u hj
      cases e1
      rw [Addr.add_eq]; exact e2
    -- the world behind a new array
    have grown : ∀ (olds : List Value) (old : Nat) , olds = xs → old < m + p → ∀ S', Heap E h S' w →
        Row [(w.heap.size, cells (xs ++ news ++ (Builtin.zeroCells z.cells (grownCap w (m + p) old e - (m + p))).toList) e)] (.slice (some ⟨w.heap.size, 0, none⟩) (m + p) (grownCap w (m + p) old e)) e i.size (m + p) (xs ++ news) ∧
        Heap E h ((w.heap.size, cells (xs ++ news ++ (Builtin.zeroCells z.cells (grownCap w (m + p) old e - (m + p))).toList) e) :: S') (w.drew.alloc (.cells (olds.toArray ++ news.toArray ++ Builtin.zeroCells z.cells (grownCap w (m + p) old e - (m + p))) e)) := by
      intro olds old ho hlt S' HS
      subst ho
      have hge := grownCap_ge w (m + p) old e
      refine ⟨⟨hlen, .inr ⟨_, _, _, rfl, rfl, hge, ?_⟩⟩, ?_⟩
      · rw [List.length_append, hlen, Array.length_toList, size_zeroCells, ht.zs, ← Nat.add_mul]; congr 1; omega
      · have e1 : (Obj.cells (olds.toArray ++ news.toArray ++ Builtin.zeroCells z.cells (grownCap w (m + p) old e - (m + p))) e) = cells (olds ++ news ++ (Builtin.zeroCells z.cells (grownCap w (m + p) old e - (m + p))).toList) e := by
          unfold cells; congr 1; apply Array.ext'; simp
        rw [e1]
        exact HS.drew.alloc _
    rcases hr.2 with ⟨rfl, rfl, rfl⟩ | ⟨b, cap, sp, rfl, rfl, hc, hl⟩
    · have hx : xs = [] := List.eq_nil_of_length_eq_zero (by simpa using hr.1)
      have hr' := run_append_nil (P := P) w T ty e i z ht.und hi hz ⟨bs, os, none⟩ p c news hn hnews (by omega) (by omega) (by have hb := hb; simp only [Nat.zero_add] at hb; omega)
      obtain ⟨g1, g2⟩ := grown [] 0 hx.symm (by omega) S (by simpa using H)
      simp only [Nat.zero_add, Array.empty_append] at g1 g2 hr' ⊢
      exact ⟨_, _, _, hr', g1, by simpa using g2⟩
    · have hg := H.mem (b := b) (o := cells (xs ++ sp) e) (by simp)
      by_cases hroom : m + p ≤ cap
      · have hfit : m * i.size + news.length ≤ (xs ++ sp).toArray.size := by rw [List.size_toArray, hl, hn, ← Nat.add_mul]; exact Nat.mul_le_mul_right _ hroom
        have hr' := run_append_room (P := P) w T ty e i ht.und hi b m cap (xs ++ sp).toArray hg ⟨bs, os, none⟩ p c news hn hnews h1 hroom hfit
        have hfit' : m * i.size + news.length ≤ (xs ++ sp).length := by simpa using hfit
        have e1 : (List.take (m * i.size) (xs ++ sp).toArray.toList ++ news ++ List.drop (m * i.size + news.length) (xs ++ sp).toArray.toList) = (xs ++ news) ++ sp.drop news.length := by
          rw [← hr.1]
          simp
        rw [e1] at hr'
        refine ⟨_, [(b, cells (xs ++ news ++ sp.drop news.length) e)], _, hr', ⟨hlen, .inr ⟨b, cap, _, rfl, rfl, hroom, ?_⟩⟩, ?_⟩
        · rw [← hl]
          rw [← hr.1] at hfit'
          simp only [List.length_append, List.length_drop] at hfit' ⊢
          omega
        · refine Heap.set (w := w) (o := cells (xs ++ sp) e) (by simpa using H) _ ?_ rfl rfl rfl
          have hlt := (Array.getElem?_eq_some_iff.1 hg).1
          apply Array.ext_getElem?
          intro j
          by_cases hj : j = b
          · subst hj
            rw [setRow_heap w j _ _ e (0, 0) hg]
            simp [hlt, cells]
          · rw [setRow_other w b j _ hj, Array.getElem?_setIfInBounds_ne (Ne.symm hj)]
      · have holds : ∀ j u, xs[j]? = some u → w.cell? ((⟨b, 0, none⟩ : Addr).add j) = some u := fun j u hj => by
          rw [Addr.add_eq, Nat.zero_add]
          have := Heap.ocell (l := xs ++ sp) (T := e) (b := b) (by simpa using H) j
          rw [this, List.getElem?_append_left ((List.getElem?_eq_some_iff.1 hj).1)]
          exact hj
        have hr' := run_append_grow (P := P) w T ty e i z ht.und hi hz ⟨b, 0, none⟩ m cap xs hr.1 holds ⟨bs, os, none⟩ p c news hn hnews (by omega) (by omega) (growslice_fits (by omega) hb)
        obtain ⟨g1, g2⟩ := grown xs cap rfl (by omega) S H.drop
        exact ⟨_, _, _, hr', g1, by simpa using g2⟩
end

section
variable {P : Program} {ops : Array Oper} {Q : Exit → Act → World → Prop} {n : Nat} {K : List (Nat × Value)} {E : World} {h : Ghost} {S : List Frag} {rest : List Oper}
  {d : Nat} {ty : TypeId} {pos : String} {af : Array Edge}
/-- append onto a slice of the call's own; A, B: the fragments ahead of it and behind it -/
theorem Wl.append {T e : TypeId} {k bytes : Nat} {z : Value} {x y : Operand} {F : Frag} {v : Value} {m : Nat} {xs : List Value} (A B : List Frag) {src : Option Addr} {c p : Nat} (news : List Value)
    (ht : SlOK P T e k bytes z) (hx : ev K x = some v) (hy : ev K y = some (.slice src p c)) (hS : S = A ++ F :: B) (hr : Row F v e k m xs) (hd : Nat.blt d n = true)
    (hn : news.length = p * k) (hsrc : ∀ a w, As n K E h S a w → ∀ j u, news[j]? = some u → ∃ b o, src = some ⟨b, o, none⟩ ∧ w.cell? ⟨b, o + j, none⟩ = some u) (h1 : ∀ u ∈ news, one u)
    (hb : (m + p) * bytes ≤ 140737488355328) (h63 : m + p ≤ 9223372036854775807)
    (H : ∀ v' F', Row F' v' e k (m + p) (xs ++ news) → Wl P ops Q rest n ((d, v') :: K) E h (A ++ F' :: B)) :
    Wl P ops Q (⟨some d, .call ⟨.builtin .append, #[x, y], #[T, T]⟩, ty, pos, af, none⟩ :: rest) n K E h S := fun a w Ha => by
  have hp := UpdF.split hS
  obtain ⟨v', F', w', e1, e2, e3⟩ := run_append (P := P) (c := c) ht ty hr (Ha.heap.perm hp) hn (hsrc a w Ha) h1 hb h63
  refine wl_value (w' := w') ?_ (H v' F' e2 _ _ (Ha.put hd (e3.perm (UpdF.split (S := A ++ F' :: B) rfl).symm)))
  simp [execOp, resolve, invoke, builtin, Ha.ev hx, Ha.ev hy, e1]
/-- where what is appended comes from: an own block -/
theorem srcO {b o : Nat} {l news : List Value} {T : TypeId} {src : Option Addr} (hs : src = some ⟨b, o, none⟩) (hb : Has S b (cells l T)) (hl : ∀ j u, news[j]? = some u → l[o + j]? = some u) :
    ∀ a w, As n K E h S a w → ∀ j u, news[j]? = some u → ∃ b o, src = some ⟨b, o, none⟩ ∧ w.cell? ⟨b, o + j, none⟩ = some u := fun _ _ A j u hj => by
  obtain ⟨R, p⟩ := hb.split
  exact ⟨b, o, hs, by rw [(A.heap.perm p).ocell]; exact hl j u hj⟩
/-- .. or the memory that stays -/
theorem srcG {b o : Nat} {news : List Value} {src : Option Addr} (hs : src = some ⟨b, o, none⟩) (hl : Seg h b o news) :
    ∀ a w, As n K E h S a w → ∀ j u, news[j]? = some u → ∃ b o, src = some ⟨b, o, none⟩ ∧ w.cell? ⟨b, o + j, none⟩ = some u := fun _ _ A j u hj =>
  ⟨b, o, hs, A.heap.cell (hl j u hj)⟩
end
end Go.Sx

namespace Go.Sx
open Go
/-- the state is reached -/
def Reach (A : Act → World → Prop) : Exit → Act → World → Prop
  | .normal, a, w => A a w
  | _, _, _ => False

section
variable {P : Program} {ops : Array Oper} {Q : Exit → Act → World → Prop}
theorem Oper.wp_weaken {o : Oper} {a : Act} {w : World} {K K' : Act → World → Prop} {Q' : Exit → Act → World → Prop} (hK : ∀ a w, K a w → K' a w) (hQ : ∀ e a w, e ≠ .normal → Q e a w → Q' e a w)
    (H : o.wp P a w K Q) : o.wp P a w K' Q' := by
  unfold Oper.wp at *
  generalize (execOp a.eval o).run P w = r at *
  cases r with
  | ok x w' =>
    cases x <;> simp only [Oper.upon] at * <;> first | exact hK _ _ H | skip
    case enter f args =>
      refine H.mono fun e w'' h => ?_
      cases e with
      | returned v => exact hK _ _ h
      | panicked ch => exact hQ _ _ _ (by simp) h
      | outgrown => obtain ⟨a0, w0, h⟩ := h; exact ⟨a0, w0, hQ _ _ _ (by simp) h⟩
    case row r args => exact H.mono fun v w'' h => hK _ _ h
  | halt x w' => cases x <;> simp only [Oper.upon] at * <;> exact hQ _ _ _ (by simp) H

theorem wpList_append {l2 : List Oper} (A : Act → World → Prop) (hA : ∀ a w, A a w → wpList P ops Q l2 a w) : ∀ (l1 : List Oper) (a : Act) (w : World), wpList P ops (Reach A) l1 a w → wpList P ops Q (l1 ++ l2) a w
  | [], a, w, H => hA a w H
  | o :: l1, a, w, H => by
    have ih := wpList_append A hA l1
    simp only [List.cons_append, wpList] at H ⊢
    split
    · rename_i hw
      rw [if_pos hw] at H
      rcases H with H | ⟨_, a0, w0, h⟩
      · exact .inl (Oper.wp_weaken (Q := Reach A) (fun a w h => ih a w h) (fun e a w hne h => by cases e <;> first | exact h.elim | exact absurd rfl hne) H)
      · exact h.elim
    · rename_i hw
      rw [if_neg hw] at H
      exact ih _ _ H

variable {n : Nat} {K K' K1 : List (Nat × Value)} {E : World} {h h' : Ghost} {S S' : List Frag} {c : Code}

/-- a part of a region, then the rest -/
theorem Wl.cut {l1 l2 : List Oper} (H1 : Wl P ops (Reach (As n K' E h' S')) l1 n K E h S) (H2 : Wl P ops Q l2 n K' E h' S') : Wl P ops Q (l1 ++ l2) n K E h S :=
  fun a w A => wpList_append _ H2 l1 a w (H1 a w A)
theorem Wx.reach (hs : Sub K' K) : Wx (Reach (As n K' E h S)) .normal n K E h S := fun _ _ A => A.sub hs

theorem Sub.refl (K : List (Nat × Value)) : Sub K K := fun _ _ e => e
/-- a slot of which K' knows nothing -/
theorem Sub.skip {d : Nat} {v : Value} (hd : get K' d = none) (r : Sub K' K) : Sub K' ((d, v) :: K) := fun j u hj => by
  simp only [get]
  cases hb : Nat.beq d j with
  | true => rw [← Nat.eq_of_beq_eq_true hb, hd] at hj; cases hj
  | false => exact r j u hj
/-- a slot that holds what K' says -/
theorem Sub.same {d : Nat} {v u : Value} (hd : get K' d = some u) (e : u = v) (r : Sub K' K) : Sub K' ((d, v) :: K) := fun j x hj => by
  simp only [get]
  cases hb : Nat.beq d j with
  | true => rw [← Nat.eq_of_beq_eq_true hb, hd] at hj; simp only [cond_true]; rw [← hj, e]
  | false => exact r j x hj

/-- 'c && x': the guarded operations l1, the pick among them -/
theorem Wl.andB {l1 l2 : List Oper} {i d : Nat} {b : Bool} (x : Bool) (hc : get K i = some (.bool b))
    (HT : b = true → Wl P ops (Reach (As n ((d, .bool x) :: K) E h S)) l1 n ((i, .bool true) :: K) E h S)
    (HF : b = false → Wl P ops (Reach (As n ((d, .bool false) :: K) E h S)) l1 n ((i, .bool false) :: K) E h S)
    (H : Wl P ops Q l2 n ((d, .bool (b && x)) :: K) E h S) : Wl P ops Q (l1 ++ l2) n K E h S := by
  refine Wl.cut ?_ H
  cases b with
  | true => exact fun a w A => HT rfl a w (A.sub (Sub.cons hc (Sub.refl _)))
  | false => exact fun a w A => HF rfl a w (A.sub (Sub.cons hc (Sub.refl _)))
/-- 'c || x' -/
theorem Wl.orB {l1 l2 : List Oper} {i d : Nat} {b : Bool} (x : Bool) (hc : get K i = some (.bool b))
    (HT : b = true → Wl P ops (Reach (As n ((d, .bool true) :: K) E h S)) l1 n ((i, .bool true) :: K) E h S)
    (HF : b = false → Wl P ops (Reach (As n ((d, .bool x) :: K) E h S)) l1 n ((i, .bool false) :: K) E h S)
    (H : Wl P ops Q l2 n ((d, .bool (b || x)) :: K) E h S) : Wl P ops Q (l1 ++ l2) n K E h S := by
  refine Wl.cut ?_ H
  cases b with
  | true => exact fun a w A => HT rfl a w (A.sub (Sub.cons hc (Sub.refl _)))
  | false => exact fun a w A => HF rfl a w (A.sub (Sub.cons hc (Sub.refl _)))

/-- code, then the rest: all ways meet in one state, told by x : ι -/
theorem Wc.cut {ι : Type} (I : ι → Prop) (KK : ι → List (Nat × Value)) (hh : ι → Ghost) (SS : ι → List Frag)
    (H1 : Wc P (Exit.then (fun a w => ∃ y, I y ∧ As n (KK y) E (hh y) (SS y) a w) Q) c n K E h S)
    (H2 : ∀ y, I y → Wx Q .normal n (KK y) E (hh y) (SS y)) : Wc P Q c n K E h S := fun a w A =>
  Code.wp_mono (fun e a w q => by
    cases e <;> first | exact q | skip
    obtain ⟨y, hy, hA⟩ := q
    exact H2 y hy a w hA) (H1 a w A)
theorem Wx.meet {ι : Type} {I : ι → Prop} {KK : ι → List (Nat × Value)} {hh : ι → Ghost} {SS : ι → List Frag} (y : ι) (hI : I y)
    (hK : Sub (KK y) K) (hh0 : h = hh y) (hS : Drops S (SS y)) :
    Wx (Exit.then (fun a w => ∃ y, I y ∧ As n (KK y) E (hh y) (SS y) a w) Q) .normal n K E h S := fun a w A => by
  subst hh0
  exact ⟨y, hI, (A.sub hK).drops hS⟩
/-- the same, one state -/
theorem Wc.cut1 (K' : List (Nat × Value)) (h' : Ghost) (S' : List Frag)
    (H1 : Wc P (Exit.then (As n K' E h' S') Q) c n K E h S)
    (H2 : Wx Q .normal n K' E h' S') : Wc P Q c n K E h S := fun a w A =>
  Code.wp_mono (fun e a w q => by
    cases e <;> first | exact q | skip
    exact H2 a w q) (H1 a w A)
theorem Wx.meet1 (hK : Sub K' K) : Wx (Exit.then (As n K' E h S) Q) .normal n K E h S := fun _ _ A => A.sub hK
end
end Go.Sx

namespace Go.Sx
open Go
section
variable {P : Program} {f : FuncId} {args : List Value} {h : Ghost} {v : Value}
theorem Heap.drewN {E : World} {S : Frag} {w : World} (H : Heap E h S w) (n : Nat) : Heap E h S (w.drewN n) :=
  ⟨H.os, H.tape, H.output, Nat.le_trans H.drawn (Nat.le_add_right _ _), H.imm, H.own, H.fresh, H.nodup⟩

theorem SpecV.of_keep (hc : Callable P f) (H : ∀ E S w, Heap E h S w → Calls P f args.toArray w fun e w' => e = .returned v ∧ Heap E h S w') : SpecV P f args h v :=
  ⟨hc, fun E R w A => (H E R.flatten w A).mono fun _ _ ⟨e, A'⟩ => ⟨v, h, [], e, Ghost.le.refl _, A', rfl, rfl⟩⟩
theorem SpecV.of_same (hc : Callable P f) (H : ∀ w, Calls P f args.toArray w fun e w' => e = .returned v ∧ w' = w) : SpecV P f args h v :=
  .of_keep hc fun _ _ w A => (H w).mono fun _ _ ⟨e, e'⟩ => ⟨e, e' ▸ A⟩
theorem SpecV.of_drewN (hc : Callable P f) (H : ∀ w, Calls P f args.toArray w fun e w' => e = .returned v ∧ ∃ n, w' = w.drewN n) : SpecV P f args h v :=
  .of_keep hc fun _ _ w A => (H w).mono fun _ _ ⟨e, n, e'⟩ => ⟨e, e' ▸ A.drewN n⟩
/-- the same where the memory that stays is looked at -/
theorem SpecV.of_drewN' (hc : Callable P f) (H : ∀ E S w, Heap E h S w → Calls P f args.toArray w fun e w' => e = .returned v ∧ ∃ n, w' = w.drewN n) : SpecV P f args h v :=
  .of_keep hc fun E S w A => (H E S w A).mono fun _ _ ⟨e, n, e'⟩ => ⟨e, e' ▸ A.drewN n⟩
theorem SpecV.of_same' (hc : Callable P f) (H : ∀ E S w, Heap E h S w → Calls P f args.toArray w fun e w' => e = .returned v ∧ w' = w) : SpecV P f args h v :=
  .of_keep hc fun E S w A => (H E S w A).mono fun _ _ ⟨e, e'⟩ => ⟨e, e' ▸ A⟩

/-- a function that hands back one value in one slot -/
theorem SpecV.congr {u : Value} (H : SpecV P f args h u) (e : u = v) : SpecV P f args h v := e ▸ H
end

section
variable {P : Program} {n : Nat} {K : List (Nat × Value)} {E : World} {h h₀ : Ghost} {R L : List Frag} {fn : Func}
/-- THE END of a function whose value is u -/
theorem endV {v u : Value} {t : Tmp} (e : Exit) (he : e = .ret ∨ e = .normal) (hf : fn.results = #[.tmp t]) (hv : get K t = some v) (L : List Frag) (hl : h₀.le h) (hu : v = u) :
    Wx (Fin P fn E h₀ R fun v _ F' => F' = [] ∧ v = u) e n K E h (L ++ R) :=
  Fin.slots e he (run_tmp hf hv) hl (fun _ _ => ⟨rfl, hu⟩)
/-- THE END of a function whose value is told by a relation; L: its own blocks, which stay from now on -/
theorem endP {L R : List Frag} {v : Value} {t : Tmp} {Post : Value → Ghost → Prop} (e : Exit) (he : e = .ret ∨ e = .normal) (hf : fn.results = #[.tmp t]) (hv : get K t = some v) (hl : h₀.le h)
    (hp : (∀ p, p ∈ L.flatten → (h.ext L.flatten) p.1 = some p.2) → h.le (h.ext L.flatten) → Post v (h.ext L.flatten)) :
    Wx (Fin P fn E h₀ R fun v h' F' => F' = [] ∧ Post v h') e n K E h (L ++ R) :=
  Fin.slots e he (run_tmp hf hv) hl (fun a b => ⟨rfl, hp a b⟩)
theorem of_beq {a b : Int} (h : (a == b) = true) : a = b := by simpa using h
theorem of_nbeq {a b : Int} (h : (a == b) = false) : ¬ a = b := by simpa using h
end

theorem all_take_succ {α : Type} {l : List α} {p : α → Bool} {i : Nat} {x : α} (hx : l[i]? = some x) (h1 : (l.take i).all p = true) (h2 : p x = true) : (l.take (i + 1)).all p = true := by
  rw [List.take_add_one, hx, List.all_append, h1]; simp [h2]
theorem not_all {α : Type} {l : List α} {p : α → Bool} {i : Nat} {x : α} (hx : l[i]? = some x) (h : p x = false) : ¬ l.all p = true := fun hh => by
  rw [List.all_eq_true] at hh; rw [hh x (List.mem_of_getElem? hx)] at h; cases h

/-! ### data -/
/-- A slice value over the list l; R tells the cells of an element, k of them. -/
def Sl {α : Type} (h : Ghost) (R : α → List Value → Prop) (k : Nat) (v : Value) (l : List α) : Prop :=
  ∃ ao cap, v = .slice ao l.length cap ∧ l.length ≤ cap ∧ (l = [] ∨ ∃ b o, ao = some ⟨b, o, none⟩ ∧ ∀ i x, l[i]? = some x → ∃ vs, R x vs ∧ vs.length = k ∧ Seg h b (o + i * k) vs)

theorem Sl.mono {α : Type} {h h' : Ghost} {R R' : α → List Value → Prop} {k : Nat} {v : Value} {l : List α} (H : Sl h R k v l) (hl : h.le h') (hR : ∀ x ∈ l, ∀ vs, R x vs → R' x vs) : Sl h' R' k v l := by
  obtain ⟨ao, cap, e, hc, r⟩ := H
  refine ⟨ao, cap, e, hc, r.imp id ?_⟩
  rintro ⟨b, o, e, r⟩
  exact ⟨b, o, e, fun i x hx => let ⟨vs, h1, h2, h3⟩ := r i x hx; ⟨vs, hR x (List.mem_of_getElem? hx) vs h1, h2, h3.mono hl⟩⟩

theorem Sl.nil {α : Type} (h : Ghost) (R : α → List Value → Prop) (k : Nat) (a : Option Addr) (c : Nat) : Sl h R k (.slice a 0 c) ([] : List α) := ⟨a, c, rfl, Nat.zero_le _, .inl rfl⟩

/-- an element's cells -/
theorem Sl.elem {α : Type} {h : Ghost} {R : α → List Value → Prop} {k cap : Nat} {b o : Nat} {len : Nat} {l : List α} (H : Sl h R k (.slice (some ⟨b, o, none⟩) len cap) l) {i : Nat} {x : α} (hx : l[i]? = some x) :
    ∃ vs, R x vs ∧ vs.length = k ∧ Seg h b (o + i * k) vs := by
  obtain ⟨ao, cap, e, _, r⟩ := H
  cases e
  rcases r with rfl | ⟨b, o, e, r⟩
  · simp at hx
  · cases e; exact r i x hx

theorem Sl.take {α : Type} {h : Ghost} {R : α → List Value → Prop} {k cap n : Nat} {ao : Option Addr} {l : List α} (H : Sl h R k (.slice ao n cap) l) {i : Nat} (hi : i ≤ l.length) : Sl h R k (.slice ao i cap) (l.take i) := by
  obtain ⟨a, c, e, hc, r⟩ := H
  cases e
  refine ⟨ao, cap, by rw [List.length_take, Nat.min_eq_left hi], by rw [List.length_take]; omega, ?_⟩
  rcases r with rfl | ⟨b, o, rfl, r⟩
  · exact .inl (by simp)
  · refine .inr ⟨b, o, rfl, fun j x hx => ?_⟩
    rw [List.getElem?_take] at hx
    split at hx
    · exact r j x hx
    · cases hx
theorem Sl.shape {α : Type} {h : Ghost} {R : α → List Value → Prop} {k : Nat} {v : Value} {l : List α} (H : Sl h R k v l) : ∃ ao cap, v = .slice ao l.length cap ∧ l.length ≤ cap := by
  obtain ⟨ao, cap, e, hc, _⟩ := H; exact ⟨ao, cap, e, hc⟩

section
variable {P : Program} {ops : Array Oper} {Q : Exit → Act → World → Prop} {n : Nat} {K : List (Nat × Value)} {E : World} {h : Ghost} {S : List Frag} {rest : List Oper}
  {d : Nat} {ty : TypeId} {pos : String} {af : Array Edge}
/-- the address of an element of a slice that stays -/
theorem Wl.elemS {α : Type} {R : α → List Value → Prop} {T e : TypeId} {k bytes : Nat} {z v : Value} {x y : Operand} {l : List α} {i : Nat} {a : α} {kk : IntKind} {c : Int} (ht : SlOK P T e k bytes z) (hx : ev K x = some v) (hs : Sl h R k v l)
    (hy : ev K y = some (.int kk c)) (hc : c = (i : Int)) (hi : l[i]? = some a) (hd : Nat.blt d n = true)
    (H : ∀ b o vs, R a vs → vs.length = k → Seg h b o vs → Wl P ops Q rest n ((d, .pointer (some ⟨b, o, none⟩)) :: K) E h S) : Wl P ops Q (⟨some d, .indexAddr T x y, ty, pos, af, none⟩ :: rest) n K E h S := by
  obtain ⟨ao, cap, e, hcap, r⟩ := hs
  rcases r with rfl | ⟨b, o, rfl, r⟩
  · simp at hi
  · obtain ⟨vs, h1, h2, h3⟩ := r i a hi
    subst e
    exact Wl.elem ht hx hy hc (List.getElem?_eq_some_iff.1 hi).1 hd (H b _ vs h1 h2 h3)
/-- .. whose elements are flat -/
theorem Wl.elemF {α : Type} {enc : α → List Value} {T e : TypeId} {k bytes : Nat} {z v : Value} {x y : Operand} {l : List α} {i : Nat} {a : α} {kk : IntKind} {c : Int} (ht : SlOK P T e k bytes z) (hx : ev K x = some v) (hs : Sl h (fun x vs => vs = enc x) k v l)
    (hy : ev K y = some (.int kk c)) (hc : c = (i : Int)) (hi : l[i]? = some a) (hd : Nat.blt d n = true)
    (H : ∀ b o, Seg h b o (enc a) → Wl P ops Q rest n ((d, .pointer (some ⟨b, o, none⟩)) :: K) E h S) : Wl P ops Q (⟨some d, .indexAddr T x y, ty, pos, af, none⟩ :: rest) n K E h S :=
  Wl.elemS ht hx hs hy hc hi hd fun b o _vs e _ hseg => H b o (e ▸ hseg)
end

/-- flat elements: the cells of all -/
theorem Sl.seg {α : Type} {h : Ghost} {enc : α → List Value} {k : Nat} {b o : Nat} {l : List α} (r : ∀ i x, l[i]? = some x → ∃ vs, vs = enc x ∧ vs.length = k ∧ Seg h b (o + i * k) vs) :
    Seg h b o (l.flatMap enc) ∧ (l.flatMap enc).length = l.length * k := by
  induction l generalizing o with
  | nil => exact ⟨fun i v hv => by simp at hv, by simp⟩
  | cons x l ih =>
    obtain ⟨vs, rfl, hk, hs⟩ := r 0 x rfl
    obtain ⟨ih1, ih2⟩ := ih (o := o + k) (fun i y hy => by
      obtain ⟨vs, e1, e2, e3⟩ := r (i + 1) y (by simpa using hy)
      refine ⟨vs, e1, e2, ?_⟩
      rw [Nat.add_mul, Nat.one_mul] at e3
      rwa [show o + k + i * k = o + (i * k + k) from by omega])
    refine ⟨fun i v hv => ?_, by simp [ih2, hk, Nat.add_mul]; omega⟩
    simp only [List.flatMap_cons] at hv
    rcases Nat.lt_or_ge i (enc x).length with hi | hi
    · rw [List.getElem?_append_left hi] at hv
      have := hs i v hv
      simpa using this
    · rw [List.getElem?_append_right hi] at hv
      have := ih1 _ v hv
      rwa [show o + k + (i - (enc x).length) = o + i from by omega] at this
/-- .. and back -/
theorem Sl.of_seg {α : Type} {h : Ghost} {enc : α → List Value} {k : Nat} {b o cap : Nat} {l : List α} (hk : ∀ x, (enc x).length = k) (hs : Seg h b o (l.flatMap enc)) (hc : l.length ≤ cap) :
    Sl h (fun x vs => vs = enc x) k (.slice (some ⟨b, o, none⟩) l.length cap) l := by
  refine ⟨_, cap, rfl, hc, .inr ⟨b, o, rfl, ?_⟩⟩
  clear hc
  induction l generalizing o with
  | nil => intro i x hx; simp at hx
  | cons y l ih =>
    intro i x hx
    rw [List.flatMap_cons] at hs
    match i, hx with
    | 0, hx => simp at hx; subst hx; exact ⟨_, rfl, hk _, by simpa using hs.take⟩
    | i + 1, hx =>
      obtain ⟨vs, e1, e2, e3⟩ := ih (o := o + (enc y).length) hs.drop i x (by simpa using hx)
      refine ⟨vs, e1, e2, ?_⟩
      rw [hk] at e3
      rwa [show o + k + i * k = o + (i + 1) * k from by rw [Nat.add_mul]; omega] at e3

theorem Row.sl {α : Type} {h : Ghost} {enc : α → List Value} {k n : Nat} {e : TypeId} {F : Frag} {v : Value} {l : List α} (hk : ∀ x, (enc x).length = k) (hr : Row F v e k n (l.flatMap enc)) (hn : n = l.length)
    (hF : ∀ p, p ∈ F → h p.1 = some p.2) : Sl h (fun x vs => vs = enc x) k v l := by
  subst hn
  rcases hr.2 with ⟨_, rfl, h0⟩ | ⟨b, cap, sp, rfl, rfl, hc, hl⟩
  · have : l = [] := List.eq_nil_of_length_eq_zero h0
    subst this; exact Sl.nil _ _ _ _ _
  · have hb := hF (b, cells (l.flatMap enc ++ sp) e) (by simp)
    exact Sl.of_seg hk (Seg.of_block hb).take hc

section
variable {P : Program} {ops : Array Oper} {Q : Exit → Act → World → Prop} {n : Nat} {K : List (Nat × Value)} {E : World} {h : Ghost} {S : List Frag} {rest : List Oper}
  {d : Nat} {ty : TypeId} {pos : String} {af : Array Edge}
def byteV (c : UInt8) : Value := .int .u8 (c.toNat : Int)
/-- '[]byte(s)': the new row stays as it is -/
theorem Wl.bytes {src dst e : TypeId} {x : Operand} {s : ByteArray} (hs : P.underlying src = some .string) (hd' : P.underlying dst = some (.slice e)) (he : P.underlying e = some (.int .u8)) (hx : ev K x = some (.string s)) (hd : Nat.blt d n = true)
    (H : ∀ b cap h', h.le h' → Seg h' b 0 (s.data.toList.map byteV) → Wl P ops Q rest n ((d, .slice (some ⟨b, 0, none⟩) s.size cap) :: K) E h' S) :
    Wl P ops Q (⟨some d, .convert src dst x, ty, pos, af, none⟩ :: rest) n K E h S := fun a w A => by
  have hr := run_bytes_of_string (P := P) w src dst e s hs hd' he
  have hA := A.heap.drew.alloc (.cells (bytesRow s (grownCap w s.size 0 e)) e ((bytesRow s (grownCap w s.size 0 e)).size, (bytesRow s (grownCap w s.size 0 e)).size + 1))
  have hF := (show Heap E h ([(w.heap.size, Obj.cells (bytesRow s (grownCap w s.size 0 e)) e ((bytesRow s (grownCap w s.size 0 e)).size, (bytesRow s (grownCap w s.size 0 e)).size + 1))] ++ S.flatten) _ from hA).freeze
  refine wl_value (v := .slice (some ⟨w.heap.size, 0, none⟩) s.size (grownCap w s.size 0 e)) ?_ (H _ _ _ (Ghost.le_ext _ _) ?_ _ _ (A.put hd hF.1))
  · simp only [execOp, A.ev hx, Sem.run_bind]; rw [hr]; rfl
  · intro i v hv
    have hb := hF.2 _ List.mem_cons_self
    unfold gcell
    simp only at hb
    rw [hb]
    simp only []
    simp only [List.getElem?_map, Option.map_eq_some_iff] at hv
    obtain ⟨c, hc, rfl⟩ := hv
    have hi : i < s.data.size := by have := (List.getElem?_eq_some_iff.1 hc).1; simpa using this
    rw [Nat.zero_add, bytesRow_at s _ i hi]
    simp at hc
    rw [(Array.getElem?_eq_some_iff.1 hc).2]; rfl
end

def strE (s : ByteArray) : List Value := [.string s]
/-- a slice of strings -/
def Strs (h : Ghost) (v : Value) (l : List ByteArray) : Prop := Sl h (fun x vs => vs = strE x) 1 v l
theorem Strs.of_row {h : Ghost} {b cap : Nat} {l : List ByteArray} {T : TypeId} (hb : h b = some (cells (l.flatMap strE) T)) (hc : l.length ≤ cap) : Strs h (.slice (some ⟨b, 0, none⟩) l.length cap) l :=
  Sl.of_seg (enc := strE) (k := 1) (fun _ => rfl) (Seg.of_block hb) hc
theorem Strs.mono {h h' : Ghost} {v : Value} {l : List ByteArray} (H : Strs h v l) (hl : h.le h') : Strs h' v l := Sl.mono H hl fun _ _ _ e => e

section
variable {P : Program} {n : Nat} {K : List (Nat × Value)} {E : World} {h : Ghost} {S : List Frag} {fn : Func}
/-- a result in memory: a struct or an array -/
theorem run_cellA {t : Tmp} {T : TypeId} {k b : Nat} {z : Value} {l : List Value} {T' : TypeId} (hf : fn.results = #[.cell t T]) (ht : TyOK P T true k z) (hv : get K t = some (.pointer (some ⟨b, 0, none⟩))) (hb : Has S b (cells l T')) (hk : l.length = k) :
    ∀ a w, As n K E h S a w → (results fn a.tmps).run P w = .ok (.agg l.toArray) w := fun a w A => by
  obtain ⟨R, p⟩ := hb.split
  have hc : ∀ j v, l[j]? = some v → w.cell? ⟨b, 0 + j, none⟩ = some v := fun j v hj => by rw [(A.heap.perm p).ocell]; simpa using hj
  have h1 := A.slots t _ hv
  simp [results, hf, Array.getD_eq_getD_getElem?, h1, asAddr, run_loadVarA ht hk hc]
/-- .. of one cell -/
theorem run_cell1 {t : Tmp} {T : TypeId} {k b : Nat} {z v : Value} {l : List Value} {T' : TypeId} (hf : fn.results = #[.cell t T]) (ht : TyOK P T false k z) (hv : get K t = some (.pointer (some ⟨b, 0, none⟩))) (hb : Has S b (cells l T')) (hk : l[0]? = some v) :
    ∀ a w, As n K E h S a w → (results fn a.tmps).run P w = .ok v w := fun a w A => by
  obtain ⟨R, p⟩ := hb.split
  have hc := (A.heap.perm p).ocell 0
  rw [hk] at hc
  have h1 := A.slots t _ hv
  simp [results, hf, Array.getD_eq_getD_getElem?, h1, asAddr, run_loadVar1 ht hc]
end
end Go.Sx
