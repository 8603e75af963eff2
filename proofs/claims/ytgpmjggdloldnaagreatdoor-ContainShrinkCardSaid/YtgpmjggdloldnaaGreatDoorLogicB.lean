/-
  Contracts and plain lemmas, joined: SxG, SxH, SxI, SxM, SxN, SxO, SxP
-/
import Derived.Test.YtgpmjggdloldnaaGreatDoorLogicA
import Derived.Laws.StructEq
namespace Go.Sx
open Go

/-- the slot that operation i writes -/
def dstOf (l : List Oper) (i : Nat) : Nat := (((l[i]?).bind (·.dst)).getD 0)
/-- operation t waits for operation i -/
def waits (l : List Oper) (t i : Nat) : Bool := ((l[t]?).map fun o => o.after.toList.any fun e => Region.binds .any e && Nat.beq e.on i).getD false
/-- .. through others too -/
inductive Dep (l : List Oper) : Nat → Nat → Prop
  | one {t i : Nat} : waits l t i = true → Dep l t i
  | two {t j i : Nat} : waits l t j = true → Dep l j i → Dep l t i
def dirs (l : List Oper) (t : Nat) : List Nat := ((l[t]?).map fun o => (o.after.toList.filter fun e => Region.binds .any e).map (·.on)).getD []
theorem waits_dirs {l : List Oper} {t j : Nat} (h : j ∈ dirs l t) : waits l t j = true := by
  unfold dirs at h
  unfold waits
  cases ho : l[t]? with
  | none => rw [ho] at h; simp at h
  | some o =>
    rw [ho] at h
    simp only [Option.map_some, Option.getD_some, List.mem_map, List.mem_filter] at h ⊢
    obtain ⟨e, ⟨h1, h2⟩, rfl⟩ := h
    exact List.any_eq_true.2 ⟨e, h1, by simp [h2]⟩
def maskOf (M : List Nat) : List Nat → Nat → Nat
  | [], acc => acc
  | j :: r, acc => maskOf M r (acc ||| 2 ^ j ||| M.getD j 0)
theorem maskOf_bit {M : List Nat} {i : Nat} : ∀ {r : List Nat} {acc : Nat}, (maskOf M r acc).testBit i = true → acc.testBit i = true ∨ ∃ j ∈ r, j = i ∨ (M.getD j 0).testBit i = true
  | [], _, h => .inl h
  | j :: r, acc, h => by
    rcases maskOf_bit (r := r) h with h | ⟨q, hq, h⟩
    · simp only [Nat.testBit_or, Nat.testBit_two_pow, Bool.or_eq_true, decide_eq_true_eq] at h
      rcases h with (h | h) | h
      · exact .inl h
      · exact .inr ⟨j, List.mem_cons_self, .inl h⟩
      · exact .inr ⟨j, List.mem_cons_self, .inr h⟩
    · exact .inr ⟨q, List.mem_cons_of_mem _ hq, h⟩
def masks (l : List Oper) : Nat → List Nat → Nat → List Nat
  | _, M, 0 => M
  | t, M, k + 1 => masks l (t + 1) (M ++ [maskOf M (dirs l t) 0]) k
theorem masks_dep {l : List Oper} : ∀ (k t : Nat) (M : List Nat), M.length = t → (∀ q i, (M.getD q 0).testBit i = true → Dep l q i) → ∀ q i, ((masks l t M k).getD q 0).testBit i = true → Dep l q i
  | 0, _, _, _, h => h
  | k + 1, t, M, hl, h => by
    refine masks_dep k (t + 1) _ (by simp [hl]) fun q i hq => ?_
    rcases Nat.lt_trichotomy q t with hlt | heq | hgt
    · refine h q i ?_
      rw [List.getD_eq_getElem?_getD, List.getElem?_append_left (by omega), ← List.getD_eq_getElem?_getD] at hq; exact hq
    · subst heq
      rw [List.getD_eq_getElem?_getD, List.getElem?_append_right (by omega), hl, Nat.sub_self] at hq
      rcases maskOf_bit (by simpa using hq : (maskOf M (dirs l q) 0).testBit i = true) with h0 | ⟨j, hj, h0⟩
      · simp at h0
      · rcases h0 with rfl | h0
        · exact .one (waits_dirs hj)
        · exact .two (waits_dirs hj) (h j i h0)
    · rw [List.getD_eq_getElem?_getD, List.getElem?_eq_none (by simp; omega)] at hq; simp at hq
/-- every later one, from m on, waits for all ahead of it -/
def forced (l : List Oper) (m : Nat) : Bool := (masks l 0 [] l.length).zipIdx.all fun p => decide (p.2 < m) || Nat.beq (p.1 &&& (2 ^ p.2 - 1)) (2 ^ p.2 - 1)
theorem masks_length {l : List Oper} : ∀ (k t : Nat) (M : List Nat), (masks l t M k).length = M.length + k
  | 0, _, M => rfl
  | k + 1, t, M => by rw [masks, masks_length k]; simp; omega
theorem forced_dep {l : List Oper} {m : Nat} (h : forced l m = true) : ∀ t, t < l.length → t < m ∨ ∀ i, i < t → Dep l t i := fun t ht => by
  have hlen : (masks l 0 [] l.length).length = l.length := by rw [masks_length]; simp
  have hx : (masks l 0 [] l.length)[t]? = some ((masks l 0 [] l.length)[t]'(by omega)) := List.getElem?_eq_getElem _
  have hz : ((masks l 0 [] l.length)[t]'(by omega), t) ∈ (masks l 0 [] l.length).zipIdx := by
    rw [List.mem_zipIdx_iff_getElem?]; exact hx
  have := List.all_eq_true.1 h _ hz
  simp only [Bool.or_eq_true, decide_eq_true_eq] at this
  refine this.imp id fun hb i hi => ?_
  have hb := Nat.eq_of_beq_eq_true hb
  refine masks_dep l.length 0 [] rfl (fun q i hq => by simp at hq) t i ?_
  rw [List.getD_eq_getElem?_getD, hx]
  have := congrArg (Nat.testBit · i) hb
  simp [Nat.testBit_two_pow_sub_one, hi] at this
  simpa using this
/-- the values on which operation i hangs -/
def msk (D : List Nat) (env : Nat → Value) : Nat → Value := fun j => if D.contains j then env j else undef
/-- m operations of the head: each writes a slot of its own of which nothing is known; what they hang on (D) they wait for; the tail is in order -/
def drawB (l : List Oper) (m : Nat) (D : List (List Nat)) : Bool :=
  ((List.range m).all fun i => ((l[i]?).bind (·.dst)).isSome && ((D.getD i []).all fun j => decide (j < i) && waits l i j) && ((List.range i).all fun j => !Nat.beq (dstOf l i) (dstOf l j))) &&
  forced l m && decide (m ≤ l.length) &&
  (l.all fun o => o.after.toList.all fun e => !Region.binds .any e || decide (e.on < l.length)) &&
  ((List.range l.length).all fun t => ((l[t]?).map fun o => o.after.toList.all fun e => !Region.binds .any e || decide (e.on < t)).getD true)
/-- somebody takes what operation j laid -/
def gone (U : List (List Nat)) (m j : Nat) : Bool := (List.range m).any fun i => (U.getD i []).contains j
def noDup : List Nat → Bool
  | [] => true
  | a :: r => !r.contains a && noDup r
theorem noDup_nodup : ∀ {l : List Nat}, noDup l = true → l.Nodup
  | [], _ => List.nodup_nil
  | a :: r, h => by
    simp only [noDup, Bool.and_eq_true, Bool.not_eq_true'] at h
    exact List.nodup_cons.2 ⟨by simpa using h.1, noDup_nodup h.2⟩
def useB (m : Nat) (D U : List (List Nat)) : Bool := (List.range m).all fun i => ((U.getD i []).all fun j => (D.getD i []).contains j) && noDup (U.getD i []) && ((List.range m).all fun k => Nat.beq i k || (U.getD i []).all fun j => !(U.getD k []).contains j) &&
  (D.getD i []).all fun j => (U.getD i []).contains j || !gone U m j
structure Uses (m : Nat) (D U : List (List Nat)) : Prop where
  sub : ∀ i, i < m → ∀ j ∈ U.getD i [], j ∈ D.getD i []
  nd : ∀ i, i < m → (U.getD i []).Nodup
  apart : ∀ i, i < m → ∀ k, k < m → i ≠ k → ∀ j ∈ U.getD i [], j ∉ U.getD k []
  rest : ∀ i, i < m → ∀ j ∈ D.getD i [], j ∉ U.getD i [] → gone U m j = false
theorem useB_uses {m : Nat} {D U : List (List Nat)} (h : useB m D U = true) : Uses m D U := by
  unfold useB at h
  simp only [List.all_eq_true, List.mem_range, Bool.and_eq_true, Bool.or_eq_true, Bool.not_eq_true'] at h
  refine ⟨fun i hi j hj => ?_, fun i hi => noDup_nodup (h i hi).1.1.2, fun i hi k hk hne j hj hjk => ?_, fun i hi j hj hn => ?_⟩
  · have := (h i hi).1.1.1 j hj; simpa using this
  · have h2 := ((h i hi).1.2 k hk).resolve_left (fun e => hne (Nat.eq_of_beq_eq_true e)) j hj
    simp at h2; exact h2 hjk
  · exact ((h i hi).2 j hj).resolve_left (fun e => hn (by simpa using e))
theorem gone_false {U : List (List Nat)} {m j : Nat} : gone U m j = false ↔ ∀ c, c < m → j ∉ U.getD c [] := by
  unfold gone
  rw [List.any_eq_false]
  simp
def freshB (l : List Oper) (m : Nat) (K : List (Nat × Value)) : Bool := (List.range m).all fun i => (get K (dstOf l i)).isNone

/-- the slots of the head's operations -/
def dk (l : List Oper) (env : Nat → Value) : List Nat → List (Nat × Value)
  | [] => []
  | i :: r => (dstOf l i, env i) :: dk l env r

theorem get_append {A B : List (Nat × Value)} {i : Nat} : get (A ++ B) i = match get A i with | some v => some v | none => get B i := by
  induction A with
  | nil => rfl
  | cons p A ih =>
    obtain ⟨j, v⟩ := p
    simp only [List.cons_append, get]
    cases hb : Nat.beq j i <;> simp [ih]

theorem get_dk {l : List Oper} {env : Nat → Value} : ∀ {L : List Nat} {s : Nat} {v : Value}, get (dk l env L) s = some v → ∃ i ∈ L, dstOf l i = s ∧ env i = v
  | [], _, _, h => by cases h
  | i :: r, s, v, h => by
    simp only [dk, get] at h
    cases hb : Nat.beq (dstOf l i) s with
    | true => rw [hb] at h; simp only [cond_true, Option.some.injEq] at h; exact ⟨i, List.mem_cons_self, Nat.eq_of_beq_eq_true hb, h⟩
    | false => rw [hb] at h; obtain ⟨j, h1, h2⟩ := get_dk h; exact ⟨j, List.mem_cons_of_mem _ h1, h2⟩
theorem get_dk_none {l : List Oper} {env : Nat → Value} {s : Nat} : ∀ {L : List Nat}, (∀ i ∈ L, dstOf l i ≠ s) → get (dk l env L) s = none
  | [], _ => rfl
  | i :: r, h => by
    have hb : Nat.beq (dstOf l i) s = false := by
      cases hb : Nat.beq (dstOf l i) s with
      | false => rfl
      | true => exact absurd (Nat.eq_of_beq_eq_true hb) (h i List.mem_cons_self)
    simp only [dk, get, hb, cond_false]
    exact get_dk_none fun j hj => h j (List.mem_cons_of_mem _ hj)
theorem get_dk_mem {l : List Oper} {env : Nat → Value} : ∀ {L : List Nat}, (∀ i ∈ L, ∀ j ∈ L, dstOf l i = dstOf l j → i = j) → ∀ i ∈ L, get (dk l env L) (dstOf l i) = some (env i)
  | j :: r, h, i, hi => by
    simp only [dk, get]
    cases hb : Nat.beq (dstOf l j) (dstOf l i) with
    | true => rw [h j List.mem_cons_self i hi (Nat.eq_of_beq_eq_true hb)]; rfl
    | false =>
      rcases List.mem_cons.1 hi with rfl | hi
      · simp at hb
      · exact get_dk_mem (fun a ha b hb => h a (List.mem_cons_of_mem _ ha) b (List.mem_cons_of_mem _ hb)) i hi

section
variable {P : Program} {Q : Exit → Act → World → Prop} {n : Nat} {K : List (Nat × Value)} {E : World} {h : Ghost} {S : List Frag}

/-- what one operation of the head leaves -/
def Gives (n : Nat) (K : List (Nat × Value)) (E : World) (h : Ghost) (S : List Frag) (d : Nat) (Y : Value → Frag → Ghost → Prop) : Exit → Act → World → Prop
  | .normal, a, w => ∃ v F h', h.le h' ∧ Y v F h' ∧ As n ((d, v) :: K) E h' (F :: S) a w
  | _, _, _ => False

theorem Wx.gives {K' : List (Nat × Value)} {h₀ : Ghost} {d : Nat} {Y : Value → Frag → Ghost → Prop} (v : Value) (F : Frag) (hl : h₀.le h) (hY : Y v F h) (hs : Sub ((d, v) :: K) K') :
    Wx (Gives n K E h₀ S d Y) .normal n K' E h (F :: S) := fun _ _ A => ⟨v, F, h, hl, hY, A.sub hs⟩
theorem Wx.gives0 {K' : List (Nat × Value)} {h₀ : Ghost} {d : Nat} {Y : Value → Frag → Ghost → Prop} (v : Value) (hl : h₀.le h) (hY : Y v [] h) (hs : Sub ((d, v) :: K) K') :
    Wx (Gives n K E h₀ S d Y) .normal n K' E h S := fun _ _ A => ⟨v, [], h, hl, hY, ⟨A.size, A.defers, (A.sub hs).slots, A.heap⟩⟩

/-- the state while the head runs: the operations ord have been carried out -/
structure Mid (l : List Oper) (m n : Nat) (D U : List (List Nat)) (Y : Nat → (Nat → Value) → Value → Frag → Ghost → Prop) (K : List (Nat × Value)) (E : World) (h₀ : Ghost) (S : List Frag)
    (ord : List Nat) (a : Act) (w : World) : Prop where
  ex : ∃ (env : Nat → Value) (φ : Nat → Frag) (h : Ghost) (al : List Nat), h₀.le h ∧ As n (dk l env ord ++ K) E h (al.map φ ++ S) a w ∧ al.Nodup ∧ (∀ i, i ∈ al ↔ i ∈ ord ∧ ∀ c ∈ ord, i ∉ U.getD c []) ∧ ∀ i ∈ al, Y i (msk (D.getD i []) env) (env i) (φ i) h

theorem msk_congr {D : List Nat} {env env' : Nat → Value} (h : ∀ j ∈ D, env j = env' j) : msk D env = msk D env' := by
  funext j; unfold msk; split
  · rename_i hj; exact h j (by simpa using hj)
  · rfl

theorem listed_of (l : List Oper) {listed : Array Bool} {t i : Nat} (hr : t ∈ Region.ready .any l.toArray listed) (hw : waits l t i = true) : listed.getD i false = true := by
  obtain ⟨_, o, ho, hall⟩ := mem_ready.1 hr
  unfold waits at hw
  have ho' : l[t]? = some o := by simpa using ho
  rw [ho'] at hw
  simp only [Option.map_some, Option.getD_some] at hw
  obtain ⟨e, he, hb⟩ := List.any_eq_true.1 hw
  simp only [Bool.and_eq_true] at hb
  have := hall e (by simpa using he) hb.1
  rwa [Nat.eq_of_beq_eq_true hb.2] at this

theorem Dep.shut {l : List Oper} {G : Nat → Prop} (hcl : ∀ t i, G t → waits l t i = true → G i) : ∀ {t i : Nat}, Dep l t i → G t → G i := fun d => by
  induction d with
  | one h => exact fun g => hcl _ _ g h
  | two h _ ih => exact fun g => ih (hcl _ _ g h)
theorem Dep.listed {l : List Oper} {listed : Array Bool} {t i : Nat} (hcl : ∀ t i, listed.getD t false = true → waits l t i = true → listed.getD i false = true) (hr : t ∈ Region.ready .any l.toArray listed) (d : Dep l t i) : listed.getD i false = true := by
  cases d with
  | one h => exact listed_of l hr h
  | two h d => exact d.shut hcl (listed_of l hr h)
theorem nodup_length_le : ∀ (l l2 : List Nat), l.Nodup → (∀ x ∈ l, x ∈ l2) → l.length ≤ l2.length
  | [], _, _, _ => Nat.zero_le _
  | a :: l, l2, nd, hs => by
    rw [List.nodup_cons] at nd
    have ha := hs a List.mem_cons_self
    have := nodup_length_le l (l2.erase a) nd.2 (fun x hx => (List.mem_erase_of_ne (fun e => nd.1 (by rw [← e]; exact hx))).2 (hs x (List.mem_cons_of_mem _ hx)))
    rw [List.length_erase_of_mem ha] at this
    have := List.length_pos_of_mem ha
    simp only [List.length_cons]; omega

theorem Wc.drawn {id : Nat} {l : List Oper} (m : Nat) (D U : List (List Nat)) (hU : useB m D U = true) (Y : Nat → (Nat → Value) → Value → Frag → Ghost → Prop) (hm : P.follows .mixedOrders = true) (hB : drawB l m D = true) (hK : freshB l m K = true)
    (hY : ∀ i env v F h h', h.le h' → Y i env v F h → Y i env v F h')
    (loc : ∀ i, i < m → ∀ env K' h' S' φ, Sub K K' → (∀ j ∈ D.getD i [], get K' (dstOf l j) = some (env j)) → h.le h' → (∀ j ∈ D.getD i [], j ∉ U.getD i [] → ∃ F, Y j (msk (D.getD j []) env) (env j) F h') →
      (∀ j ∈ U.getD i [], Y j (msk (D.getD j []) env) (env j) (φ j) h') →
      Wl P l.toArray (Gives n K' E h' (S' ++ S) (dstOf l i) (Y i (msk (D.getD i []) env))) ((l[i]?).toList) n K' E h' ((U.getD i []).map φ ++ (S' ++ S)))
    (tail : ∀ env φ h', h.le h' → (∀ i, i < m → (gone U m i = false → Y i (msk (D.getD i []) env) (env i) (φ i) h') ∧ (gone U m i = true → φ i = [])) →
      Wl P l.toArray Q (l.drop m) n (dk l env (List.range m).reverse ++ K) E h' ((List.range m).reverse.map φ ++ S)) : Wc P Q (.region id l.toArray true) n K E h S := by
  have hUs := useB_uses hU
  unfold drawB at hB
  simp only [Bool.and_eq_true, List.all_eq_true, decide_eq_true_eq, List.mem_range, Bool.or_eq_true, Bool.not_eq_true'] at hB
  obtain ⟨⟨⟨⟨hB1, hB2⟩, hB3⟩, _⟩, hB5⟩ := hB
  have hB2 := forced_dep hB2
  have hd : ∀ i, i < m → ∃ o d, l[i]? = some o ∧ o.dst = some d ∧ dstOf l i = d := fun i hi => by
    have := (hB1 i hi).1.1
    obtain ⟨d, hd⟩ := Option.isSome_iff_exists.1 this
    obtain ⟨o, ho, hod⟩ := Option.bind_eq_some_iff.1 hd
    exact ⟨o, d, ho, hod, by simp [dstOf, ho, hod]⟩
  have hinj : ∀ i, i < m → ∀ j, j < m → dstOf l i = dstOf l j → i = j := fun i hi j hj e => by
    rcases Nat.lt_trichotomy i j with hlt | heq | hlt
    · have := (hB1 j hj).2 i hlt; rw [e] at this; simp at this
    · exact heq
    · have := (hB1 i hi).2 j hlt; rw [e] at this; simp at this
  have hKn : ∀ i, i < m → get K (dstOf l i) = none := fun i hi => by
    have := List.all_eq_true.1 hK i (List.mem_range.2 hi)
    simpa using this
  -- the tail
  have tailAny : ∀ (r : List Oper) (t : Nat) (listed : Array Bool) (a : Act) (w : World), l.drop t = r → m ≤ t → t ≤ l.length → listed.size = l.length → (∀ i, i < t → listed.getD i false = true) → (∀ i, t ≤ i → i < l.length → listed.getD i false = false) →
      wpList P l.toArray Q r a w → wpAny P .any l.toArray Q r.length listed a w := by
    intro r
    induction r with
    | nil =>
      intro t listed a w hr _ ht hsz h1 _ H
      have htl : t = l.length := by
        have := congrArg List.length hr; simp at this; omega
      refine ⟨?_, H⟩
      cases hh : Region.ready .any l.toArray listed with
      | nil => rfl
      | cons j js =>
        have hj : j ∈ Region.ready .any l.toArray listed := by rw [hh]; exact List.mem_cons_self
        obtain ⟨h0, o, ho, _⟩ := mem_ready.1 hj
        have hjl : j < l.length := by have := (Array.getElem?_eq_some_iff.1 ho).1; simpa using this
        have h2 := h1 j (by omega)
        rw [Array.getD_eq_getD_getElem?] at h0 h2
        have : listed[j]? = some listed[j] := Array.getElem?_eq_getElem (by omega)
        rw [this] at h0 h2; simp at h0 h2; rw [h0] at h2; cases h2
    | cons o r ih =>
      intro t listed a w hr hmt ht hsz h1 h2 H
      have ho : l[t]? = some o := by
        have := congrArg (·[0]?) hr; simpa using this
      have htl : t < l.length := (List.getElem?_eq_some_iff.1 ho).1
      have only : ∀ j ∈ Region.ready .any l.toArray listed, j = t := fun j hj => by
        obtain ⟨h0, o', ho', _⟩ := mem_ready.1 hj
        have hjl : j < l.length := by have := (Array.getElem?_eq_some_iff.1 ho').1; simpa using this
        rcases Nat.lt_trichotomy j t with hlt | heq | hlt
        · have h3 := h1 j hlt
          rw [Array.getD_eq_getD_getElem?] at h0 h3
          have : listed[j]? = some listed[j] := Array.getElem?_eq_getElem (by omega)
          rw [this] at h0 h3; simp at h0 h3; rw [h0] at h3; cases h3
        · exact heq
        · have hw := (hB2 j hjl).resolve_left (by omega) t hlt
          have hcl : ∀ q i, listed.getD q false = true → waits l q i = true → listed.getD i false = true := fun q i hq hqi => by
            have hqt : q < t := Classical.byContradiction fun hge => by
              rcases Nat.lt_or_ge q l.length with hql | hql
              · rw [h2 q (by omega) hql] at hq; cases hq
              · rw [Array.getD_eq_getD_getElem?, Array.getElem?_eq_none (by omega)] at hq; simp at hq
            refine h1 i ?_
            unfold waits at hqi
            cases hoq : l[q]? with
            | none => rw [hoq] at hqi; simp at hqi
            | some oq =>
              rw [hoq] at hqi
              simp only [Option.map_some, Option.getD_some] at hqi
              obtain ⟨e, he, hb⟩ := List.any_eq_true.1 hqi
              simp only [Bool.and_eq_true] at hb
              have h5 := hB5 q (by omega)
              rw [hoq] at h5
              simp only [Option.map_some, Option.getD_some, List.all_eq_true, Bool.or_eq_true, Bool.not_eq_true', decide_eq_true_eq] at h5
              have := (h5 e he).resolve_left (by simp [hb.1])
              rw [Nat.eq_of_beq_eq_true hb.2] at this; omega
          have h3 := hw.listed hcl hj
          rw [h2 t (Nat.le_refl _) htl] at h3; cases h3
      have hready : t ∈ Region.ready .any l.toArray listed := mem_ready.2 ⟨by
        have := h2 t (Nat.le_refl _) htl
        rw [Array.getD_eq_getD_getElem?] at this ⊢
        have e : listed[t]? = some listed[t] := Array.getElem?_eq_getElem (by omega)
        rw [e] at this ⊢; simpa using this, o, by simpa using ho, fun e he hb => by
        have := hB5 t htl
        rw [ho] at this
        simp only [Option.map_some, Option.getD_some, List.all_eq_true, Bool.or_eq_true, Bool.not_eq_true', decide_eq_true_eq] at this
        have h3 := (this e (by simpa using he)).resolve_left (by simp [hb])
        exact h1 _ h3⟩
      refine ⟨fun h0 => (by rw [h0] at hready; cases hready), fun j hj => ?_⟩
      rw [only j hj]
      unfold wpOp
      rw [show l.toArray[t]? = some o from by simpa using ho]
      simp only [wpList] at H
      have step : ∀ a w, wpList P l.toArray Q r a w → wpAny P .any l.toArray Q r.length (listed.setIfInBounds t true) a w := fun a w H => by
        refine ih (t + 1) _ a w (by rw [← List.drop_drop, hr]; rfl) (by omega) (by omega) (by simpa using hsz) (fun i hi => ?_) (fun i hi hil => ?_) H
        · by_cases e : i = t
          · subst e; simp [hsz, htl]
          · exact getD_set_true (h1 i (by omega))
        · rw [getD_set_ne false (by omega)]; exact h2 i (by omega) hil
      simp only []
      split
      · rename_i hw; rw [if_pos hw] at H
        rcases H with H | H
        · exact .inl (Oper.wp_weaken step (fun _ _ _ _ q => q) H)
        · exact .inr H
      · rename_i hw; rw [if_neg hw] at H; exact step _ _ H
  -- the head
  have headAny : ∀ (k : Nat) (ord : List Nat) (listed : Array Bool) (a : Act) (w : World), ord.length + k = m → ord.Nodup → (∀ i ∈ ord, i < m) → (∀ j ∈ ord, ∀ q ∈ D.getD j [], q ∈ ord) → (∀ j ∈ ord, ∀ q, waits l j q = true → q ∈ ord) → listed.size = l.length → (∀ i, i < l.length → (listed.getD i false = true ↔ i ∈ ord)) →
      Mid l m n D U Y K E h S ord a w → wpAny P .any l.toArray Q (l.length - ord.length) listed a w := by
    intro k
    induction k with
    | zero =>
      intro ord listed a w hlen hnd hlt hcl hcw hsz hlis hmid
      obtain ⟨env, φ, h', al, hl, hA, halnd, hal, hYs⟩ := hmid.ex
      have hperm : ord.Perm (List.range m).reverse := by
        refine (List.perm_ext_iff_of_nodup hnd ((List.reverse_perm _).nodup_iff.2 List.nodup_range)).2 fun i => ?_
        refine ⟨fun hi => by simpa using hlt i hi, fun hi => Classical.byContradiction fun hn => ?_⟩
        have hi' : i < m := by simpa using hi
        have := nodup_length_le (i :: ord) (List.range m) (List.nodup_cons.2 ⟨hn, hnd⟩) (fun j hj => List.mem_range.2 (by rcases List.mem_cons.1 hj with rfl | hj; exact hi'; exact hlt j hj))
        simp at this; omega
      have all : ∀ i, i < m → i ∈ ord := fun i hi => hperm.mem_iff.2 (by simpa using hi)
      have hm' : ord.length = m := by omega
      rw [hm', show l.length - m = (l.drop m).length from by simp]
      refine tailAny (l.drop m) m listed a w rfl (Nat.le_refl _) hB3 hsz (fun i hi => (hlis i (by omega)).2 (all i hi)) (fun i hi hil => ?_) (tail env (fun i => if gone U m i then [] else φ i) h' hl (fun i hi => ⟨fun hg => by rw [hg]; exact hYs i ((hal i).2 ⟨all i hi, fun c hc => gone_false.1 hg c (hlt c hc)⟩), fun hg => by rw [hg]; rfl⟩) a w ⟨hA.size, hA.defers, fun s v hs => ?_, ?_⟩)
      · cases hh : listed.getD i false with
        | false => rfl
        | true => have := hlt i ((hlis i hil).1 hh); omega
      · refine hA.slots s v ?_
        rw [get_append] at hs ⊢
        cases hg : get (dk l env (List.range m).reverse) s with
        | some u =>
          rw [hg] at hs
          obtain ⟨i, hi, e1, e2⟩ := get_dk hg
          have := get_dk_mem (l := l) (env := env) (L := ord) (fun a ha b hb => hinj a (hlt a ha) b (hlt b hb)) i (hperm.mem_iff.2 hi)
          rw [e1] at this; rw [this, e2]; simpa using hs
        | none =>
          rw [hg] at hs
          cases hg2 : get (dk l env ord) s with
          | none => exact hs
          | some u =>
            obtain ⟨i, hi, e1, _⟩ := get_dk hg2
            rw [← e1, hKn i (hlt i hi)] at hs; cases hs
      · have hp1 : al.Perm ((List.range m).reverse.filter fun i => !gone U m i) := by
          refine (List.perm_ext_iff_of_nodup halnd (((List.reverse_perm _).nodup_iff.2 List.nodup_range).filter _)).2 fun i => ?_
          rw [hal i, List.mem_filter]
          constructor
          · rintro ⟨h1, h2⟩
            refine ⟨hperm.mem_iff.1 h1, ?_⟩
            rw [gone_false.2 fun c hc => h2 c (all c hc)]; rfl
          · rintro ⟨h1, h2⟩
            have h3 : gone U m i = false := by simpa using h2
            exact ⟨hperm.mem_iff.2 h1, fun c hc => gone_false.1 h3 c (hlt c hc)⟩
        have hfl : ∀ L : List Nat, ((L.filter fun i => !gone U m i).map φ).flatten = (L.map fun i => if gone U m i then [] else φ i).flatten := by
          intro L
          induction L with
          | nil => rfl
          | cons i L ih =>
            rw [List.filter_cons]
            cases hg : gone U m i
            · simp [hg, ih]
            · simp [hg, ih]
        have hq := hA.heap.perm ((hp1.map φ).append_right S).flatten
        rw [List.flatten_append, hfl, ← List.flatten_append] at hq
        exact hq
    | succ k ih =>
      intro ord listed a w hlen hnd hlt hcl hcw hsz hlis hmid
      obtain ⟨env, φ, h', al, hl, hA, halnd, hal, hYs⟩ := hmid.ex
      rw [show l.length - ord.length = (l.length - (ord.length + 1)) + 1 from by omega]
      have unl : ∃ i, i < m ∧ i ∉ ord := by
        refine Classical.byContradiction fun hno => ?_
        have : List.range m ⊆ ord := fun i hi => Classical.byContradiction fun hn => hno ⟨i, List.mem_range.1 hi, hn⟩
        have := nodup_length_le _ _ List.nodup_range this
        simp at this; omega
      refine ⟨fun h0 => ?_, fun i hi => ?_⟩
      · -- something is ready: the least operation that has not come up
        exfalso
        obtain ⟨i, him, hio⟩ := unl
        have key : ∀ i, i < m → i ∉ ord → False := by
          intro i
          induction i using Nat.strongRecOn with
          | _ i ihi =>
            intro him hio
            have hil : i < l.length := by omega
            obtain ⟨o, d, ho, _, _⟩ := hd i him
            have : i ∈ Region.ready .any l.toArray listed := mem_ready.2 ⟨by
              have hf : listed.getD i false = false := by
                cases hh : listed.getD i false with
                | false => rfl
                | true => exact absurd ((hlis i hil).1 hh) hio
              rw [Array.getD_eq_getD_getElem?] at hf ⊢
              have e : listed[i]? = some listed[i] := Array.getElem?_eq_getElem (by omega)
              rw [e] at hf ⊢; simpa using hf, o, by simpa using ho, fun e he hb => by
              have h5 := hB5 i hil
              rw [ho] at h5
              simp only [Option.map_some, Option.getD_some, List.all_eq_true, Bool.or_eq_true, Bool.not_eq_true', decide_eq_true_eq] at h5
              have h3 := (h5 e (by simpa using he)).resolve_left (by simp [hb])
              exact (hlis _ (by omega)).2 (Classical.byContradiction fun hn => ihi _ h3 (by omega) hn)⟩
            rw [h0] at this; cases this
        exact key i him hio
      · have hil : i < l.length := by
          obtain ⟨_, o, ho, _⟩ := mem_ready.1 hi
          have := (Array.getElem?_eq_some_iff.1 ho).1; simpa using this
        have hio : i ∉ ord := fun hin => by
          have h1 := (hlis i hil).2 hin
          have h0 := (mem_ready.1 hi).1
          rw [Array.getD_eq_getD_getElem?] at h0 h1
          have e : listed[i]? = some listed[i] := Array.getElem?_eq_getElem (by omega)
          rw [e] at h0 h1; simp at h0 h1; rw [h0] at h1; cases h1
        have him : i < m := by
          refine Classical.byContradiction fun hge => ?_
          obtain ⟨j, hjm, hjo⟩ := unl
          have hw := (hB2 i hil).resolve_left (by omega) j (by omega)
          have inOrd : ∀ q, listed.getD q false = true → q ∈ ord := fun q hq => by
            rcases Nat.lt_or_ge q l.length with hql | hql
            · exact (hlis q hql).1 hq
            · rw [Array.getD_eq_getD_getElem?, Array.getElem?_eq_none (by omega)] at hq; simp at hq
          exact hjo (inOrd j (hw.listed (fun q i hq hqi => by
            have hio := hcw q (inOrd q hq) i hqi
            exact (hlis i (by have := hlt i hio; omega)).2 hio) hi))
        obtain ⟨o, d, ho, hod, hdd⟩ := hd i him
        have hdeps : ∀ j ∈ D.getD i [], j ∈ ord := fun j hj => by
          have := (hB1 i him).1.2 j hj
          exact (hlis j (by omega)).1 (listed_of l hi this.2)
        have hsubK : Sub K (dk l env ord ++ K) := fun s v hs => by
          rw [get_append, get_dk_none (fun j hj e => by rw [← e, hKn j (hlt j hj)] at hs; cases hs)]; exact hs
        have husal : ∀ j ∈ U.getD i [], j ∈ al := fun j hj => (hal j).2 ⟨hdeps j (hUs.sub i him j hj), fun c hc hjc => hUs.apart i him c (hlt c hc) (fun e => hio (e ▸ hc)) j hj hjc⟩
        let al' := al.filter fun x => !(U.getD i []).contains x
        have hal' : ∀ x, x ∈ al' ↔ x ∈ al ∧ x ∉ U.getD i [] := fun x => by simp [al', List.mem_filter]
        have hpal : al.Perm (U.getD i [] ++ al') := by
          refine (List.perm_ext_iff_of_nodup halnd ?_).2 fun x => ?_
          · rw [List.nodup_append]
            refine ⟨hUs.nd i him, halnd.filter _, ?_⟩
            rintro a ha b hb rfl
            exact ((hal' a).1 hb).2 ha
          · rw [List.mem_append, hal' x]
            by_cases hx : x ∈ U.getD i []
            · exact ⟨fun _ => .inl hx, fun _ => husal x hx⟩
            · exact ⟨fun h => .inr ⟨h, hx⟩, fun h => h.elim (fun e => absurd e hx) fun e => e.1⟩
        have hA2 : As n (dk l env ord ++ K) E h' ((U.getD i []).map φ ++ (al'.map φ ++ S)) a w := by
          refine ⟨hA.size, hA.defers, hA.slots, ?_⟩
          have := hA.heap.perm ((hpal.map φ).append_right S).flatten
          rwa [List.map_append, List.append_assoc] at this
        have hl1 := loc i him env (dk l env ord ++ K) h' (al'.map φ) φ hsubK
          (fun j hj => by rw [get_append, get_dk_mem (fun a ha b hb => hinj a (hlt a ha) b (hlt b hb)) j (hdeps j hj)]) hl
          (fun j hj hju => ⟨φ j, hYs j ((hal j).2 ⟨hdeps j hj, fun c hc => gone_false.1 (hUs.rest i him j hj hju) c (hlt c hc)⟩)⟩)
          (fun j hj => hYs j (husal j hj)) a w hA2
        rw [ho] at hl1
        simp only [Option.toList_some] at hl1
        -- the next state
        have nxt : ∀ a' w', Gives n (dk l env ord ++ K) E h' (al'.map φ ++ S) (dstOf l i) (Y i (msk (D.getD i []) env)) .normal a' w' →
            wpAny P .any l.toArray Q (l.length - (ord.length + 1)) (listed.setIfInBounds i true) a' w' := fun a' w' hg => by
          obtain ⟨v, F, h2, hl2, hy, hA2⟩ := hg
          let env' : Nat → Value := fun j => if j = i then v else env j
          let φ' : Nat → Frag := fun j => if j = i then F else φ j
          have henv : ∀ j ∈ ord, env' j = env j := fun j hj => by
            have : j ≠ i := fun e => hio (e ▸ hj)
            simp [env', this]
          have hφ : ∀ j ∈ ord, φ' j = φ j := fun j hj => by
            have : j ≠ i := fun e => hio (e ▸ hj)
            simp [φ', this]
          have hm' : ∀ j, j ∈ i :: ord → msk (D.getD j []) env' = msk (D.getD j []) env := fun j hj => msk_congr fun q hq => by
            have hqm : q ≠ i := by
              rcases List.mem_cons.1 hj with rfl | hj
              · exact fun e => hio (e ▸ hdeps q hq)
              · exact fun e => hio (e ▸ hcl j hj q hq)
            simp [env', hqm]
          have hdk : dk l env' (i :: ord) = (dstOf l i, v) :: dk l env ord := by
            have : ∀ L : List Nat, (∀ j ∈ L, env' j = env j) → dk l env' L = dk l env L := by
              intro L hL
              induction L with
              | nil => rfl
              | cons j L ih => simp only [dk]; rw [hL j List.mem_cons_self, ih fun q hq => hL q (List.mem_cons_of_mem _ hq)]
            simp only [dk, this ord henv]; simp [env']
          have hr := ih (i :: ord) (listed.setIfInBounds i true) a' w' (by simp; omega) (List.nodup_cons.2 ⟨hio, hnd⟩)
            (fun j hj => by rcases List.mem_cons.1 hj with rfl | hj; exact him; exact hlt j hj)
            (fun j hj q hq => List.mem_cons_of_mem _ (by rcases List.mem_cons.1 hj with rfl | hj; exact hdeps q hq; exact hcl j hj q hq))
            (fun j hj q hq => List.mem_cons_of_mem _ (by
              rcases List.mem_cons.1 hj with rfl | hj
              · have h3 := listed_of l hi hq
                rcases Nat.lt_or_ge q l.length with hql | hql
                · exact (hlis q hql).1 h3
                · rw [Array.getD_eq_getD_getElem?, Array.getElem?_eq_none (by omega)] at h3; simp at h3
              · exact hcw j hj q hq)) (by simpa using hsz) (fun j hjl => ?_)
            ⟨env', φ', h2, i :: al', hl.trans hl2, ?_, ?_, fun x => ?_, fun j hj => ?_⟩
          · simpa using hr
          · by_cases e : j = i
            · subst e; simp [hsz, hil]
            · rw [getD_set_ne false (Ne.symm e), hlis j hjl]; simp [e]
          · rw [hdk]
            have : (i :: al').map φ' = F :: al'.map φ := by
              simp only [List.map_cons]; rw [List.map_congr_left fun j hj => hφ j ((hal j).1 ((hal' j).1 hj).1).1]; simp [φ']
            rw [this]; exact hA2
          · exact List.nodup_cons.2 ⟨fun hx => hio ((hal i).1 ((hal' i).1 hx).1).1, halnd.filter _⟩
          · by_cases e : x = i
            · subst e
              refine ⟨fun _ => ⟨List.mem_cons_self, fun c hc hxc => ?_⟩, fun _ => List.mem_cons_self⟩
              rcases List.mem_cons.1 hc with rfl | hc
              · have := (hB1 c him).1.2 c (hUs.sub c him c hxc); omega
              · exact hio (hcl c hc x (hUs.sub c (hlt c hc) x hxc))
            · rw [List.mem_cons, hal' x, hal x, List.mem_cons]
              simp only [e, false_or, List.forall_mem_cons]
              constructor
              · rintro ⟨⟨h1, h2⟩, h3⟩; exact ⟨h1, h3, h2⟩
              · rintro ⟨h1, h3, h2⟩; exact ⟨⟨h1, h2⟩, h3⟩
          · have hjo : j ∈ i :: ord := by
              rcases List.mem_cons.1 hj with rfl | hj
              · exact List.mem_cons_self
              · exact List.mem_cons_of_mem _ ((hal j).1 ((hal' j).1 hj).1).1
            rw [hm' j hjo]
            rcases List.mem_cons.1 hj with rfl | hj'
            · simp only [env', φ', if_true]; exact hy
            · have hjal := ((hal' j).1 hj').1
              have hjord := ((hal j).1 hjal).1
              rw [henv j hjord, hφ j hjord]; exact hY _ _ _ _ _ _ hl2 (hYs j hjal)
        unfold wpOp
        rw [show l.toArray[i]? = some o from by simpa using ho]
        simp only [wpList] at hl1
        simp only []
        split
        · rename_i hw
          rw [if_pos hw] at hl1
          rcases hl1 with hl1 | ⟨_, a0, w0, hq⟩
          · exact .inl (Oper.wp_weaken nxt (fun e a w hne q => by cases e <;> first | exact absurd rfl hne | exact q.elim) hl1)
          · exact hq.elim
        · rename_i hw; rw [if_neg hw] at hl1; exact nxt _ _ hl1
  intro a w A
  refine wp_region_any hm ?_
  have := headAny m [] (Array.replicate l.toArray.size false) a { w with drawn := w.drawn + 1 } (by simp) List.nodup_nil (by simp) (by simp) (by simp) (by simp) (fun i hi => by simp [hi]) ⟨fun _ => undef, fun _ => [], h, [], Ghost.le.refl _, ⟨A.size, A.defers, A.slots, A.heap.drew⟩, List.nodup_nil, by simp, by simp⟩
  simpa using this
end
end Go.Sx

namespace Go.Sx
open Go

/-- what an operation of the head leaves: one value; or a value and a fragment of its own, told by a relation that looks at the values on which it hangs -/
inductive YS where
  | det (v : Value)
  | rel (Y : (Nat → Value) → Value → Frag → Ghost → Prop)
  | gone (Y : (Nat → Value) → Value → Frag → Ghost → Prop)
def YS.holds : YS → (Nat → Value) → Value → Frag → Ghost → Prop
  | .det u, _, v, F, _ => v = u ∧ F = []
  | .rel Y, env, v, F, h => Y env v F h
  | .gone Y, env, v, F, h => Y env v F h
def YS.isGone : YS → Bool
  | .gone _ => true
  | _ => false
/-- .. behind the head -/
def YS.left : YS → (Nat → Value) → Value → Frag → Ghost → Prop
  | .det u, _, v, F, _ => v = u ∧ F = []
  | .rel Y, env, v, F, h => Y env v F h
  | .gone _, _, _, F, _ => F = []
def YS.mono : YS → Prop
  | .det _ => True
  | .rel Y => ∀ env v F h h', Ghost.le h h' → Y env v F h → Y env v F h'
  | .gone Y => ∀ env v F h h', Ghost.le h h' → Y env v F h → Y env v F h'
def YS.none : YS := .rel fun _ _ _ _ => False
def Monos : List YS → Prop
  | [] => True
  | y :: r => y.mono ∧ Monos r
theorem Monos.mem : ∀ {Ys : List YS}, Monos Ys → ∀ i, (Ys.getD i .none).mono
  | [], _, _ => fun _ _ _ _ _ _ h => h
  | y :: r, h, 0 => h.1
  | y :: r, h, i + 1 => by simpa using Monos.mem h.2 i
theorem holds_mono {y : YS} (hy : y.mono) {env : Nat → Value} {v : Value} {F : Frag} {h h' : Ghost} (hl : h.le h') (H : y.holds env v F h) : y.holds env v F h' := by
  cases y with
  | det u => exact H
  | rel Y => exact hy _ _ _ _ _ hl H
  | gone Y => exact hy _ _ _ _ _ hl H
/-- the fragments that are taken are those of the operations marked so -/
def goneB (U : List (List Nat)) (m : Nat) : Nat → List YS → Bool
  | _, [] => true
  | i, y :: r => (gone U m i == y.isGone) && goneB U m (i + 1) r
theorem goneB_get {U : List (List Nat)} {m : Nat} : ∀ {Ys : List YS} {i₀ : Nat}, goneB U m i₀ Ys = true → ∀ i, i < Ys.length → gone U m (i₀ + i) = (Ys.getD i .none).isGone
  | [], _, _, i, h => by simp at h
  | y :: r, i₀, H, i, hi => by
    simp only [goneB, Bool.and_eq_true] at H
    match i, hi with
    | 0, _ => simpa using H.1
    | i + 1, hi =>
      have := goneB_get H.2 i (by simpa using hi)
      rw [show i₀ + 1 + i = i₀ + (i + 1) from by omega] at this
      simpa using this

section
variable (P : Program) (l : List Oper) (Q : Exit → Act → World → Prop) (n m : Nat) (D U : List (List Nat)) (All : List YS) (K : List (Nat × Value)) (E : World) (h : Ghost) (S : List Frag)
/-- operation i does what is told of it, in whatever order -/
def Loc (i : Nat) (y : YS) : Prop := match U.getD i [] with
  | [] => ∀ env K' h' S', Sub K K' → (∀ j ∈ D.getD i [], get K' (dstOf l j) = some (env j)) → h.le h' →
    (∀ j ∈ D.getD i [], ∃ F, (All.getD j .none).holds (msk (D.getD j []) env) (env j) F h') →
    Wl P l.toArray (Gives n K' E h' (S' ++ S) (dstOf l i) (y.holds (msk (D.getD i []) env))) ((l[i]?).toList) n K' E h' (S' ++ S)
  | us => ∀ env K' h' S' (φ : Nat → Frag), Sub K K' → (∀ j ∈ D.getD i [], get K' (dstOf l j) = some (env j)) → h.le h' →
    (∀ j ∈ D.getD i [], j ∉ us → ∃ F, (All.getD j .none).holds (msk (D.getD j []) env) (env j) F h') →
    (∀ j ∈ us, (All.getD j .none).holds (msk (D.getD j []) env) (env j) (φ j) h') →
    Wl P l.toArray (Gives n K' E h' (S' ++ S) (dstOf l i) (y.holds (msk (D.getD i []) env))) ((l[i]?).toList) n K' E h' (us.map φ ++ (S' ++ S))
def Locs : Nat → List YS → Prop
  | _, [] => True
  | i, y :: r => Loc P l n D U All K E h S i y ∧ Locs (i + 1) r
/-- what stands behind the head -/
def TailP : Nat → List YS → List Value → List (Nat × Value) → Ghost → List Frag → Prop
  | _, [], _, K', h', S' => Wl P l.toArray Q (l.drop m) n K' E h' S'
  | i, .det v :: r, acc, K', h', S' => TailP (i + 1) r (acc ++ [v]) ((dstOf l i, v) :: K') h' S'
  | i, .gone _ :: r, acc, K', h', S' => ∀ v, TailP (i + 1) r (acc ++ [v]) ((dstOf l i, v) :: K') h' S'
  | i, .rel Y :: r, acc, K', h', S' => ∀ v F, Y (msk (D.getD i []) fun j => acc.getD j undef) v F h' → TailP (i + 1) r (acc ++ [v]) ((dstOf l i, v) :: K') h' (F :: S')
end

section
variable {P : Program} {Q : Exit → Act → World → Prop} {n : Nat} {K : List (Nat × Value)} {E : World} {h : Ghost} {S : List Frag} {l : List Oper} {m : Nat} {D U : List (List Nat)} {All : List YS}
theorem Locs.mk {i : Nat} {y : YS} {r : List YS} (h1 : Loc P l n D U All K E h S i y) (h2 : Locs P l n D U All K E h S (i + 1) r) : Locs P l n D U All K E h S i (y :: r) := ⟨h1, h2⟩
theorem Locs.get : ∀ {Ys : List YS} {i₀ : Nat}, Locs P l n D U All K E h S i₀ Ys → ∀ i, i < Ys.length → Loc P l n D U All K E h S (i₀ + i) (Ys.getD i .none)
  | [], _, _, i, hi => by simp at hi
  | y :: r, i₀, H, 0, _ => H.1
  | y :: r, i₀, H, i + 1, hi => by
    have := Locs.get H.2 i (by simpa using hi)
    rw [show i₀ + 1 + i = i₀ + (i + 1) from by omega] at this
    simpa using this

theorem As.flat {a : Act} {w : World} {S S' : List Frag} (A : As n K E h S a w) (e : S.flatten = S'.flatten) : As n K E h S' a w := ⟨A.size, A.defers, A.slots, e ▸ A.heap⟩

theorem range_split (k m : Nat) (hk : k < m) : (List.range' k (m - k)) = k :: List.range' (k + 1) (m - (k + 1)) := by
  rw [show m - k = (m - (k + 1)) + 1 from by omega, List.range'_succ]

theorem TailP.run : ∀ (Ys : List YS) (i₀ : Nat) (acc : List Value) (K' : List (Nat × Value)) (h' : Ghost) (S' : List Frag) (env : Nat → Value) (φ : Nat → Frag),
    i₀ + Ys.length = m → acc.length = i₀ → (∀ j, j < i₀ → acc.getD j undef = env j) → (∀ i, i₀ ≤ i → ∀ j ∈ D.getD i [], j < i) → (∀ i, i < Ys.length → (Ys.getD i .none).left (msk (D.getD (i₀ + i) []) env) (env (i₀ + i)) (φ (i₀ + i)) h') →
    TailP P l Q n m D E i₀ Ys acc K' h' S' → ∀ a w, As n (dk l env ((List.range' i₀ Ys.length).reverse) ++ K') E h' ((List.range' i₀ Ys.length).reverse.map φ ++ S') a w → wpList P l.toArray Q (l.drop m) a w
  | [], i₀, acc, K', h', S', env, φ, _, _, _, _, _, H, a, w, A => H a w A
  | y :: r, i₀, acc, K', h', S', env, φ, hm, hacc, henv, hD, hY, H, a, w, A => by
    have hlen : (List.range' i₀ (y :: r).length) = i₀ :: List.range' (i₀ + 1) r.length := by simp [List.range'_succ]
    rw [hlen, List.reverse_cons] at A
    have edk : ∀ L : List Nat, dk l env (L ++ [i₀]) = dk l env L ++ [(dstOf l i₀, env i₀)] := by
      intro L; induction L with
      | nil => rfl
      | cons j L ih => simp only [List.cons_append, dk, ih]
    rw [edk, List.append_assoc, List.map_append, List.append_assoc] at A
    have hacc' : ∀ j, j < i₀ + 1 → (acc ++ [env i₀]).getD j undef = env j := fun j hj => by
      rcases Nat.lt_or_ge j i₀ with hlt | hge
      · rw [← henv j hlt, List.getD_eq_getElem?_getD, List.getD_eq_getElem?_getD, List.getElem?_append_left (by omega)]
      · have : j = i₀ := by omega
        subst this
        rw [List.getD_eq_getElem?_getD, List.getElem?_append_right (by omega)]; simp [hacc]
    have h0 := hY 0 (by simp)
    have hnext : ∀ i, i < r.length → (r.getD i .none).left (msk (D.getD (i₀ + 1 + i) []) env) (env (i₀ + 1 + i)) (φ (i₀ + 1 + i)) h' := fun i hi => by
      have := hY (i + 1) (by simpa using hi)
      rw [show i₀ + (i + 1) = i₀ + 1 + i from by omega] at this
      simpa using this
    cases y with
    | det v =>
      simp only [List.getD_cons_zero, Nat.add_zero, YS.left] at h0
      obtain ⟨e1, e2⟩ := h0
      simp only [TailP] at H
      rw [← e1] at H
      refine TailP.run r (i₀ + 1) _ _ h' S' env φ (by simp at hm; omega) (by simp [hacc]) hacc' (fun i hi => hD i (by omega)) hnext H a w ?_
      refine (As.flat A ?_ : As n _ E h' _ a w)
      simp [e2]
    | gone Y =>
      simp only [List.getD_cons_zero, Nat.add_zero, YS.left] at h0
      simp only [TailP] at H
      refine TailP.run r (i₀ + 1) _ _ h' S' env φ (by simp at hm; omega) (by simp [hacc]) hacc' (fun i hi => hD i (by omega)) hnext (H (env i₀)) a w ?_
      refine (As.flat A ?_ : As n _ E h' _ a w)
      simp [h0]
    | rel Y =>
      simp only [List.getD_cons_zero, Nat.add_zero, YS.left] at h0
      simp only [TailP] at H
      have hmask : msk (D.getD i₀ []) (fun j => acc.getD j undef) = msk (D.getD i₀ []) env := msk_congr fun j hj => henv j (hD i₀ (Nat.le_refl _) j hj)
      rw [hmask] at H
      have H' := H (env i₀) (φ i₀) h0
      exact TailP.run r (i₀ + 1) _ _ h' (φ i₀ :: S') env φ (by simp at hm; omega) (by simp [hacc]) hacc' (fun i hi => hD i (by omega)) hnext H' a w A

/-- A REGION THAT DRAWS ITS ORDER; U: what the operations of the head take of one another. -/
theorem Wc.drawU {id : Nat} (m : Nat) (D U : List (List Nat)) (Ys : List YS) (hm : P.follows .mixedOrders = true) (hB : drawB l m D = true) (hU : useB m D U = true) (hg : goneB U m 0 Ys = true) (hK : freshB l m K = true) (hlen : Ys.length = m)
    (hD : D.length = m) (hloc : Locs P l n D U Ys K E h S 0 Ys) (hmono : Monos Ys)
    (tail : ∀ h', h.le h' → TailP P l Q n m D E 0 Ys [] K h' S) : Wc P Q (.region id l.toArray true) n K E h S := by
  refine Wc.drawn m D U hU (fun i env v F h => (Ys.getD i .none).holds env v F h) hm hB hK (fun i env v F h h' hl H => holds_mono (hmono.mem i) hl H) ?_ ?_
  · intro i hi env K' h' S' φ hs hd hl hYs hUs
    have := hloc.get i (by omega)
    rw [Nat.zero_add] at this
    unfold Loc at this
    revert this hYs hUs
    generalize U.getD i [] = us
    intro hYs hUs this
    cases us with
    | nil => exact this env K' h' S' hs hd hl fun j hj => hYs j hj (by simp)
    | cons u us => exact this env K' h' S' φ hs hd hl hYs hUs
  · intro env φ h' hl hYs a w A
    have hDlt : ∀ i, 0 ≤ i → ∀ j ∈ D.getD i [], j < i := fun i _ j hj => by
      rcases Nat.lt_or_ge i m with him | him
      · have hB' := hB
        unfold drawB at hB'
        simp only [Bool.and_eq_true, List.all_eq_true, decide_eq_true_eq, List.mem_range] at hB'
        exact ((hB'.1.1.1.1 i him).1.2 j hj).1
      · rw [List.getD_eq_getElem?_getD, List.getElem?_eq_none (by omega)] at hj; simp at hj
    have e : List.range m = List.range' 0 Ys.length := by rw [hlen, List.range_eq_range']
    rw [e] at A
    refine TailP.run Ys 0 [] K h' S env φ (by omega) rfl (fun j hj => by omega) hDlt (fun i hi => ?_) (tail h' hl) a w A
    have hgi := goneB_get hg i hi
    obtain ⟨h1, h2⟩ := hYs i (by omega)
    rw [Nat.zero_add] at hgi ⊢
    revert h1 h2
    rw [hgi]
    cases hy : Ys.getD i .none with
    | det u => intro h1 _; exact h1 rfl
    | rel Y => intro h1 _; exact h1 rfl
    | gone Y => intro _ h2; exact h2 rfl

/-- A REGION THAT DRAWS ITS ORDER. -/
theorem Wc.draw {id : Nat} (m : Nat) (D : List (List Nat)) (Ys : List YS) (hm : P.follows .mixedOrders = true) (hB : drawB l m D = true) (hK : freshB l m K = true) (hlen : Ys.length = m)
    (hD : D.length = m) (hloc : Locs P l n D [] Ys K E h S 0 Ys) (hmono : Monos Ys)
    (tail : ∀ h', h.le h' → TailP P l Q n m D E 0 Ys [] K h' S) (hg : goneB [] m 0 Ys = true := by rfl) : Wc P Q (.region id l.toArray true) n K E h S := by
  refine Wc.drawU m D [] Ys hm hB ?_ hg hK hlen hD hloc hmono tail
  have hgn : ∀ j, gone [] m j = false := fun j => by unfold gone; rw [List.any_eq_false]; simp
  unfold useB
  simp [List.all_eq_true, noDup, hgn]

/-- a new variable -/
def NewY (T : TypeId) (l : List Value) : (Nat → Value) → Value → Frag → Ghost → Prop := fun _ v F _ => ∃ b, v = .pointer (some ⟨b, 0, none⟩) ∧ F = [(b, cells l T)]
theorem NewY.mono {T : TypeId} {l : List Value} : (YS.rel (NewY T l)).mono := fun _ _ _ _ _ _ H => H
theorem NewY.all {T : TypeId} {l : List Value} {e : Nat → Value} {h : Ghost} {G : Value → Frag → Prop} (H : ∀ b, G (.pointer (some ⟨b, 0, none⟩)) [(b, cells l T)]) : ∀ v F, NewY T l e v F h → G v F := by
  rintro _ _ ⟨b, rfl, rfl⟩
  exact H b

/-- the value of an operation that leaves one value -/
theorem detL {K' : List (Nat × Value)} {env : Nat → Value} {j : Nat} {v : Value} {h' : Ghost} {e2 : Nat → Value} (hd : get K' (dstOf l j) = some (env j)) (hY : ∃ F, (YS.det v).holds e2 (env j) F h') : get K' (dstOf l j) = some v := by
  obtain ⟨F, e, _⟩ := hY
  rw [hd, e]
theorem Has.right {A S : List Frag} {b : Nat} {o : Obj} (H : Has S b o) : Has (A ++ S) b o := by
  induction A with
  | nil => exact H
  | cons F A ih => exact .there ih
end
end Go.Sx

namespace Go.Sx
open Go

inductive SetLs : List Value → Nat → List Value → List Value → Prop
  | nil {l o} : SetLs l o [] l
  | cons {l o v vs l1 l2} : SetL l o v l1 → SetLs l1 (o + 1) vs l2 → SetLs l o (v :: vs) l2
theorem SetLs.eq {l : List Value} {o : Nat} {vs l' : List Value} (H : SetLs l o vs l') : splice l o vs = l' ∧ (vs = [] ∨ o + vs.length ≤ l.length) := by
  induction H with
  | nil => exact ⟨rfl, .inl rfl⟩
  | cons h1 _ ih =>
    obtain ⟨e1, e2⟩ := h1.eq
    subst e1
    refine ⟨by rw [splice]; exact ih.1, .inr ?_⟩
    rcases ih.2 with e | e
    · subst e; simp only [List.length_cons, List.length_nil]; omega
    · simp at e ⊢; omega

inductive FillR (pl : List (Nat × Nat)) : List Value → List (Nat × Value) → List Value → Prop
  | nil {c} : FillR pl c [] c
  | cons {c i off sz v vs c1 rest c2} : pl[i]? = some (off, sz) → v.cells = vs.toArray → vs.length = sz → SetLs c off vs c1 → FillR pl c1 rest c2 → FillR pl c ((i, v) :: rest) c2

theorem foldl_splice (off : Nat) : ∀ (vs : List Value) (j : Nat) (c : List Value), (vs.zipIdx j).foldl (fun cs (x : Value × Nat) => Array.setIfInBounds cs (off + x.2) x.1) c.toArray = (splice c (off + j) vs).toArray
  | [], j, c => by simp [splice]
  | v :: r, j, c => by
    simp only [List.zipIdx_cons, List.foldl_cons, splice]
    rw [List.setIfInBounds_toArray, foldl_splice off r (j + 1)]; rfl

theorem fill_step (place : Nat → Option (Nat × Nat)) {i off sz : Nat} {v : Value} {vs c : List Value} {rest : List (Nat × Value)} (hp : place i = some (off, sz)) (hv : v.cells = vs.toArray) (hs : vs.length = sz)
    (hlen : off + vs.length ≤ c.length) : Instr.fill place c.toArray ((i, v) :: rest) = Instr.fill place (splice c off vs).toArray rest := by
  rw [Instr.fill, hp]
  simp only [hv]
  have hc : ¬ ((decide (vs.toArray.size ≠ sz) || decide (off + vs.toArray.size > c.toArray.size)) = true) := by
    rw [Bool.or_eq_true, decide_eq_true_eq, decide_eq_true_eq, List.size_toArray, List.size_toArray]; omega
  rw [if_neg hc]
  congr 1
  have := foldl_splice off vs 0 c
  rw [Nat.add_zero] at this
  rw [← this, ← Array.foldl_toList]
  congr 1
  simp

theorem fill_of {pl : List (Nat × Nat)} {c : List Value} {ps : List (Nat × Value)} {cs : List Value} (H : FillR pl c ps cs) (place : Nat → Option (Nat × Nat)) (hpl : ∀ i, place i = pl[i]?)
    (hz : ∀ p ∈ pl, p.2 ≠ 0) : Instr.fill place c.toArray ps = some cs.toArray := by
  induction H with
  | nil => rfl
  | cons h1 h2 h3 h4 _ ih =>
    obtain ⟨e1, e2⟩ := h4.eq
    subst e1
    rw [fill_step place (by rw [hpl]; exact h1) h2 h3 ?_]
    · exact ih
    · rcases e2 with e | e
      · subst e; simp at h3; subst h3; exact absurd rfl (hz _ (List.mem_of_getElem? h1))
      · exact e

/-- a struct or array type that is built -/
def BuildOK (P : Program) (T : TypeId) (pl : List (Nat × Nat)) (z : List Value) : Prop := ∀ ps cs, FillR pl z ps cs → ∀ w, (Instr.build T ps.toArray).run P w = .ok (.agg cs.toArray) w
theorem BuildOK.struct {P : Program} {T : TypeId} {fs : Array Field} {pl : List (Nat × Nat)} {z : List Value} {zv : Value} (hT : P.underlying T = some (.struct fs)) (hz : ∀ w, (zeroValue T).run P w = .ok zv w) (hzv : zv.cells = z.toArray)
    (hpl : ∀ w, ((fs.mapM fun f => do pure (f.offset, ← sizeOf f.type) : Sem (Array (Nat × Nat)))).run P w = .ok pl.toArray w) (hp : pl.all (fun p => !Nat.beq p.2 0) = true) : BuildOK P T pl z := fun ps cs H w => by
  have := fill_of H (pl.toArray[·]?) (fun i => by simp) (fun p hp' e => by have := List.all_eq_true.1 hp p hp'; rw [e] at this; cases this)
  simp only [Instr.build, Sem.run_bind, hz, Result.andThen_ok, underlying, run_program, hT, Sem.run_pure, hzv]
  have hpl' := hpl w
  rw [hpl']
  simp only [Result.andThen_ok, this]
  rfl
theorem BuildOK.array {P : Program} {T e : TypeId} {len k : Nat} {z : List Value} {zv : Value} (hT : P.underlying T = some (.array len e)) (hz : ∀ w, (zeroValue T).run P w = .ok zv w) (hzv : zv.cells = z.toArray)
    (hs : ∀ w, (sizeOf e).run P w = .ok k w) (hk : Nat.beq k 0 = false) (_hzl : z.length = len * k) : BuildOK P T ((List.range len).map fun i => (i * k, k)) z := fun ps cs H w => by
  have hk' : k ≠ 0 := Nat.ne_of_beq_eq_false hk
  have aux : ∀ {c : List Value} {ps cs}, FillR ((List.range len).map fun i => (i * k, k)) c ps cs → Instr.fill (fun i => some (i * k, k)) c.toArray ps = some cs.toArray := by
    intro c ps cs H
    induction H with
    | nil => rfl
    | cons h1 h2 h3 h4 _ ih =>
      obtain ⟨e1, e2⟩ := h4.eq
      subst e1
      rw [List.getElem?_map, Option.map_eq_some_iff] at h1
      obtain ⟨j, hj, e⟩ := h1
      obtain ⟨_, hij⟩ := List.getElem?_eq_some_iff.1 hj
      simp at hij
      subst hij
      cases e
      rw [fill_step _ rfl h2 h3 ?_]
      · exact ih
      · rcases e2 with e | e
        · subst e; simp at h3; exact absurd h3.symm hk'
        · exact e
  simp only [Instr.build, Sem.run_bind, hz, Result.andThen_ok, underlying, run_program, hT, Sem.run_pure, hs, hzv]
  rw [aux H]
  rfl

def evP (K : List (Nat × Value)) : List (Nat × Operand) → Option (List (Nat × Value))
  | [] => some []
  | (i, x) :: r => match ev K x, evP K r with
    | some v, some vs => some ((i, v) :: vs)
    | _, _ => none
theorem As.evP {n : Nat} {K : List (Nat × Value)} {E : World} {h : Ghost} {S : List Frag} {a : Act} {w : World} (A : As n K E h S a w) :
    ∀ {xs : List (Nat × Operand)} {vs : List (Nat × Value)}, evP K xs = some vs → xs.map (fun p => (p.1, a.eval p.2)) = vs
  | [], vs, hx => by simpa [Sx.evP] using hx
  | (i, x) :: r, vs, hx => by
    simp only [Sx.evP] at hx
    split at hx
    · rename_i v us h1 h2
      cases hx
      rw [List.map_cons, A.ev h1, A.evP h2]
    · cases hx

/-- the cells of a new row: each element's -/
def numbered : Nat → List Value → List (Nat × Value)
  | _, [] => []
  | i, v :: r => (i, v) :: numbered (i + 1) r
inductive Cellss (k : Nat) : List Value → List (List Value) → Prop
  | nil : Cellss k [] []
  | cons {v vs r rs} : v.cells = vs.toArray → vs.length = k → Cellss k r rs → Cellss k (v :: r) (vs :: rs)

theorem fill_row {k : Nat} : ∀ {vals : List Value} {vss : List (List Value)}, Cellss k vals vss → ∀ (i : Nat) (c : List Value), i * k + vals.length * k ≤ c.length →
    Instr.fill (fun i => some (i * k, k)) c.toArray (numbered i vals) = some (c.take (i * k) ++ vss.flatten ++ c.drop (i * k + vals.length * k)).toArray := by
  intro vals vss H
  induction H with
  | nil => intro i c h; simp [numbered, Instr.fill]
  | cons h1 h2 h3 ih =>
    rename_i v vs r rs
    intro i c hc
    simp only [List.length_cons, Nat.add_mul, Nat.one_mul] at hc
    have hc1 : i * k + vs.length ≤ c.length := by omega
    rw [numbered, fill_step _ rfl h1 h2 hc1, ih]
    · rw [splice_eq _ _ _ hc1]
      have hl : (c.take (i * k)).length = i * k := by simp; omega
      have e1 : (i + 1) * k = (c.take (i * k) ++ vs).length := by rw [List.length_append, hl, h2, Nat.add_mul, Nat.one_mul]
      have e3 : (c.take (i * k) ++ vs ++ c.drop (i * k + vs.length)).take ((i + 1) * k) = c.take (i * k) ++ vs := by rw [e1, List.take_left]
      have e4 : (c.take (i * k) ++ vs ++ c.drop (i * k + vs.length)).drop ((i + 1) * k + r.length * k) = c.drop (i * k + (v :: r).length * k) := by
        rw [List.drop_append, List.drop_eq_nil_of_le (by rw [← e1]; omega), List.nil_append, List.drop_drop]
        congr 1
        rw [← e1, List.length_cons, Nat.add_mul, Nat.add_mul, Nat.one_mul]; omega
      rw [e3, e4, List.flatten_cons]
      simp only [List.append_assoc]
    · rw [splice_length, Nat.add_mul, Nat.one_mul]; omega

def idxs : Nat → List (Nat × Operand) → Bool
  | _, [] => true
  | i, p :: r => Nat.beq p.1 i && idxs (i + 1) r
theorem As.evN {n : Nat} {K : List (Nat × Value)} {E : World} {h : Ghost} {S : List Frag} {a : Act} {w : World} (A : As n K E h S a w) :
    ∀ {xs : List (Nat × Operand)} {vs : List Value} {i : Nat}, Sx.evs K (xs.map Prod.snd) = some vs → idxs i xs = true → xs.map (fun p => (p.1, a.eval p.2)) = numbered i vs
  | [], vs, i, hx, _ => by simp [Sx.evs] at hx; subst hx; rfl
  | (j, x) :: r, vs, i, hx, hi => by
    simp only [idxs, Bool.and_eq_true] at hi
    have e : j = i := Nat.eq_of_beq_eq_true hi.1
    subst e
    simp only [List.map_cons, Sx.evs] at hx
    split at hx
    · rename_i v us h1 h2
      cases hx
      rw [List.map_cons, A.ev h1, A.evN h2 hi.2]; rfl
    · cases hx

section
variable {P : Program} {ops : Array Oper} {Q : Exit → Act → World → Prop} {n : Nat} {K : List (Nat × Value)} {E : World} {h : Ghost} {S : List Frag} {rest : List Oper}
  {d : Nat} {ty : TypeId} {pos : String} {af : Array Edge}
theorem Wl.build {T : TypeId} {pl : List (Nat × Nat)} {z : List Value} {xs : List (Nat × Operand)} {ps : List (Nat × Value)} {cs : List Value} (ht : BuildOK P T pl z) (hx : evP K xs = some ps) (hf : FillR pl z ps cs) (hd : Nat.blt d n = true)
    (H : Wl P ops Q rest n ((d, .agg cs.toArray) :: K) E h S) : Wl P ops Q (⟨some d, .build T xs.toArray, ty, pos, af, none⟩ :: rest) n K E h S :=
  Wl.pure hd (fun a w A => by
    have e := A.evP hx
    have hr := ht ps cs hf w
    simp only [execOp, Sem.run_bind, List.map_toArray]
    rw [e, hr]; rfl) H

/-- a new slice of all its elements -/
theorem Wl.buildSlice {T e : TypeId} {k bytes len : Nat} {z : Value} {xs : List (Nat × Operand)} {vals : List Value} {vss : List (List Value)} (ht : SlOK P T e k bytes z) (hx : evs K (xs.map Prod.snd) = some vals) (hxi : idxs 0 xs = true) (hl : vals.length = len)
    (hc : Cellss k vals vss) (hlim : Nat.ble (len * k) 16777216 = true) (hlen : Nat.beq len 0 = false) (hd : Nat.blt d n = true)
    (H : ∀ b, Wl P ops Q rest n ((d, .slice (some ⟨b, 0, none⟩) len len) :: K) E h ([(b, cells vss.flatten e)] :: S)) :
    Wl P ops Q (⟨some d, .buildSlice T len xs.toArray, ty, pos, af, none⟩ :: rest) n K E h S := fun a w A => by
  have hsz := ht.zs
  obtain ⟨i, hi, h1, h2, h3⟩ := ht.info
  subst hl
  have hpos := ht.pos
  have h0 : ¬ (vals.length * k = 0) := by
    have := Nat.ne_of_beq_eq_false hlen
    intro e; rcases Nat.mul_eq_zero.1 e with e | e <;> omega
  have hlim' : ¬ (vals.length * k > 2 ^ 24) := by have := Nat.le_of_ble_eq_true hlim; omega
  obtain ⟨c0, hc0, hc0l⟩ : ∃ c0 : List Value, ((Array.range (vals.length * k)).map (z.cells[· % z.cells.size]!)) = c0.toArray ∧ c0.length = vals.length * k :=
    ⟨_, (Array.toArray_toList).symm, by simp⟩
  have hfill := fill_row hc 0 c0 (by omega)
  simp only [Nat.zero_mul, List.take_zero, List.nil_append, Nat.zero_add] at hfill
  rw [List.drop_eq_nil_of_le (by omega), List.append_nil] at hfill
  have hr : (Instr.buildSlice T vals.length (numbered 0 vals).toArray).run P w = .ok (.slice (some ⟨w.heap.size, 0, none⟩) vals.length vals.length) (w.alloc (cells vss.flatten e)) := by
    simp only [Instr.buildSlice, Sem.run_bind, underlying, run_program, Result.andThen_ok, ht.und, Sem.run_pure, ht.sizeOf, if_neg hlim', if_neg h0, zeroValue, typeInfo, hi, h3]
    rw [hc0, hfill]
    rfl
  refine wl_value ?_ (H w.heap.size _ _ (A.put hd (A.heap.alloc _)))
  have e' := A.evN hx hxi
  simp only [execOp, Sem.run_bind, List.map_toArray]
  rw [e', hr]; rfl

/-- an array type: len elements of type e, k cells each -/
structure ArrOK (P : Program) (T : TypeId) (len : Nat) (e : TypeId) (agg : Bool) (k : Nat) : Prop where
  und : P.underlying T = some (.array len e)
  agg : ∀ w, (isAgg e).run P w = .ok agg w
  size : ∀ w, (sizeOf e).run P w = .ok k w
theorem Wl.indexA {T e : TypeId} {len k i : Nat} {x y : Operand} {l vs : List Value} {kk : IntKind} {c : Int} (ht : ArrOK P T len e true k) (hx : ev K x = some (.agg l.toArray)) (hy : ev K y = some (.int kk c)) (hi : c = (i : Int)) (hlt : i < len)
    (hv : (l.drop (i * k)).take k = vs) (hd : Nat.blt d n = true) (H : Wl P ops Q rest n ((d, .agg vs.toArray) :: K) E h S) : Wl P ops Q (⟨some d, .index T x y, ty, pos, af, none⟩ :: rest) n K E h S :=
  Wl.pure hd (fun a w A => by
    subst hi
    have e1 : (0 : Int) ≤ (i : Int) ∧ (i : Int) < (len : Int) := by omega
    have e2 : l.toArray.extract (i * k) (i * k + k) = vs.toArray := by
      rw [← hv]; apply Array.ext'; simp
    simp only [execOp, Instr.index, A.ev hx, A.ev hy, asIntOf, underlying, Sem.run_bind, Sem.run_pure, Result.andThen_ok, run_program, ht.und, if_pos e1, ht.size, part, ht.agg, if_true, Int.toNat_natCast]
    rw [e2]) H
theorem Wl.index1 {T e : TypeId} {len i : Nat} {x y : Operand} {l : List Value} {v : Value} {kk : IntKind} {c : Int} (ht : ArrOK P T len e false 1) (hx : ev K x = some (.agg l.toArray)) (hy : ev K y = some (.int kk c)) (hi : c = (i : Int)) (hlt : i < len)
    (hv : l[i]? = some v) (hd : Nat.blt d n = true) (H : Wl P ops Q rest n ((d, v) :: K) E h S) : Wl P ops Q (⟨some d, .index T x y, ty, pos, af, none⟩ :: rest) n K E h S :=
  Wl.pure hd (fun a w A => by
    subst hi
    have e1 : (0 : Int) ≤ (i : Int) ∧ (i : Int) < (len : Int) := by omega
    simp [execOp, Instr.index, A.ev hx, A.ev hy, asIntOf, underlying, ht.und, ht.size, part, ht.agg, hv]; omega) H
/-- the address of an array's element -/
theorem Wl.elemA {T e : TypeId} {len k i : Nat} {agg : Bool} {x y : Operand} {b o : Nat} {kk : IntKind} {c : Int} (ht : ArrOK P T len e agg k) (hx : ev K x = some (.pointer (some ⟨b, o, none⟩))) (hy : ev K y = some (.int kk c)) (hi : c = (i : Int)) (hlt : i < len)
    (hd : Nat.blt d n = true) (H : Wl P ops Q rest n ((d, .pointer (some ⟨b, o + i * k, none⟩)) :: K) E h S) : Wl P ops Q (⟨some d, .indexAddr T x y, ty, pos, af, none⟩ :: rest) n K E h S :=
  Wl.pure hd (fun a w A => by
    subst hi
    have e1 : (0 : Int) ≤ (i : Int) ∧ (i : Int) < (len : Int) := by omega
    simp only [execOp, Instr.indexAt, A.ev hx, A.ev hy, asIntOf, underlying, Sem.run_bind, Sem.run_pure, Result.andThen_ok, run_program, ht.und, Instr.sureAddr, if_pos e1, ht.size, Addr.add_eq, Int.toNat_natCast]) H
end
end Go.Sx

namespace Go.Sx
open Go

/-- '==' at a type of structs or arrays -/
structure EqOK (P : Program) (T : TypeId) {α : Type} (enc : α → List Value) (eqB : α → α → Bool) : Prop where
  guard : P.eqGuardType P.depth T = false
  eql : ∀ a b w, (Op.equalIn 10000 T (.agg (enc a).toArray) (.agg (enc b).toArray)).run P w = .ok (eqB a b) w

section
variable {P : Program} {ops : Array Oper} {Q : Exit → Act → World → Prop} {n : Nat} {K : List (Nat × Value)} {E : World} {h : Ghost} {S : List Frag} {rest : List Oper}
  {d : Nat} {ty : TypeId} {pos : String} {af : Array Edge}
theorem Wl.aEql {α : Type} {enc : α → List Value} {eqB : α → α → Bool} {t t' : TypeId} {x y : Operand} (a b : α) (he : EqOK P t enc eqB) (hx : ev K x = some (.agg (enc a).toArray)) (hy : ev K y = some (.agg (enc b).toArray)) (hd : Nat.blt d n = true)
    (H : Wl P ops Q rest n ((d, .bool (eqB a b)) :: K) E h S) : Wl P ops Q (⟨some d, .binOp .eql t x y t', ty, pos, af, none⟩ :: rest) n K E h S :=
  Wl.pure hd (fun a' w A => by
    simp only [execOp, A.ev hx, A.ev hy, Sem.run_bind, run_eqGuard_agg w _ _ _ _ _ _ he.guard, Result.andThen_ok, run_eql_struct, he.eql, Sem.run_pure]
    try rfl) H
theorem Wl.aNeq {α : Type} {enc : α → List Value} {eqB : α → α → Bool} {t t' : TypeId} {x y : Operand} (a b : α) (he : EqOK P t enc eqB) (hx : ev K x = some (.agg (enc a).toArray)) (hy : ev K y = some (.agg (enc b).toArray)) (hd : Nat.blt d n = true)
    (H : Wl P ops Q rest n ((d, .bool (!(eqB a b))) :: K) E h S) : Wl P ops Q (⟨some d, .binOp .neq t x y t', ty, pos, af, none⟩ :: rest) n K E h S :=
  Wl.pure hd (fun a' w A => by
    simp only [execOp, A.ev hx, A.ev hy, Sem.run_bind, run_eqGuard_agg w _ _ _ _ _ _ he.guard, Result.andThen_ok, run_neq_struct, he.eql, Sem.run_pure]
    try rfl) H
end

theorem getMap {P : Program} {w : World} {r : Nat} {es : Array MapEntry} {clock : Nat} (hb : w.heap[r]? = some (.map es clock)) : (getObj r).run P w = .ok (.map es clock) w := by
  simp [getObj, Sem.run, hb]
theorem setMap {P : Program} {w : World} {r : Nat} {es : Array MapEntry} {clock : Nat} (o : Obj) (hb : w.heap[r]? = some (.map es clock)) : (setObj r o).run P w = .ok () { w with heap := w.heap.setIfInBounds r o } := by
  simp [setObj, Sem.run, hb]
section
variable {P : Program} {n : Nat} {K : List (Nat × Value)} {E : World} {h : Ghost} {S : List Frag} {Q : Exit → Act → World → Prop}
/-- THE END of a function that keeps own blocks F' -/
theorem Fin.keep {fn : Func} {h₀ : Ghost} {R F' : List Frag} (L : List Frag) {Post : Value → Ghost → List Frag → Prop} {v : Value} (e : Exit) (he : e = .ret ∨ e = .normal)
    (hr : ∀ a w, As n K E h (L ++ (F' ++ R)) a w → (results fn a.tmps).run P w = .ok v w) (hl : h₀.le h)
    (hp : (∀ p, p ∈ L.flatten → (h.ext L.flatten) p.1 = some p.2) → h.le (h.ext L.flatten) → Post v (h.ext L.flatten) F') : Wx (Fin P fn E h₀ R Post) e n K E h (L ++ (F' ++ R)) := fun a w A => by
  have A2 : Heap E h (L.flatten ++ (F' ++ R).flatten) w := by have := A.heap; rwa [List.flatten_append] at this
  obtain ⟨H1, H2⟩ := A2.freeze
  have hres := hr a w A
  have fin : ∃ v' h' F', Ending.returned v = .returned v' ∧ h₀.le h' ∧ Heap E h' (F' ++ R).flatten w ∧ Post v' h' F' :=
    ⟨v, h.ext L.flatten, F', rfl, hl.trans (Ghost.le_ext _ _), H1, hp H2 (Ghost.le_ext _ _)⟩
  rcases he with rfl | rfl
  · exact ⟨A.defers, v, hres, fin⟩
  · exact ⟨A.defers, v, hres, fin⟩
theorem Wx.drops {S' : List Frag} {e : Exit} (d : Drops S S') (H : Wx Q e n K E h S') : Wx Q e n K E h S := fun a w A => H a w (A.drops d)
/-- a value that hangs on its arguments alone, where own blocks are handed in and come back as they were -/
def SpecK (P : Program) (f : FuncId) (args : List Value) (h : Ghost) (F : List Frag) (v : Value) : Prop := Spec P f args h F fun u _ F' => u = v ∧ F' = F
theorem endK {fn : Func} {h₀ : Ghost} {R F : List Frag} {v u : Value} {t : Tmp} (e : Exit) (he : e = .ret ∨ e = .normal) (hf : fn.results = #[.tmp t]) (hv : get K t = some v) (L : List Frag) (hl : h₀.le h) (hu : v = u) :
    Wx (Fin P fn E h₀ R fun v _ F' => v = u ∧ F' = F) e n K E h (L ++ (F ++ R)) :=
  Fin.keep L e he (run_tmp hf hv) hl (fun _ _ => ⟨hu, rfl⟩)
end
/-! ### keys -/
/-- keys of a map's type; the values of keys are told by enc -/
structure KeyOK (P : Program) (k : TypeId) {κ : Type} [DecidableEq κ] (enc : κ → Value) : Prop where
  check : ∀ b x w, (Instr.checkKey b 10000 k (enc x)).run P w = .ok () w
  same : ∀ x w, (Instr.keyThatStays (enc x) (enc x)).run P w = .ok (enc x) w
  find : ∀ (x : κ) (es : List MapEntry) (m : List κ) (w : World), es.map (·.key) = m.map enc → ∃ r, (Instr.findKey k (enc x) es).run P w = .ok r w ∧
    match r with | none => x ∉ m | some (i, v) => m[i]? = some x ∧ (es[i]?).map (·.val) = some v

section
variable {κ : Type} [DecidableEq κ]
def lookK (x : κ) : List κ → List MapEntry → Nat → Option (Nat × Value)
  | a :: m, e :: es, i => if x = a then some (i, e.val) else lookK x m es (i + 1)
  | _, _, _ => none
theorem lookK_spec (x : κ) : ∀ (m : List κ) (es : List MapEntry) (i : Nat), es.length = m.length → match lookK x m es i with | none => x ∉ m | some (j, v) => i ≤ j ∧ m[j - i]? = some x ∧ (es[j - i]?).map (·.val) = some v
  | [], es, i, h => by simp [lookK]
  | a :: m, [], i, h => by simp at h
  | a :: m, e :: es, i, h => by
    have ih := lookK_spec x m es (i + 1) (by simpa using h)
    unfold lookK
    by_cases hx : x = a
    · rw [if_pos hx]; simp [hx]
    · rw [if_neg hx]
      cases hr : lookK x m es (i + 1) with
      | none => rw [hr] at ih; simp only at ih ⊢; simp [hx, ih]
      | some p =>
        obtain ⟨j, v⟩ := p
        rw [hr] at ih
        simp only at ih ⊢
        obtain ⟨h1, h2, h3⟩ := ih
        refine ⟨by omega, ?_⟩
        rw [show j - i = (j - (i + 1)) + 1 from by omega]
        exact ⟨by simpa using h2, by simpa using h3⟩
theorem KeyOK.of_look {P : Program} {k : TypeId} {enc : κ → Value} (check : ∀ b x w, (Instr.checkKey b 10000 k (enc x)).run P w = .ok () w) (same : ∀ x w, (Instr.keyThatStays (enc x) (enc x)).run P w = .ok (enc x) w)
    (find : ∀ (x : κ) (es : List MapEntry) (m : List κ) (w : World), es.map (·.key) = m.map enc → (Instr.findKey k (enc x) es).run P w = .ok (lookK x m es 0) w) : KeyOK P k enc :=
  ⟨check, same, fun x es m w he => by
    refine ⟨_, find x es m w he, ?_⟩
    have := lookK_spec x m es 0 (by have := congrArg List.length he; simpa using this)
    cases hr : lookK x m es 0 with
    | none => rw [hr] at this; exact this
    | some p => rw [hr] at this; simpa using this⟩
theorem findNow_str (x : ByteArray) (es : List MapEntry) : ∀ (m : List ByteArray) (i : Nat), es.map (·.key) = m.map Value.string → Instr.findNow .string (.string x) es i = some (lookK x m es i) := by
  induction es with
  | nil => intro m i h; cases m <;> simp_all [Instr.findNow, lookK]
  | cons e es ih =>
    intro m i h
    cases m with
    | nil => simp at h
    | cons a m =>
      simp only [List.map_cons, List.cons.injEq] at h
      unfold Instr.findNow lookK
      rw [h.1]
      simp only [Instr.sameNow]
      by_cases hx : x = a
      · subst hx; rw [if_pos rfl]
        have : (x == x) = true := by rw [beq_toListBytes]; simp
        rw [this]
      · rw [if_neg hx]
        have : (x == a) = false := by
          rw [beq_toListBytes, Bool.eq_false_iff]; intro hh
          have := eq_of_beq hh
          apply hx
          rw [ByteArray.toList_eq, ByteArray.toList_eq] at this
          obtain ⟨⟨u⟩⟩ := x; obtain ⟨⟨v⟩⟩ := a; simp_all
        rw [this]; exact ih m (i + 1) h.2
theorem KeyOK.string {P : Program} {k : TypeId} (hk : P.underlying k = some .string) : KeyOK P k Value.string := by
  refine .of_look (fun b x w => ?_) (fun x w => ?_) (fun x es m w he => ?_)
  · rw [show (10000 : Nat) = 9999 + 1 from rfl, Instr.checkKey]; simp [run_underlying hk]
  · have h1 : (x == x) = true := by rw [beq_toListBytes]; simp
    have : Instr.sameBits 10000 (.string x) (.string x) = true := by rw [show (10000 : Nat) = 9999 + 1 from rfl, Instr.sameBits]; exact h1
    simp [Instr.keyThatStays, this]
  · simp only [Instr.findKey, Sem.run_bind, run_underlying hk, Result.andThen_ok, findNow_str x es m 0 he]
    rfl
theorem run_findAsking {P : Program} {k : TypeId} {enc : κ → Value} (heq : ∀ a b w, (Op.equal k (enc a) (enc b)).run P w = .ok (decide (a = b)) w) (x : κ) (w : World) (es : List MapEntry) :
    ∀ (m : List κ) (i : Nat), es.map (·.key) = m.map enc → (Instr.findAsking k (enc x) es i).run P w = .ok (lookK x m es i) w := by
  induction es with
  | nil => intro m i h; cases m <;> simp_all [Instr.findAsking, lookK]
  | cons e es ih =>
    intro m i h
    cases m with
    | nil => simp at h
    | cons a m =>
      simp only [List.map_cons, List.cons.injEq] at h
      unfold Instr.findAsking lookK
      rw [h.1]
      simp only [Sem.run_bind, heq, Result.andThen_ok]
      by_cases hx : x = a
      · simp [hx]
      · simp only [hx, decide_false, Bool.false_eq_true, if_false]; exact ih m (i + 1) h.2
theorem KeyOK.struct {P : Program} {k : TypeId} {fs : Array Field} {enc : κ → List Value} (hk : P.underlying k = some (.struct fs)) (check : ∀ b x w, (Instr.checkKey b 10000 k (.agg (enc x).toArray)).run P w = .ok () w)
    (same : ∀ x w, (Instr.keyThatStays (.agg (enc x).toArray) (.agg (enc x).toArray)).run P w = .ok (.agg (enc x).toArray) w) (he : EqOK P k enc fun a b => decide (a = b)) : KeyOK P k (fun x => .agg (enc x).toArray) := by
  refine .of_look check same fun x es m w hes => ?_
  simp only [Instr.findKey, Sem.run_bind, run_underlying hk, Result.andThen_ok]
  cases es with
  | nil => cases m <;> simp_all [Instr.findNow, lookK]
  | cons e es =>
    cases m with
    | nil => simp at hes
    | cons a m =>
      have h1 : e.key = .agg (enc a).toArray := by simp at hes; exact hes.1
      have : Instr.findNow (.struct fs) (.agg (enc x).toArray) (e :: es) 0 = none := by simp [Instr.findNow, Instr.sameNow]
      rw [this]
      exact run_findAsking (enc := fun x => .agg (enc x).toArray) (fun a b w => he.eql a b w) x w (e :: es) (a :: m) 0 hes
end

/-! ### maps -/
def fput {κ ν : Type} [DecidableEq κ] (f : κ → Option ν) (x : κ) (o : Option ν) : κ → Option ν := fun y => if y = x then o else f y
/-- the own block b is a map with the entries of f -/
def Mp {κ ν : Type} (F : Frag) (b : Nat) (ek : κ → Value) (el : ν → Value) (f : κ → Option ν) : Prop :=
  ∃ (es : Array MapEntry) (clock : Nat) (m : List (κ × ν)), F = [(b, .map es clock)] ∧ es.toList.map (fun e => (e.key, e.val)) = m.map (fun p => (ek p.1, el p.2)) ∧ (m.map (·.1)).Nodup ∧ ∀ x v, f x = some v ↔ (x, v) ∈ m
theorem Mp.empty {κ ν : Type} {b : Nat} {ek : κ → Value} {el : ν → Value} : Mp [(b, .map #[] 0)] b ek el fun _ => none :=
  ⟨#[], 0, [], rfl, rfl, by simp, by simp⟩

section
variable {κ ν : Type}
theorem nodup_at {m : List (κ × ν)} (hn : (m.map (·.1)).Nodup) {i j : Nat} {x : κ} {u v : ν} (hi : m[i]? = some (x, u)) (hj : m[j]? = some (x, v)) : i = j := by
  refine (List.getElem?_inj (l := m.map (·.1)) ?_ hn).1 ?_
  · rw [List.length_map]; exact (List.getElem?_eq_some_iff.1 hi).1
  · simp [hi, hj]
end
section
variable {P : Program} {ops : Array Oper} {Q : Exit → Act → World → Prop} {n : Nat} {K : List (Nat × Value)} {E : World} {h : Ghost} {S : List Frag} {rest : List Oper}
  {d : Nat} {ty : TypeId} {pos : String} {af : Array Edge} {κ ν : Type} [DecidableEq κ] {ek : κ → Value} {el : ν → Value} {f : κ → Option ν} {F : Frag} {b : Nat}
theorem run_lookup {T kT eT : TypeId} {z : Value} {w : World} {S : Frag} (c : Bool) (ht : P.underlying T = some (.map kT eT)) (hk : KeyOK P kT ek) (hz : ∀ w, (zeroValue eT).run P w = .ok z w) (hF : Mp F b ek el f) (H : Heap E h (F ++ S) w) (x : κ) :
    (Instr.lookup T (.map (some b)) (ek x) c).run P w = .ok (if c then .tuple #[((f x).map el).getD z, .bool (f x).isSome] else ((f x).map el).getD z) w := by
  obtain ⟨es, clock, m, rfl, he, hn, hf⟩ := hF
  have hb := H.own (b, .map es clock) (by simp)
  have hkeys : es.toList.map (·.key) = (m.map (·.1)).map ek := by
    have := congrArg (List.map Prod.fst) he; simpa [List.map_map, Function.comp_def] using this
  have hvals : es.toList.map (·.val) = (m.map (·.2)).map el := by
    have := congrArg (List.map Prod.snd) he; simpa [List.map_map, Function.comp_def] using this
  obtain ⟨r, hr, hs⟩ := hk.find x es.toList (m.map (·.1)) w hkeys
  simp only [Instr.lookup, Sem.run_bind, run_underlying ht, Result.andThen_ok, getMap hb, Sem.run_pure, hk.check, hr]
  cases r with
  | none =>
    have : f x = none := by
      cases hfx : f x with
      | none => rfl
      | some v => exact absurd (List.mem_map.2 ⟨_, (hf x v).1 hfx, rfl⟩) hs
    simp only [this, Sem.run_bind, hz, Result.andThen_ok, Sem.run_pure]
    cases c <;> simp
  | some p =>
    obtain ⟨i, v⟩ := p
    obtain ⟨h1, h2⟩ := hs
    simp only [List.getElem?_map, Option.map_eq_some_iff] at h1 h2
    obtain ⟨⟨y, u⟩, h1, rfl⟩ := h1
    obtain ⟨e, h2, rfl⟩ := h2
    have hfx : f y = some u := (hf y u).2 (List.mem_of_getElem? h1)
    have hv : e.val = el u := by
      have := congrArg (fun l => l[i]?) hvals
      simpa [h1, h2] using this
    simp only [hfx, hv]
    cases c <;> simp
theorem Wl.lookup {T kT eT : TypeId} {x y : Operand} {z : Value} (A B : List Frag) (key : κ) (ht : P.underlying T = some (.map kT eT)) (hk : KeyOK P kT ek) (hz : ∀ w, (zeroValue eT).run P w = .ok z w) (hx : ev K x = some (.map (some b))) (hy : ev K y = some (ek key))
    (hS : S = A ++ F :: B) (hF : Mp F b ek el f) (hd : Nat.blt d n = true) (H : Wl P ops Q rest n ((d, ((f key).map el).getD z) :: K) E h S) : Wl P ops Q (⟨some d, .lookup T x y false, ty, pos, af, none⟩ :: rest) n K E h S :=
  Wl.pure hd (fun a w Ha => by
    have := run_lookup (w := w) false ht hk hz hF (Ha.heap.perm (UpdF.split hS)) key
    simp only [execOp, Ha.ev hx, Ha.ev hy, this, Sem.run_bind, Result.andThen_ok]; rfl) H
theorem Wl.lookupOk {T kT eT : TypeId} {x y : Operand} {z : Value} (A B : List Frag) (key : κ) (ht : P.underlying T = some (.map kT eT)) (hk : KeyOK P kT ek) (hz : ∀ w, (zeroValue eT).run P w = .ok z w) (hx : ev K x = some (.map (some b))) (hy : ev K y = some (ek key))
    (hS : S = A ++ F :: B) (hF : Mp F b ek el f) (hd : Nat.blt d n = true) (H : Wl P ops Q rest n ((d, .tuple #[((f key).map el).getD z, .bool (f key).isSome]) :: K) E h S) : Wl P ops Q (⟨some d, .lookup T x y true, ty, pos, af, none⟩ :: rest) n K E h S :=
  Wl.pure hd (fun a w Ha => by
    have := run_lookup (w := w) true ht hk hz hF (Ha.heap.perm (UpdF.split hS)) key
    simp only [execOp, Ha.ev hx, Ha.ev hy, this, Sem.run_bind, Result.andThen_ok]; rfl) H

theorem run_mapUpdate {T kT eT : TypeId} {w : World} {S : Frag} (ht : P.underlying T = some (.map kT eT)) (hk : KeyOK P kT ek) (hF : Mp F b ek el f) (H : Heap E h (F ++ S) w) (x : κ) (v : ν) :
    ∃ F' w', (Instr.mapUpdate T (.map (some b)) (ek x) (el v)).run P w = .ok () w' ∧ Mp F' b ek el (fput f x (some v)) ∧ Heap E h (F' ++ S) w' := by
  obtain ⟨es, clock, m, rfl, he, hn, hf⟩ := hF
  have H' : Heap E h ((b, .map es clock) :: S) w := H
  have hb := H'.own (b, .map es clock) (by simp)
  have hlt : b < w.heap.size := (Array.getElem?_eq_some_iff.1 hb).1
  have hkeys : es.toList.map (·.key) = (m.map (·.1)).map ek := by
    have := congrArg (List.map Prod.fst) he; simpa [List.map_map, Function.comp_def] using this
  obtain ⟨r, hr, hs⟩ := hk.find x es.toList (m.map (·.1)) w hkeys
  simp only [Instr.mapUpdate, Sem.run_bind, run_underlying ht, Result.andThen_ok, getMap hb, hk.check, hr]
  cases r with
  | none =>
    simp only [setMap _ hb]
    refine ⟨[(b, .map (es.push ⟨ek x, el v, clock⟩) (clock + 1))], { w with heap := w.heap.setIfInBounds b (.map (es.push ⟨ek x, el v, clock⟩) (clock + 1)) }, rfl, ⟨_, _, m ++ [(x, v)], rfl, ?_, ?_, ?_⟩, H'.set _ rfl rfl rfl rfl⟩
    · simp [he]
    · rw [List.map_append, List.nodup_append]
      refine ⟨hn, by simp, ?_⟩
      rintro a ha c hc rfl
      simp at hc; subst hc; exact hs ha
    · intro y u
      simp only [fput, List.mem_append, List.mem_singleton, Prod.mk.injEq]
      by_cases hy : y = x
      · subst hy; rw [if_pos rfl]
        constructor
        · intro e; cases e; exact .inr ⟨rfl, rfl⟩
        · rintro (e | ⟨_, rfl⟩)
          · exact absurd (List.mem_map.2 ⟨_, e, rfl⟩) hs
          · rfl
      · rw [if_neg hy, hf]; simp [hy]
  | some p =>
    obtain ⟨i, u⟩ := p
    obtain ⟨h1, h2⟩ := hs
    simp only [List.getElem?_map, Option.map_eq_some_iff] at h1 h2
    obtain ⟨⟨y, u'⟩, h1, rfl⟩ := h1
    obtain ⟨e, h2, rfl⟩ := h2
    have hey : e.key = ek y := by
      have := congrArg (fun l => l[i]?) hkeys
      simpa [h1, h2] using this
    have h2' : es[i]? = some e := by simpa using h2
    have hst : (Instr.keyThatStays (((es[i]?).map (·.key)).getD (ek y)) (ek y)).run P w = .ok (ek y) w := by
      simp [h2', hey, hk.same]
    simp only [Sem.run_bind, hst, Result.andThen_ok, setMap _ hb]
    refine ⟨[(b, .map (es.modify i fun e => { e with key := ek y, val := el v }) clock)], { w with heap := w.heap.setIfInBounds b (.map (es.modify i fun e => { e with key := ek y, val := el v }) clock) }, rfl, ⟨_, _, m.set i (y, v), rfl, ?_, ?_, ?_⟩, H'.set _ rfl rfl rfl rfl⟩
    · apply List.ext_getElem?
      intro j
      have hj := congrArg (fun l => l[j]?) he
      simp only [List.getElem?_map, Array.getElem?_toList] at hj
      simp only [List.getElem?_map, Array.getElem?_toList, Array.getElem?_modify, List.getElem?_set]
      by_cases hij : i = j
      · subst hij
        have hl : i < m.length := (List.getElem?_eq_some_iff.1 h1).1
        simp [h2', hl]
      · simp only [hij, if_false]; exact hj
    · have : (m.set i (y, v)).map (·.1) = m.map (·.1) := by
        apply List.ext_getElem?
        intro j
        simp only [List.getElem?_map, List.getElem?_set]
        by_cases hij : i = j
        · subst hij; rw [h1]; have hl : i < m.length := (List.getElem?_eq_some_iff.1 h1).1; simp [hl]
        · simp [hij]
      rw [this]; exact hn
    · intro z t
      rw [List.mem_iff_getElem?]
      simp only [fput, List.getElem?_set]
      have hl : i < m.length := (List.getElem?_eq_some_iff.1 h1).1
      by_cases hz : z = y
      · subst hz; rw [if_pos rfl]
        constructor
        · intro e; cases e; exact ⟨i, by simp [hl]⟩
        · rintro ⟨j, hj⟩
          by_cases hij : i = j
          · subst hij; simp [hl] at hj; rw [hj]
          · simp only [hij, if_false] at hj
            exact absurd (nodup_at hn h1 hj) hij
      · rw [if_neg hz, hf, List.mem_iff_getElem?]
        constructor
        · rintro ⟨j, hj⟩
          refine ⟨j, ?_⟩
          by_cases hij : i = j
          · subst hij; rw [h1] at hj; simp at hj; exact absurd hj.1.symm hz
          · simp [hij, hj]
        · rintro ⟨j, hj⟩
          by_cases hij : i = j
          · subst hij; simp [hl] at hj; exact absurd hj.1.symm hz
          · simp only [hij, if_false] at hj; exact ⟨j, hj⟩
theorem Wl.mapUpdate {T kT eT : TypeId} {x y u : Operand} {dst : Option Tmp} (A B : List Frag) (key : κ) (v : ν) (hdst : dst = none) (ht : P.underlying T = some (.map kT eT)) (hk : KeyOK P kT ek) (hx : ev K x = some (.map (some b))) (hy : ev K y = some (ek key)) (hu : ev K u = some (el v))
    (hS : S = A ++ F :: B) (hF : Mp F b ek el f) (H : ∀ F', Mp F' b ek el (fput f key (some v)) → Wl P ops Q rest n K E h (A ++ F' :: B)) : Wl P ops Q (⟨dst, .mapUpdate T x y u, ty, pos, af, none⟩ :: rest) n K E h S := fun a w Ha => by
  subst hdst
  obtain ⟨F', w', e1, e2, e3⟩ := run_mapUpdate (w := w) ht hk hF (Ha.heap.perm (UpdF.split hS)) key v
  refine wl_skip (w' := w') ?_ (H F' e2 _ _ (Ha.skip (e3.perm (UpdF.split (S := A ++ F' :: B) rfl).symm)))
  simp [execOp, Ha.ev hx, Ha.ev hy, Ha.ev hu, e1]
theorem Wl.insert {T kT eT : TypeId} {x y u : Operand} {dst : Option Tmp} (A B : List Frag) (key : κ) (v : ν) (hdst : dst = none) (ht : P.underlying T = some (.map kT eT)) (hk : KeyOK P kT ek) (hx : ev K x = some (.map (some b))) (hy : ev K y = some (ek key)) (hu : ev K u = some (el v))
    (hS : S = A ++ F :: B) (hF : Mp F b ek el f) (H : ∀ F', Mp F' b ek el (fput f key (some v)) → Wl P ops Q rest n K E h (A ++ F' :: B)) : Wl P ops Q (⟨dst, .insert T x y u, ty, pos, af, none⟩ :: rest) n K E h S := fun a w Ha => by
  subst hdst
  obtain ⟨F', w', e1, e2, e3⟩ := run_mapUpdate (w := w) ht hk hF (Ha.heap.perm (UpdF.split hS)) key v
  refine wl_skip (w' := w') ?_ (H F' e2 _ _ (Ha.skip (e3.perm (UpdF.split (S := A ++ F' :: B) rfl).symm)))
  simp [execOp, Ha.ev hx, Ha.ev hy, Ha.ev hu, e1]
theorem map_eraseIdx {α β : Type} (g : α → β) : ∀ (l : List α) (i : Nat), (l.eraseIdx i).map g = (l.map g).eraseIdx i
  | [], i => by simp
  | a :: l, 0 => by simp
  | a :: l, i + 1 => by simp [map_eraseIdx g l i]
theorem run_delete {T kT eT : TypeId} {w : World} {S : Frag} (ht : P.underlying T = some (.map kT eT)) (hk : KeyOK P kT ek) (hF : Mp F b ek el f) (H : Heap E h (F ++ S) w) (x : κ) (tk ty : TypeId) :
    ∃ F' w', (Builtin.delete_ #[T, tk] ty #[.map (some b), ek x]).run P w = .ok (.tuple #[]) w' ∧ Mp F' b ek el (fput f x none) ∧ Heap E h (F' ++ S) w' := by
  obtain ⟨es, clock, m, rfl, he, hn, hf⟩ := hF
  have H' : Heap E h ((b, .map es clock) :: S) w := H
  have hb := H'.own (b, .map es clock) (by simp)
  have hlt : b < w.heap.size := (Array.getElem?_eq_some_iff.1 hb).1
  have hkeys : es.toList.map (·.key) = (m.map (·.1)).map ek := by
    have := congrArg (List.map Prod.fst) he; simpa [List.map_map, Function.comp_def] using this
  obtain ⟨r, hr, hs⟩ := hk.find x es.toList (m.map (·.1)) w hkeys
  have e0 : (#[T, tk] : Array TypeId)[0]? = some T := rfl
  have e1 : (#[.map (some b), ek x] : Array Value)[0]? = some (.map (some b)) := rfl
  have e2 : (#[.map (some b), ek x] : Array Value)[1]? = some (ek x) := rfl
  simp only [Builtin.delete_, e0, e1, e2, Sem.run_bind, run_underlying ht, Result.andThen_ok, getMap hb, hk.check, hr]
  cases r with
  | none =>
    simp only [Sem.run_bind, setMap _ hb, Result.andThen_ok, Sem.run_pure]
    refine ⟨[(b, .map es clock)], { w with heap := w.heap.setIfInBounds b (.map es clock) }, rfl, ⟨es, clock, m, rfl, he, hn, ?_⟩, H'.set _ rfl rfl rfl rfl⟩
    intro y u
    simp only [fput]
    by_cases hy : y = x
    · subst hy; rw [if_pos rfl]
      exact ⟨fun e => (by cases e), fun e => absurd (List.mem_map.2 ⟨_, e, rfl⟩) hs⟩
    · rw [if_neg hy, hf]
  | some p =>
    obtain ⟨i, u⟩ := p
    obtain ⟨h1, h2⟩ := hs
    simp only [List.getElem?_map, Option.map_eq_some_iff] at h1
    obtain ⟨⟨y, u'⟩, h1, rfl⟩ := h1
    simp only [Sem.run_bind, setMap _ hb, Result.andThen_ok, Sem.run_pure]
    refine ⟨[(b, .map (es.eraseIdxIfInBounds i) clock)], { w with heap := w.heap.setIfInBounds b (.map (es.eraseIdxIfInBounds i) clock) }, rfl, ⟨_, _, m.eraseIdx i, rfl, ?_, ?_, ?_⟩, H'.set _ rfl rfl rfl rfl⟩
    · have : (es.eraseIdxIfInBounds i).toList = es.toList.eraseIdx i := by simp [Array.toList_eraseIdxIfInBounds]
      rw [this, map_eraseIdx, he, map_eraseIdx]
    · rw [map_eraseIdx]; exact hn.sublist (List.eraseIdx_sublist _ _)
    · intro z t
      rw [List.mem_eraseIdx_iff_getElem?]
      simp only [fput]
      by_cases hz : z = y
      · subst hz; rw [if_pos rfl]
        refine ⟨fun e => (by cases e), ?_⟩
        rintro ⟨j, hij, hj⟩
        exact absurd (nodup_at hn hj h1) hij
      · rw [if_neg hz, hf, List.mem_iff_getElem?]
        constructor
        · rintro ⟨j, hj⟩
          refine ⟨j, ?_, hj⟩
          rintro rfl; rw [h1] at hj; simp at hj; exact hz hj.1.symm
        · rintro ⟨j, _, hj⟩; exact ⟨j, hj⟩
theorem wl_value0 {op : Op} {v : Value} {a : Act} {w w' : World} (hrun : (execOp a.eval ⟨none, op, ty, pos, af, none⟩).run P w = .ok (.value v) w')
    (H : wpList P ops Q rest (a.put none v) w') : wpList P ops Q (⟨none, op, ty, pos, af, none⟩ :: rest) a w := by
  unfold wpList
  simp only [Region.wanted, if_true]
  refine .inl ?_
  unfold Oper.wp
  rw [hrun]
  exact H
theorem Wl.delete {T kT eT tk : TypeId} {x y : Operand} {dst : Option Tmp} (A B : List Frag) (key : κ) (hdst : dst = none) (ht : P.underlying T = some (.map kT eT)) (hk : KeyOK P kT ek) (hx : ev K x = some (.map (some b))) (hy : ev K y = some (ek key))
    (hS : S = A ++ F :: B) (hF : Mp F b ek el f) (H : ∀ F', Mp F' b ek el (fput f key none) → Wl P ops Q rest n K E h (A ++ F' :: B)) : Wl P ops Q (⟨dst, .call ⟨.builtin .delete, #[x, y], #[T, tk]⟩, ty, pos, af, none⟩ :: rest) n K E h S := fun a w Ha => by
  subst hdst
  obtain ⟨F', w', e1, e2, e3⟩ := run_delete (w := w) ht hk hF (Ha.heap.perm (UpdF.split hS)) key tk ty
  refine wl_value0 (w' := w') (v := .tuple #[]) ?_ (H F' e2 _ _ (Ha.skip (e3.perm (UpdF.split (S := A ++ F' :: B) rfl).symm)))
  simp [execOp, resolve, invoke, builtin, Ha.ev hx, Ha.ev hy, e1]
end
end Go.Sx

namespace Go.Sx
open Go
section
variable {P : Program} {ops : Array Oper} {Q : Exit → Act → World → Prop} {n : Nat} {K : List (Nat × Value)} {E : World} {h : Ghost} {S : List Frag} {rest : List Oper}
  {d : Nat} {ty : TypeId} {pos : String} {af : Array Edge}
/-- what is known of the memory that stays may be forgotten -/
theorem As.weak {h' : Ghost} {a : Act} {w : World} (hl : h.le h') (A : As n K E h' S a w) : As n K E h S a w :=
  ⟨A.size, A.defers, A.slots, A.heap.os, A.heap.tape, A.heap.output, A.heap.drawn, fun b o e => A.heap.imm b o (hl b o e), A.heap.own, fun p hp => by
    have := A.heap.fresh p hp
    cases e : h p.1 with
    | none => rfl
    | some o => (rw [hl _ _ e] at this; cases this), A.heap.nodup⟩
theorem Wl.weak {h' : Ghost} {l : List Oper} (hl : h.le h') (H : Wl P ops Q l n K E h S) : Wl P ops Q l n K E h' S := fun a w A => H a w (A.weak hl)
theorem Wx.weak {h' : Ghost} {e : Exit} (hl : h.le h') (H : Wx Q e n K E h S) : Wx Q e n K E h' S := fun a w A => H a w (A.weak hl)
theorem Wc.weak {h' : Ghost} {c : Code} (hl : h.le h') (H : Wc P Q c n K E h S) : Wc P Q c n K E h' S := fun a w A => H a w (A.weak hl)
theorem perm_but {α : Type} (A : List α) (x : α) (B G : List α) : (A ++ x :: (B ++ G)).Perm ((A ++ B) ++ x :: G) := by
  rw [List.append_assoc]
  exact (List.perm_middle.symm).append_left A
/-- all but one become memory that stays -/
theorem Wl.freezeBut {l : List Oper} (A : List Frag) (F : Frag) (B G : List Frag) (hS : S = A ++ F :: (B ++ G)) (H : ∀ h', h.le h' → (∀ p, p ∈ (A ++ B).flatten → h' p.1 = some p.2) → Wl P ops Q l n K E h' (F :: G)) : Wl P ops Q l n K E h S := fun a w Ha => by
  have hp := Ha.perm (hS ▸ perm_but A F B G)
  have A2 : Heap E h ((A ++ B).flatten ++ (F :: G).flatten) w := by have := hp.heap; rwa [List.flatten_append] at this
  obtain ⟨H1, H2⟩ := A2.freeze
  exact H _ (Ghost.le_ext _ _) H2 a w ⟨Ha.size, Ha.defers, Ha.slots, H1⟩
theorem perm_mid {α : Type} (A F B : List α) : (A ++ (F ++ B)).Perm (F ++ (A ++ B)) := by
  rw [← List.append_assoc, ← List.append_assoc]; exact List.perm_append_comm.append_right _
/-- a call that is handed the own blocks F; the others stay in their places -/
theorem Wl.callA {dst : Option Tmp} {x : Operand} {xs : List Operand} {tys : Array TypeId} {f : FuncId} {vs caps : List Value} {F : List Frag} {Post : Value → Ghost → List Frag → Prop} (A B : List Frag) (hdst : dst = some d)
    (hx : ev K x = some (.func (.func f) #[] caps.toArray)) (hxs : evs K xs = some vs) (hd : Nat.blt d n = true) (hs : Spec P f (vs ++ caps) h F Post) (hS : S = A ++ (F ++ B))
    (H : ∀ v h' F', h.le h' → Post v h' F' → Wl P ops Q rest n ((d, v) :: K) E h' (A ++ (F' ++ B))) : Wl P ops Q (⟨dst, .call ⟨.value x, xs.toArray, tys⟩, ty, pos, af, none⟩ :: rest) n K E h S :=
  Wl.call (F := F) (G := A ++ B) hdst hx hxs hd hs (hS ▸ perm_mid A F B) fun v h' F' hl hp => Wl.perm (perm_mid A F' B).symm (H v h' F' hl hp)
/-- .. whose value hangs on its arguments alone, and that keeps those blocks -/
theorem Wl.callK {x : Operand} {xs : List Operand} {tys : Array TypeId} {f : FuncId} {vs caps : List Value} {F : List Frag} {v : Value} (A B : List Frag)
    (hx : ev K x = some (.func (.func f) #[] caps.toArray)) (hxs : evs K xs = some vs) (hd : Nat.blt d n = true) (hs : SpecK P f (vs ++ caps) h F v) (hS : S = A ++ (F ++ B))
    (H : Wl P ops Q rest n ((d, v) :: K) E h S) : Wl P ops Q (⟨some d, .call ⟨.value x, xs.toArray, tys⟩, ty, pos, af, none⟩ :: rest) n K E h S := fun a w Ha => by
  have hp : S.Perm (F ++ (A ++ B)) := hS ▸ perm_mid A F B
  refine wl_call (f := f) (args := (vs ++ caps).toArray) ?_ (hs.2 E (A ++ B) w (Ha.perm hp).heap) ?_
  · have e := Ha.evs hxs
    simp [execOp, resolve, Deferred.ofValue, Ha.ev hx, invoke, run_callFunc hs.1, e]
  · rintro e w' ⟨v, h', F', rfl, hl, hH, rfl, rfl⟩
    refine ⟨_, rfl, H _ _ (Ha.put hd ?_)⟩
    have hH' : Heap E h' S.flatten w' := hH.perm hp.symm.flatten
    refine ⟨hH'.os, hH'.tape, hH'.output, hH'.drawn, fun b o e => hH'.imm b o (hl b o e), hH'.own, fun p hp => ?_, hH'.nodup⟩
    have := hH'.fresh p hp
    cases e : h p.1 with
    | none => rfl
    | some o => rw [hl _ _ e] at this; cases this
end
end Go.Sx

namespace Go.Sx
open Go
section
variable {P : Program} {ops : Array Oper} {Q : Exit → Act → World → Prop} {n : Nat} {K : List (Nat × Value)} {E : World} {h : Ghost} {S : List Frag} {rest : List Oper}
  {d : Nat} {ty : TypeId} {pos : String} {af : Array Edge}
/-- x == nil of a slice -/
theorem Wl.slNil {T e : TypeId} {t' : TypeId} {x y : Operand} {b : Option Addr} {len cap : Nat} (hT : P.underlying T = some (.slice e)) (hx : ev K x = some (.slice b len cap)) (hy : ev K y = some (.slice none 0 0)) (hd : Nat.blt d n = true)
    (H : Wl P ops Q rest n ((d, .bool b.isNone) :: K) E h S) : Wl P ops Q (⟨some d, .binOp .eql T x y t', ty, pos, af, none⟩ :: rest) n K E h S :=
  Wl.pure hd (fun a w A => by
    have h1 : (Op.equal T (.slice b len cap) (.slice none 0 0)).run P w = .ok b.isNone w := by
      have h0 : ∀ m, (Op.equalIn (m + 1) T (.slice b len cap) (.slice none 0 0)).run P w = .ok b.isNone w := fun m => by
        cases b <;> simp [Op.equalIn, run_underlying hT]
      exact h0 9999
    simp only [execOp, A.ev hx, A.ev hy, Sem.run_bind]
    simp [eqGuard, binOp, h1]) H
theorem Wl.buildSlice0 {T e : TypeId} {k bytes : Nat} {z : Value} (ht : SlOK P T e k bytes z) (hd : Nat.blt d n = true)
    (H : ∀ b, Wl P ops Q rest n ((d, .slice (some ⟨b, 0, none⟩) 0 0) :: K) E h ([(b, cells [] e)] :: S)) :
    Wl P ops Q (⟨some d, .buildSlice T 0 #[], ty, pos, af, none⟩ :: rest) n K E h S := fun a w A => by
  have hr : (Instr.buildSlice T 0 #[]).run P w = .ok (.slice (some ⟨w.heap.size, 0, none⟩) 0 0) (w.alloc (cells [] e)) := by
    simp only [Instr.buildSlice, Sem.run_bind, underlying, run_program, Result.andThen_ok, ht.und, Sem.run_pure, ht.sizeOf, Nat.zero_mul, if_true, if_neg (show ¬ (0 > 2 ^ 24) by omega)]
    have e0 : Array.range 0 = #[] := by simp
    rw [e0]
    simp only [Array.map_empty, Instr.fill]
    rfl
  refine wl_value ?_ (H w.heap.size _ _ (A.put hd (A.heap.alloc _)))
  simp only [execOp, Sem.run_bind, Array.map_empty, hr]; rfl
/-- x[lo:hi:max] -/
theorem Wl.slice3 {T e : TypeId} {k bytes : Nat} {z : Value} {x y u m : Operand} {b : Option Addr} {len cap lo hi mx : Nat} {k1 k2 k3 : IntKind} {c1 c2 c3 : Int} (ht : SlOK P T e k bytes z) (hx : ev K x = some (.slice b len cap)) (hy : ev K y = some (.int k1 c1)) (hc1 : c1 = (lo : Int))
    (hu : ev K u = some (.int k2 c2)) (hc2 : c2 = (hi : Int)) (hm : ev K m = some (.int k3 c3)) (hc3 : c3 = (mx : Int)) (h1 : lo ≤ hi) (h2 : hi ≤ mx) (h3 : mx ≤ cap) (hd : Nat.blt d n = true)
    (H : Wl P ops Q rest n ((d, .slice (if mx = lo then b else b.map (·.add (lo * k))) (hi - lo) (mx - lo)) :: K) E h S) :
    Wl P ops Q (⟨some d, .slice T x (some y) (some u) (some m), ty, pos, af, none⟩ :: rest) n K E h S :=
  Wl.pure hd (fun a w A => by
    subst hc1; subst hc2; subst hc3
    have e1 : (0 : Int) ≤ (hi : Int) ∧ (hi : Int) ≤ (mx : Int) := by omega
    have e2 : (0 : Int) ≤ (lo : Int) ∧ (lo : Int) ≤ (hi : Int) := by omega
    have e3 : (0 : Int) ≤ (mx : Int) ∧ (mx : Int) ≤ (cap : Int) := by omega
    simp only [execOp, Instr.sliceAt, Instr.slice, Instr.sliceBounds, Instr.sliceBound, A.ev hx, A.ev hy, A.ev hu, A.ev hm, Option.map_some, asIntOf, underlying, Sem.run_bind, Sem.run_pure, Result.andThen_ok, run_program, ht.und, if_pos e1, if_pos e2, if_pos e3, ht.sizeOf, Int.toNat_natCast]) H
theorem run_clear {T e : TypeId} {k bytes : Nat} {z : Value} (ht : SlOK P T e k bytes z) (hz : ∀ w, (zeroValue e).run P w = .ok z w) (ty : TypeId) {b o p c : Nat} {l : List Value} {T' : TypeId} {w : World} {S : Frag} (H : Heap E h ((b, cells l T') :: S) w) (hone : ∀ u ∈ (Builtin.zeroCells z.cells p).toList, one u) (hl : o + p * k ≤ l.length) :
    ∃ w' l', (Builtin.clear_ #[T] ty #[.slice (some ⟨b, o, none⟩) p c]).run P w = .ok (.tuple #[]) w' ∧ Heap E h ((b, cells l' T') :: S) w' ∧ l'.length = l.length ∧ l'.take o = l.take o := by
  by_cases hp : p = 0
  · subst hp
    refine ⟨w, l, ?_, H, rfl, rfl⟩
    have e0 : (#[T] : Array TypeId)[0]? = some T := rfl
    simp [Builtin.clear_, run_underlying ht.und]
  · have hlen : (Builtin.zeroCells z.cells p).toList.length = p * k := by rw [Array.length_toList, size_zeroCells, ht.zs]
    obtain ⟨w', e1, e2⟩ := run_storeCells (P := P) (Builtin.zeroCells z.cells p).toList l o 0 w hone (by rw [hlen]; omega) H
    refine ⟨w', _, ?_, e2, splice_length _ _ _, ?_⟩
    · simp [Builtin.clear_, run_underlying ht.und, hz, e1, hp]
    · rw [splice_eq _ _ _ (by rw [hlen]; omega), Nat.add_zero, List.append_assoc, List.take_append_of_le_length (by rw [List.length_take]; omega), List.take_take, Nat.min_self]
/-- clear of a part of an own row: what is ahead of it stays -/
theorem Wl.clear {T e : TypeId} {k bytes : Nat} {z : Value} {x : Operand} {b o p c : Nat} {l : List Value} {T' : TypeId} {dst : Option Tmp} (A B : List Frag) (hdst : dst = none) (ht : SlOK P T e k bytes z) (hz : ∀ w, (zeroValue e).run P w = .ok z w)
    (hx : ev K x = some (.slice (some ⟨b, o, none⟩) p c)) (hS : S = A ++ [(b, cells l T')] :: B) (hone : ∀ u ∈ (Builtin.zeroCells z.cells p).toList, one u) (hl : o + p * k ≤ l.length)
    (H : ∀ l', l'.length = l.length → l'.take o = l.take o → Wl P ops Q rest n K E h (A ++ [(b, cells l' T')] :: B)) :
    Wl P ops Q (⟨dst, .call ⟨.builtin .clear, #[x], #[T]⟩, ty, pos, af, none⟩ :: rest) n K E h S := fun a w Ha => by
  subst hdst
  obtain ⟨w', l', e1, e2, e3, e4⟩ := run_clear (P := P) (c := c) ht hz ty (Ha.heap.perm (UpdF.split hS)) hone hl
  refine wl_value0 (w' := w') (v := .tuple #[]) ?_ (H l' e3 e4 _ _ (Ha.skip (Heap.perm e2 (UpdF.split (S := A ++ [(b, cells l' T')] :: B) rfl).symm)))
  simp [execOp, resolve, invoke, builtin, Ha.ev hx, e1]

theorem run_appendIn {T e : TypeId} {k bytes : Nat} {z : Value} (ht : SlOK P T e k bytes z) (ty : TypeId) {b m cap : Nat} {xs sp : List Value} {w : World} {S : Frag} (hx : xs.length = m * k) (hm : m ≤ cap) (hl : (xs ++ sp).length = cap * k) (H : Heap E h ((b, cells (xs ++ sp) e) :: S) w)
    {src : Option Addr} {c p : Nat} {news : List Value} (hn : news.length = p * k) (hsrc : ∀ j u, news[j]? = some u → ∃ b o, src = some ⟨b, o, none⟩ ∧ w.cell? ⟨b, o + j, none⟩ = some u) (h1 : ∀ u ∈ news, one u) (hroom : m + p ≤ cap) :
    ∃ w', (Builtin.append_ #[T, T] ty #[.slice (some ⟨b, 0, none⟩) m cap, .slice src p c]).run P w = .ok (.slice (some ⟨b, 0, none⟩) (m + p) cap) w' ∧ Heap E h ((b, cells (xs ++ news ++ sp.drop news.length) e) :: S) w' := by
  obtain ⟨i, hi, hsz, hby, hz⟩ := ht.info
  subst hsz; subst hby
  by_cases hp : p = 0
  · subst hp
    have hnn : news = [] := List.eq_nil_of_length_eq_zero (by simpa using hn)
    subst hnn
    refine ⟨w, ?_, by simpa using H⟩
    cases src <;> simp [Builtin.append_, run_underlying ht.und, Go.sizeOf, typeInfo, hi, Builtin.lenOf, Builtin.firstCells, loadCells, loadCellsFrom, hm, storeCells]
  · have hpos : 0 < news.length := by rw [hn]; exact Nat.mul_pos (by omega) ht.pos
    obtain ⟨bs, os, rfl, _⟩ := hsrc 0 news[0] (List.getElem?_eq_getElem hpos)
    have hnews : ∀ j u, news[j]? = some u → w.cell? ((⟨bs, os, none⟩ : Addr).add j) = some u := fun j u hj => by
      obtain ⟨b, o, e1, e2⟩ := hsrc j u hj
      cases e1
      rw [Addr.add_eq]; exact e2
    have hg := H.mem (b := b) (o := cells (xs ++ sp) e) (by simp)
    have hfit : m * i.size + news.length ≤ (xs ++ sp).toArray.size := by rw [List.size_toArray, hl, hn, ← Nat.add_mul]; exact Nat.mul_le_mul_right _ hroom
    have hr' := run_append_room (P := P) w T ty e i ht.und hi b m cap (xs ++ sp).toArray hg ⟨bs, os, none⟩ p c news hn hnews h1 hroom hfit
    have e1 : (List.take (m * i.size) (xs ++ sp).toArray.toList ++ news ++ List.drop (m * i.size + news.length) (xs ++ sp).toArray.toList) = (xs ++ news) ++ sp.drop news.length := by
      rw [← hx]; simp
    rw [e1] at hr'
    refine ⟨_, hr', ?_⟩
    refine Heap.set (w := w) (o := cells (xs ++ sp) e) H _ ?_ rfl rfl rfl
    have hlt := (Array.getElem?_eq_some_iff.1 hg).1
    apply Array.ext_getElem?
    intro j
    by_cases hj : j = b
    · subst hj
      rw [setRow_heap w j _ _ e (0, 0) hg]
      simp [hlt, cells]
    · rw [setRow_other w b j _ hj, Array.getElem?_setIfInBounds_ne (Ne.symm hj)]
/-- append onto an own row that has room -/
theorem Wl.appendIn {T e : TypeId} {k bytes : Nat} {z : Value} {x y : Operand} {b m cap : Nat} {xs sp : List Value} (A B : List Frag) {src : Option Addr} {c p : Nat} (news : List Value)
    (ht : SlOK P T e k bytes z) (hx : ev K x = some (.slice (some ⟨b, 0, none⟩) m cap)) (hy : ev K y = some (.slice src p c)) (hS : S = A ++ [(b, cells (xs ++ sp) e)] :: B) (hxs : xs.length = m * k) (hl : (xs ++ sp).length = cap * k) (hd : Nat.blt d n = true)
    (hn : news.length = p * k) (hsrc : ∀ a w, As n K E h S a w → ∀ j u, news[j]? = some u → ∃ b o, src = some ⟨b, o, none⟩ ∧ w.cell? ⟨b, o + j, none⟩ = some u) (h1 : ∀ u ∈ news, one u) (hroom : m + p ≤ cap)
    (H : Wl P ops Q rest n ((d, .slice (some ⟨b, 0, none⟩) (m + p) cap) :: K) E h (A ++ [(b, cells (xs ++ news ++ sp.drop news.length) e)] :: B)) :
    Wl P ops Q (⟨some d, .call ⟨.builtin .append, #[x, y], #[T, T]⟩, ty, pos, af, none⟩ :: rest) n K E h S := fun a w Ha => by
  obtain ⟨w', e1, e3⟩ := run_appendIn (P := P) (c := c) ht ty hxs (by omega) hl (Ha.heap.perm (UpdF.split hS)) hn (hsrc a w Ha) h1 hroom
  refine wl_value (w' := w') ?_ (H _ _ (Ha.put hd (Heap.perm e3 (UpdF.split (S := A ++ [(b, cells (xs ++ news ++ sp.drop news.length) e)] :: B) rfl).symm)))
  simp [execOp, resolve, invoke, builtin, Ha.ev hx, Ha.ev hy, e1]

/-- a load of a struct or an array from an own block -/
theorem Wl.loadOAt {T : TypeId} {x : Operand} {b i k : Nat} {z : Value} {l vs : List Value} {T' : TypeId} (ht : TyOK P T true k z) (hx : ev K x = some (.pointer (some ⟨b, i, none⟩))) (hb : Has S b (cells l T')) (hk : vs.length = k)
    (hv : ∀ j u, vs[j]? = some u → l[i + j]? = some u) (hd : Nat.blt d n = true) (H : Wl P ops Q rest n ((d, .agg vs.toArray) :: K) E h S) : Wl P ops Q (⟨some d, .load T x, ty, pos, af, none⟩ :: rest) n K E h S :=
  Wl.pure hd (fun a w A => by
    obtain ⟨R, p⟩ := hb.split
    have hc : ∀ j v, vs[j]? = some v → w.cell? ⟨b, i + j, none⟩ = some v := fun j v hj => by rw [(A.heap.perm p).ocell]; exact hv j v hj
    simp [execOp, Instr.loadAt, A.ev hx, Instr.sureAddr, run_loadVarA ht hk hc]) H
theorem Wl.iMax {t1 t2 : TypeId} {x y : Operand} {k : IntKind} {a b : Int} (hx : ev K x = some (.int k a)) (hy : ev K y = some (.int k b)) (hd : Nat.blt d n = true) (H : Wl P ops Q rest n ((d, .int k (max a b)) :: K) E h S) :
    Wl P ops Q (⟨some d, .call ⟨.builtin .max, #[x, y], #[t1, t2]⟩, ty, pos, af, none⟩ :: rest) n K E h S :=
  Wl.pure hd (fun a' w A => by
    have : (if b > a then b else a) = max a b := by split <;> omega
    simp [execOp, resolve, invoke, builtin, Builtin.max_, Builtin.max2, A.ev hx, A.ev hy, this]) H
theorem Wl.iMin {t1 t2 : TypeId} {x y : Operand} {k : IntKind} {a b : Int} (hx : ev K x = some (.int k a)) (hy : ev K y = some (.int k b)) (hd : Nat.blt d n = true) (H : Wl P ops Q rest n ((d, .int k (min a b)) :: K) E h S) :
    Wl P ops Q (⟨some d, .call ⟨.builtin .min, #[x, y], #[t1, t2]⟩, ty, pos, af, none⟩ :: rest) n K E h S :=
  Wl.pure hd (fun a' w A => by
    have : (if b < a then b else a) = min a b := by split <;> omega
    simp [execOp, resolve, invoke, builtin, Builtin.min_, Builtin.min2, A.ev hx, A.ev hy, this]) H
end

/-! ### maps that stay -/
def MpG {κ ν : Type} (h : Ghost) (b : Nat) (ek : κ → Value) (el : ν → Value) (f : κ → Option ν) : Prop := ∃ F, Mp F b ek el f ∧ ∀ p, p ∈ F → h p.1 = some p.2
theorem MpG.mono {κ ν : Type} {h h' : Ghost} {b : Nat} {ek : κ → Value} {el : ν → Value} {f : κ → Option ν} (H : MpG h b ek el f) (hl : h.le h') : MpG h' b ek el f := by
  obtain ⟨F, h1, h2⟩ := H; exact ⟨F, h1, fun p hp => hl _ _ (h2 p hp)⟩
section
variable {P : Program} {ops : Array Oper} {Q : Exit → Act → World → Prop} {n : Nat} {K : List (Nat × Value)} {E : World} {h : Ghost} {S : List Frag} {rest : List Oper}
  {d : Nat} {ty : TypeId} {pos : String} {af : Array Edge} {κ ν : Type} [DecidableEq κ] {ek : κ → Value} {el : ν → Value} {f : κ → Option ν} {b : Nat}
theorem run_lookupG {T kT eT : TypeId} {z : Value} {w : World} {S : Frag} (c : Bool) (ht : P.underlying T = some (.map kT eT)) (hk : KeyOK P kT ek) (hz : ∀ w, (zeroValue eT).run P w = .ok z w) (hF : MpG h b ek el f) (H : Heap E h S w) (x : κ) :
    (Instr.lookup T (.map (some b)) (ek x) c).run P w = .ok (if c then .tuple #[((f x).map el).getD z, .bool (f x).isSome] else ((f x).map el).getD z) w := by
  obtain ⟨F, hF, hg⟩ := hF
  have hF' := hF
  obtain ⟨es, clock, m, rfl, _⟩ := hF'
  have hb := H.imm _ _ (hg (b, .map es clock) (by simp))
  have : Heap w (fun c => if c = b then none else none) ([(b, .map es clock)] ++ []) w := ⟨rfl, rfl, rfl, Nat.le_refl _, fun b o e => by simp at e, fun p hp => by simp at hp; subst hp; exact hb, fun p hp => by simp, by simp⟩
  exact run_lookup c ht hk hz hF this x
theorem Wl.lookupG {T kT eT : TypeId} {x y : Operand} {z : Value} (key : κ) (ht : P.underlying T = some (.map kT eT)) (hk : KeyOK P kT ek) (hz : ∀ w, (zeroValue eT).run P w = .ok z w) (hx : ev K x = some (.map (some b))) (hy : ev K y = some (ek key))
    (hF : MpG h b ek el f) (hd : Nat.blt d n = true) (H : Wl P ops Q rest n ((d, ((f key).map el).getD z) :: K) E h S) : Wl P ops Q (⟨some d, .lookup T x y false, ty, pos, af, none⟩ :: rest) n K E h S :=
  Wl.pure hd (fun a w Ha => by
    have := run_lookupG (w := w) false ht hk hz hF Ha.heap key
    simp only [execOp, Ha.ev hx, Ha.ev hy, this, Sem.run_bind, Result.andThen_ok]; rfl) H
end

/-! ### raw slices -/
/-- the elements' cells -/
theorem Sl.raw {α : Type} {h : Ghost} {R : α → List Value → Prop} {k : Nat} {v : Value} {l : List α} (H : Sl h R k v l) :
    ∃ css : List (List Value), css.length = l.length ∧ (∀ (i : Nat) (x : α), l[i]? = some x → ∃ vs : List Value, css[i]? = some vs ∧ R x vs) ∧ (∀ vs ∈ css, vs.length = k) ∧ Sl h (fun vs us => us = vs) k v css := by
  obtain ⟨ao, cap, rfl, hc, r⟩ := H
  rcases r with rfl | ⟨b, o, rfl, r⟩
  · exact ⟨[], rfl, by simp, by simp, ao, cap, rfl, Nat.zero_le _, .inl rfl⟩
  · have : ∃ css : List (List Value), css.length = l.length ∧ ∀ (i : Nat) (x : α), l[i]? = some x → ∃ vs : List Value, css[i]? = some vs ∧ R x vs ∧ vs.length = k ∧ Seg h b (o + i * k) vs := by
      clear hc
      induction l generalizing o with
      | nil => exact ⟨[], rfl, by simp⟩
      | cons y l ih =>
        obtain ⟨vs, h1, h2, h3⟩ := r 0 y rfl
        obtain ⟨css, c1, c2⟩ := ih (o := o + k) (fun i x hx => by
          obtain ⟨vs, e1, e2, e3⟩ := r (i + 1) x (by simpa using hx)
          refine ⟨vs, e1, e2, ?_⟩
          rwa [show o + k + i * k = o + (i + 1) * k from by rw [Nat.add_mul]; omega])
        refine ⟨vs :: css, by simp [c1], fun i x hx => ?_⟩
        match i, hx with
        | 0, hx => simp at hx; subst hx; exact ⟨vs, rfl, h1, h2, h3⟩
        | i + 1, hx =>
          obtain ⟨us, e0, e1, e2, e3⟩ := c2 i x (by simpa using hx)
          refine ⟨us, by simpa using e0, e1, e2, ?_⟩
          rwa [show o + (i + 1) * k = o + k + i * k from by rw [Nat.add_mul]; omega]
    obtain ⟨css, c1, c2⟩ := this
    have hk : ∀ vs ∈ css, vs.length = k := fun vs hv => by
      obtain ⟨i, hi⟩ := List.mem_iff_getElem?.1 hv
      have hl : i < l.length := by rw [← c1]; exact (List.getElem?_eq_some_iff.1 hi).1
      obtain ⟨us, e0, _, e2, _⟩ := c2 i _ (List.getElem?_eq_getElem hl)
      rw [hi] at e0; cases e0; exact e2
    refine ⟨css, c1, fun i x hx => let ⟨vs, e0, e1, _⟩ := c2 i x hx; ⟨vs, e0, e1⟩, hk, some ⟨b, o, none⟩, cap, by rw [c1], by omega, .inr ⟨b, o, rfl, fun i vs hv => ?_⟩⟩
    have hl : i < l.length := by rw [← c1]; exact (List.getElem?_eq_some_iff.1 hv).1
    obtain ⟨us, e0, _, e2, e3⟩ := c2 i _ (List.getElem?_eq_getElem hl)
    rw [hv] at e0; cases e0
    exact ⟨_, rfl, e2, e3⟩
theorem Sl.unraw {α : Type} {h : Ghost} {R : α → List Value → Prop} {k : Nat} {v : Value} {l : List α} {css : List (List Value)} (hl : css.length = l.length) (hR : ∀ (i : Nat) (x : α), l[i]? = some x → ∃ vs : List Value, css[i]? = some vs ∧ R x vs) (H : Sl h (fun vs us => us = vs) k v css) : Sl h R k v l := by
  obtain ⟨ao, cap, rfl, hc, r⟩ := H
  refine ⟨ao, cap, by rw [hl], by omega, ?_⟩
  rcases r with rfl | ⟨b, o, rfl, r⟩
  · exact .inl (List.eq_nil_of_length_eq_zero (by simpa using hl.symm))
  · refine .inr ⟨b, o, rfl, fun i x hx => ?_⟩
    obtain ⟨vs, h1, h2⟩ := hR i x hx
    obtain ⟨us, e1, e2, e3⟩ := r i vs h1
    subst e1
    exact ⟨_, h2, e2, e3⟩
/-- an own row whose elements are told by their cells -/
theorem Row.raw {h : Ghost} {k n : Nat} {e : TypeId} {F : Frag} {v : Value} {css : List (List Value)} (hk : ∀ vs ∈ css, vs.length = k) (hr : Row F v e k n css.flatten) (hn : n = css.length)
    (hF : ∀ p, p ∈ F → h p.1 = some p.2) : Sl h (fun vs us => us = vs) k v css := by
  subst hn
  rcases hr.2 with ⟨_, rfl, h0⟩ | ⟨b, cap, sp, rfl, rfl, hc, hl⟩
  · have : css = [] := List.eq_nil_of_length_eq_zero h0
    subst this; exact Sl.nil _ _ _ _ _
  · have hb := Seg.of_block (hF (b, cells (css.flatten ++ sp) e) (by simp))
    refine ⟨_, cap, rfl, hc, .inr ⟨b, 0, rfl, ?_⟩⟩
    have : ∀ (css : List (List Value)) (o : Nat) (sp : List Value), (∀ vs ∈ css, vs.length = k) → Seg h b o (css.flatten ++ sp) → ∀ i vs, css[i]? = some vs → ∃ us, us = vs ∧ us.length = k ∧ Seg h b (o + i * k) us := by
      intro css
      induction css with
      | nil => intro o sp _ _ i vs hv; simp at hv
      | cons y l ih =>
        intro o sp hk hs i vs hv
        have hy := hk y List.mem_cons_self
        rw [List.flatten_cons, List.append_assoc] at hs
        match i, hv with
        | 0, hv => simp at hv; subst hv; exact ⟨_, rfl, hy, by simpa using hs.take⟩
        | i + 1, hv =>
          obtain ⟨us, e1, e2, e3⟩ := ih (o + y.length) sp (fun vs h => hk vs (List.mem_cons_of_mem _ h)) hs.drop i vs (by simpa using hv)
          refine ⟨us, e1, e2, ?_⟩
          rw [hy] at e3
          rwa [show o + (i + 1) * k = o + k + i * k from by rw [Nat.add_mul]; omega]
    simpa using this css 0 sp hk hb
theorem flatten_length {k : Nat} {css : List (List Value)} (hk : ∀ vs ∈ css, vs.length = k) : css.flatten.length = css.length * k := by
  induction css with
  | nil => simp
  | cons a l ih =>
    rw [List.flatten_cons, List.length_append, hk a List.mem_cons_self, ih fun vs h => hk vs (List.mem_cons_of_mem _ h), List.length_cons, Nat.add_mul]; omega
section
variable {n : Nat} {K : List (Nat × Value)} {E : World} {h : Ghost} {S : List Frag} {P : Program} {Q : Exit → Act → World → Prop}
/-- what is read of a slice that stays -/
theorem srcS {k m cap : Nat} {ao : Option Addr} {css : List (List Value)} (hs : Sl h (fun vs us => us = vs) k (.slice ao m cap) css) :
    ∀ a w, As n K E h S a w → ∀ j u, css.flatten[j]? = some u → ∃ b o, ao = some ⟨b, o, none⟩ ∧ w.cell? ⟨b, o + j, none⟩ = some u := by
  obtain ⟨ao', cap', e, hc, r⟩ := hs
  cases e
  rcases r with rfl | ⟨b, o, rfl, r⟩
  · intro a w A j u hj; simp at hj
  · have := (Sl.seg (enc := id) r).1
    rw [List.flatMap_id] at this
    exact srcG rfl this
theorem Ghost.ext_nil : h.ext [] = h := by
  funext b; unfold Ghost.ext; cases h b <;> rfl
theorem Wx.addNil {e : Exit} (H : Wx Q e n K E h ([] :: S)) : Wx Q e n K E h S := fun a w A => H a w ⟨A.size, A.defers, A.slots, A.heap⟩
end
end Go.Sx

namespace Go.Sx
open Go
section
variable {P : Program} {ops : Array Oper} {Q : Exit → Act → World → Prop} {n : Nat} {K : List (Nat × Value)} {E : World} {h : Ghost} {S : List Frag} {c : Code}
theorem As.frz {F : Frag} {a : Act} {w : World} (A : As n K E h (F :: S) a w) : As n K E (h.ext F) S a w ∧ h.le (h.ext F) ∧ ∀ p, p ∈ F → (h.ext F) p.1 = some p.2 :=
  let ⟨H1, H2⟩ := (show Heap E h (F ++ S.flatten) w from A.heap).freeze
  ⟨⟨A.size, A.defers, A.slots, H1⟩, Ghost.le_ext _ _, H2⟩
theorem Wl.frz {F : Frag} {l : List Oper} (H : ∀ h', h.le h' → (∀ p, p ∈ F → h' p.1 = some p.2) → Wl P ops Q l n K E h' S) : Wl P ops Q l n K E h (F :: S) := fun a w A =>
  let ⟨H1, H2, H3⟩ := A.frz; H _ H2 H3 a w H1
theorem Wc.frz {F : Frag} (H : ∀ h', h.le h' → (∀ p, p ∈ F → h' p.1 = some p.2) → Wc P Q c n K E h' S) : Wc P Q c n K E h (F :: S) := fun a w A =>
  let ⟨H1, H2, H3⟩ := A.frz; H _ H2 H3 a w H1
theorem Wx.frz {F : Frag} {e : Exit} (H : ∀ h', h.le h' → (∀ p, p ∈ F → h' p.1 = some p.2) → Wx Q e n K E h' S) : Wx Q e n K E h (F :: S) := fun a w A =>
  let ⟨H1, H2, H3⟩ := A.frz; H _ H2 H3 a w H1
theorem Wl.frz1 {b : Nat} {o : Obj} {l : List Oper} (H : ∀ h', h.le h' → h' b = some o → Wl P ops Q l n K E h' S) : Wl P ops Q l n K E h ([(b, o)] :: S) :=
  Wl.frz fun h' hl hF => H h' hl (hF _ List.mem_cons_self)
theorem Wc.frz1 {b : Nat} {o : Obj} (H : ∀ h', h.le h' → h' b = some o → Wc P Q c n K E h' S) : Wc P Q c n K E h ([(b, o)] :: S) :=
  Wc.frz fun h' hl hF => H h' hl (hF _ List.mem_cons_self)
theorem Wx.drop {F : Frag} {e : Exit} (H : Wx Q e n K E h S) : Wx Q e n K E h (F :: S) := fun a w A => H a w A.drop
end
end Go.Sx
