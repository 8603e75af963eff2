/-
  Contracts and plain lemmas, joined: SxV
-/
import Derived.Test.YtgpmjggdloldnaaGreatDoorLogicB
namespace Go.Sx
open Go
/-- the state while the head runs: the operations ord have been carried out -/
structure MidV (V : Nat → List Frag) (l : List Oper) (m n : Nat) (D U : List (List Nat)) (Y : Nat → (Nat → Value) → Value → Frag → Ghost → Prop) (K : List (Nat × Value)) (E : World) (h₀ : Ghost) (S : List Frag)
    (ord : List Nat) (a : Act) (w : World) : Prop where
  ex : ∃ (env : Nat → Value) (φ : Nat → Frag) (h : Ghost) (al : List Nat), h₀.le h ∧ As n (dk l env ord ++ K) E h (al.map φ ++ (((List.range m).filter fun i => !ord.contains i).flatMap V ++ S)) a w ∧ al.Nodup ∧ (∀ i, i ∈ al ↔ i ∈ ord ∧ ∀ c ∈ ord, i ∉ U.getD c []) ∧ ∀ i ∈ al, Y i (msk (D.getD i []) env) (env i) (φ i) h

section
variable {P : Program} {Q : Exit → Act → World → Prop} {n : Nat} {K : List (Nat × Value)} {E : World} {h : Ghost} {S : List Frag}
theorem Wc.drawnV {id : Nat} {l : List Oper} (m : Nat) (D U : List (List Nat)) (V : Nat → List Frag) (hU : useB m D U = true) (Y : Nat → (Nat → Value) → Value → Frag → Ghost → Prop) (hm : P.follows .mixedOrders = true) (hB : drawB l m D = true) (hK : freshB l m K = true)
    (hY : ∀ i env v F h h', h.le h' → Y i env v F h → Y i env v F h')
    (loc : ∀ i, i < m → ∀ env K' h' S' φ, Sub K K' → (∀ j ∈ D.getD i [], get K' (dstOf l j) = some (env j)) → h.le h' → (∀ j ∈ D.getD i [], j ∉ U.getD i [] → ∃ F, Y j (msk (D.getD j []) env) (env j) F h') →
      (∀ j ∈ U.getD i [], Y j (msk (D.getD j []) env) (env j) (φ j) h') →
      Wl P l.toArray (Gives n K' E h' (S' ++ S) (dstOf l i) (Y i (msk (D.getD i []) env))) ((l[i]?).toList) n K' E h' ((U.getD i []).map φ ++ (V i ++ (S' ++ S))))
    (tail : ∀ env φ h', h.le h' → (∀ i, i < m → (gone U m i = false → Y i (msk (D.getD i []) env) (env i) (φ i) h') ∧ (gone U m i = true → φ i = [])) →
      Wl P l.toArray Q (l.drop m) n (dk l env (List.range m).reverse ++ K) E h' ((List.range m).reverse.map φ ++ S)) : Wc P Q (.region id l.toArray true) n K E h ((List.range m).flatMap V ++ S) := by
  have hUs := useB_uses hU
  unfold drawB at hB
  simp only [Bool.and_eq_true, List.all_eq_true, decide_eq_true_eq, List.mem_range, Bool.or_eq_true, Bool.not_eq_true'] at hB
  obtain ⟨⟨⟨⟨hB1, hB2⟩, hB3⟩, _⟩, hB5⟩ := hB
  have hB2 := forced_dep hB2
  have hd : ∀ i, i < m → ∃ o d, l[i]? = some o ∧ o.dst = some d ∧ dstOf l i = d := fun i hi => by
    have := (hB1 i hi).1.1
    obtain ⟨d, hd⟩ := Option.isSome_iff_exists.1 this
    obtain ⟨o, ho, hod⟩ := Option.bind_eq_some_iff.1 hd
    exact ⟨o, d, ho, hod, by simp [dstOf, ho, hod]⟩
  have hinj : ∀ i, i < m → ∀ j, j < m → dstOf l i = dstOf l j → i = j := fun i hi j hj e => by
    rcases Nat.lt_trichotomy i j with hlt | heq | hlt
    · have := (hB1 j hj).2 i hlt; rw [e] at this; simp at this
    · exact heq
    · have := (hB1 i hi).2 j hlt; rw [e] at this; simp at this
  have hKn : ∀ i, i < m → get K (dstOf l i) = none := fun i hi => by
    have := List.all_eq_true.1 hK i (List.mem_range.2 hi)
    simpa using this
  -- the tail
  have tailAny : ∀ (r : List Oper) (t : Nat) (listed : Array Bool) (a : Act) (w : World), l.drop t = r → m ≤ t → t ≤ l.length → listed.size = l.length → (∀ i, i < t → listed.getD i false = true) → (∀ i, t ≤ i → i < l.length → listed.getD i false = false) →
      wpList P l.toArray Q r a w → wpAny P .any l.toArray Q r.length listed a w := by
    intro r
    induction r with
    | nil =>
      intro t listed a w hr _ ht hsz h1 _ H
      have htl : t = l.length := by
        have := congrArg List.length hr; simp at this; omega
      refine ⟨?_, H⟩
      cases hh : Region.ready .any l.toArray listed with
      | nil => rfl
      | cons j js =>
        have hj : j ∈ Region.ready .any l.toArray listed := by rw [hh]; exact List.mem_cons_self
        obtain ⟨h0, o, ho, _⟩ := mem_ready.1 hj
        have hjl : j < l.length := by have := (Array.getElem?_eq_some_iff.1 ho).1; simpa using this
        have h2 := h1 j (by omega)
        rw [Array.getD_eq_getD_getElem?] at h0 h2
        have : listed[j]? = some listed[j] := Array.getElem?_eq_getElem (by omega)
        rw [this] at h0 h2; simp at h0 h2; rw [h0] at h2; cases h2
    | cons o r ih =>
      intro t listed a w hr hmt ht hsz h1 h2 H
      have ho : l[t]? = some o := by
        have := congrArg (·[0]?) hr; simpa using this
      have htl : t < l.length := (List.getElem?_eq_some_iff.1 ho).1
      have only : ∀ j ∈ Region.ready .any l.toArray listed, j = t := fun j hj => by
        obtain ⟨h0, o', ho', _⟩ := mem_ready.1 hj
        have hjl : j < l.length := by have := (Array.getElem?_eq_some_iff.1 ho').1; simpa using this
        rcases Nat.lt_trichotomy j t with hlt | heq | hlt
        · have h3 := h1 j hlt
          rw [Array.getD_eq_getD_getElem?] at h0 h3
          have : listed[j]? = some listed[j] := Array.getElem?_eq_getElem (by omega)
          rw [this] at h0 h3; simp at h0 h3; rw [h0] at h3; cases h3
        · exact heq
        · have hw := (hB2 j hjl).resolve_left (by omega) t hlt
          have hcl : ∀ q i, listed.getD q false = true → waits l q i = true → listed.getD i false = true := fun q i hq hqi => by
            have hqt : q < t := Classical.byContradiction fun hge => by
              rcases Nat.lt_or_ge q l.length with hql | hql
              · rw [h2 q (by omega) hql] at hq; cases hq
              · rw [Array.getD_eq_getD_getElem?, Array.getElem?_eq_none (by omega)] at hq; simp at hq
            refine h1 i ?_
            unfold waits at hqi
            cases hoq : l[q]? with
            | none => rw [hoq] at hqi; simp at hqi
            | some oq =>
              rw [hoq] at hqi
              simp only [Option.map_some, Option.getD_some] at hqi
              obtain ⟨e, he, hb⟩ := List.any_eq_true.1 hqi
              simp only [Bool.and_eq_true] at hb
              have h5 := hB5 q (by omega)
              rw [hoq] at h5
              simp only [Option.map_some, Option.getD_some, List.all_eq_true, Bool.or_eq_true, Bool.not_eq_true', decide_eq_true_eq] at h5
              have := (h5 e he).resolve_left (by simp [hb.1])
              rw [Nat.eq_of_beq_eq_true hb.2] at this; omega
          have h3 := hw.listed hcl hj
          rw [h2 t (Nat.le_refl _) htl] at h3; cases h3
      have hready : t ∈ Region.ready .any l.toArray listed := mem_ready.2 ⟨by
        have := h2 t (Nat.le_refl _) htl
        rw [Array.getD_eq_getD_getElem?] at this ⊢
        have e : listed[t]? = some listed[t] := Array.getElem?_eq_getElem (by omega)
        rw [e] at this ⊢; simpa using this, o, by simpa using ho, fun e he hb => by
        have := hB5 t htl
        rw [ho] at this
        simp only [Option.map_some, Option.getD_some, List.all_eq_true, Bool.or_eq_true, Bool.not_eq_true', decide_eq_true_eq] at this
        have h3 := (this e (by simpa using he)).resolve_left (by simp [hb])
        exact h1 _ h3⟩
      refine ⟨fun h0 => (by rw [h0] at hready; cases hready), fun j hj => ?_⟩
      rw [only j hj]
      unfold wpOp
      rw [show l.toArray[t]? = some o from by simpa using ho]
      simp only [wpList] at H
      have step : ∀ a w, wpList P l.toArray Q r a w → wpAny P .any l.toArray Q r.length (listed.setIfInBounds t true) a w := fun a w H => by
        refine ih (t + 1) _ a w (by rw [← List.drop_drop, hr]; rfl) (by omega) (by omega) (by simpa using hsz) (fun i hi => ?_) (fun i hi hil => ?_) H
        · by_cases e : i = t
          · subst e; simp [hsz, htl]
          · exact getD_set_true (h1 i (by omega))
        · rw [getD_set_ne false (by omega)]; exact h2 i (by omega) hil
      simp only []
      split
      · rename_i hw; rw [if_pos hw] at H
        rcases H with H | H
        · exact .inl (Oper.wp_weaken step (fun _ _ _ _ q => q) H)
        · exact .inr H
      · rename_i hw; rw [if_neg hw] at H; exact step _ _ H
  -- the head
  have headAny : ∀ (k : Nat) (ord : List Nat) (listed : Array Bool) (a : Act) (w : World), ord.length + k = m → ord.Nodup → (∀ i ∈ ord, i < m) → (∀ j ∈ ord, ∀ q ∈ D.getD j [], q ∈ ord) → (∀ j ∈ ord, ∀ q, waits l j q = true → q ∈ ord) → listed.size = l.length → (∀ i, i < l.length → (listed.getD i false = true ↔ i ∈ ord)) →
      MidV V l m n D U Y K E h S ord a w → wpAny P .any l.toArray Q (l.length - ord.length) listed a w := by
    intro k
    induction k with
    | zero =>
      intro ord listed a w hlen hnd hlt hcl hcw hsz hlis hmid
      obtain ⟨env, φ, h', al, hl, hA, halnd, hal, hYs⟩ := hmid.ex
      have hperm : ord.Perm (List.range m).reverse := by
        refine (List.perm_ext_iff_of_nodup hnd ((List.reverse_perm _).nodup_iff.2 List.nodup_range)).2 fun i => ?_
        refine ⟨fun hi => by simpa using hlt i hi, fun hi => Classical.byContradiction fun hn => ?_⟩
        have hi' : i < m := by simpa using hi
        have := nodup_length_le (i :: ord) (List.range m) (List.nodup_cons.2 ⟨hn, hnd⟩) (fun j hj => List.mem_range.2 (by rcases List.mem_cons.1 hj with rfl | hj; exact hi'; exact hlt j hj))
        simp at this; omega
      have all : ∀ i, i < m → i ∈ ord := fun i hi => hperm.mem_iff.2 (by simpa using hi)
      have hm' : ord.length = m := by omega
      rw [hm', show l.length - m = (l.drop m).length from by simp]
      refine tailAny (l.drop m) m listed a w rfl (Nat.le_refl _) hB3 hsz (fun i hi => (hlis i (by omega)).2 (all i hi)) (fun i hi hil => ?_) (tail env (fun i => if gone U m i then [] else φ i) h' hl (fun i hi => ⟨fun hg => by rw [hg]; exact hYs i ((hal i).2 ⟨all i hi, fun c hc => gone_false.1 hg c (hlt c hc)⟩), fun hg => by rw [hg]; rfl⟩) a w ⟨hA.size, hA.defers, fun s v hs => ?_, ?_⟩)
      · cases hh : listed.getD i false with
        | false => rfl
        | true => have := hlt i ((hlis i hil).1 hh); omega
      · refine hA.slots s v ?_
        rw [get_append] at hs ⊢
        cases hg : get (dk l env (List.range m).reverse) s with
        | some u =>
          rw [hg] at hs
          obtain ⟨i, hi, e1, e2⟩ := get_dk hg
          have := get_dk_mem (l := l) (env := env) (L := ord) (fun a ha b hb => hinj a (hlt a ha) b (hlt b hb)) i (hperm.mem_iff.2 hi)
          rw [e1] at this; rw [this, e2]; simpa using hs
        | none =>
          rw [hg] at hs
          cases hg2 : get (dk l env ord) s with
          | none => exact hs
          | some u =>
            obtain ⟨i, hi, e1, _⟩ := get_dk hg2
            rw [← e1, hKn i (hlt i hi)] at hs; cases hs
      · have hp1 : al.Perm ((List.range m).reverse.filter fun i => !gone U m i) := by
          refine (List.perm_ext_iff_of_nodup halnd (((List.reverse_perm _).nodup_iff.2 List.nodup_range).filter _)).2 fun i => ?_
          rw [hal i, List.mem_filter]
          constructor
          · rintro ⟨h1, h2⟩
            refine ⟨hperm.mem_iff.1 h1, ?_⟩
            rw [gone_false.2 fun c hc => h2 c (all c hc)]; rfl
          · rintro ⟨h1, h2⟩
            have h3 : gone U m i = false := by simpa using h2
            exact ⟨hperm.mem_iff.2 h1, fun c hc => gone_false.1 h3 c (hlt c hc)⟩
        have hfl : ∀ L : List Nat, ((L.filter fun i => !gone U m i).map φ).flatten = (L.map fun i => if gone U m i then [] else φ i).flatten := by
          intro L
          induction L with
          | nil => rfl
          | cons i L ih =>
            rw [List.filter_cons]
            cases hg : gone U m i
            · simp [hg, ih]
            · simp [hg, ih]
        have hnone : ((List.range m).filter fun i => !ord.contains i) = [] := by
          rw [List.filter_eq_nil_iff]; intro i hi; simp [all i (List.mem_range.1 hi)]
        have hA0 := hA.heap
        rw [hnone, List.flatMap_nil, List.nil_append] at hA0
        have hq := hA0.perm ((hp1.map φ).append_right S).flatten
        rw [List.flatten_append, hfl, ← List.flatten_append] at hq
        exact hq
    | succ k ih =>
      intro ord listed a w hlen hnd hlt hcl hcw hsz hlis hmid
      obtain ⟨env, φ, h', al, hl, hA, halnd, hal, hYs⟩ := hmid.ex
      rw [show l.length - ord.length = (l.length - (ord.length + 1)) + 1 from by omega]
      have unl : ∃ i, i < m ∧ i ∉ ord := by
        refine Classical.byContradiction fun hno => ?_
        have : List.range m ⊆ ord := fun i hi => Classical.byContradiction fun hn => hno ⟨i, List.mem_range.1 hi, hn⟩
        have := nodup_length_le _ _ List.nodup_range this
        simp at this; omega
      refine ⟨fun h0 => ?_, fun i hi => ?_⟩
      · -- something is ready: the least operation that has not come up
        exfalso
        obtain ⟨i, him, hio⟩ := unl
        have key : ∀ i, i < m → i ∉ ord → False := by
          intro i
          induction i using Nat.strongRecOn with
          | _ i ihi =>
            intro him hio
            have hil : i < l.length := by omega
            obtain ⟨o, d, ho, _, _⟩ := hd i him
            have : i ∈ Region.ready .any l.toArray listed := mem_ready.2 ⟨by
              have hf : listed.getD i false = false := by
                cases hh : listed.getD i false with
                | false => rfl
                | true => exact absurd ((hlis i hil).1 hh) hio
              rw [Array.getD_eq_getD_getElem?] at hf ⊢
              have e : listed[i]? = some listed[i] := Array.getElem?_eq_getElem (by omega)
              rw [e] at hf ⊢; simpa using hf, o, by simpa using ho, fun e he hb => by
              have h5 := hB5 i hil
              rw [ho] at h5
              simp only [Option.map_some, Option.getD_some, List.all_eq_true, Bool.or_eq_true, Bool.not_eq_true', decide_eq_true_eq] at h5
              have h3 := (h5 e (by simpa using he)).resolve_left (by simp [hb])
              exact (hlis _ (by omega)).2 (Classical.byContradiction fun hn => ihi _ h3 (by omega) hn)⟩
            rw [h0] at this; cases this
        exact key i him hio
      · have hil : i < l.length := by
          obtain ⟨_, o, ho, _⟩ := mem_ready.1 hi
          have := (Array.getElem?_eq_some_iff.1 ho).1; simpa using this
        have hio : i ∉ ord := fun hin => by
          have h1 := (hlis i hil).2 hin
          have h0 := (mem_ready.1 hi).1
          rw [Array.getD_eq_getD_getElem?] at h0 h1
          have e : listed[i]? = some listed[i] := Array.getElem?_eq_getElem (by omega)
          rw [e] at h0 h1; simp at h0 h1; rw [h0] at h1; cases h1
        have him : i < m := by
          refine Classical.byContradiction fun hge => ?_
          obtain ⟨j, hjm, hjo⟩ := unl
          have hw := (hB2 i hil).resolve_left (by omega) j (by omega)
          have inOrd : ∀ q, listed.getD q false = true → q ∈ ord := fun q hq => by
            rcases Nat.lt_or_ge q l.length with hql | hql
            · exact (hlis q hql).1 hq
            · rw [Array.getD_eq_getD_getElem?, Array.getElem?_eq_none (by omega)] at hq; simp at hq
          exact hjo (inOrd j (hw.listed (fun q i hq hqi => by
            have hio := hcw q (inOrd q hq) i hqi
            exact (hlis i (by have := hlt i hio; omega)).2 hio) hi))
        obtain ⟨o, d, ho, hod, hdd⟩ := hd i him
        have hdeps : ∀ j ∈ D.getD i [], j ∈ ord := fun j hj => by
          have := (hB1 i him).1.2 j hj
          exact (hlis j (by omega)).1 (listed_of l hi this.2)
        have hsubK : Sub K (dk l env ord ++ K) := fun s v hs => by
          rw [get_append, get_dk_none (fun j hj e => by rw [← e, hKn j (hlt j hj)] at hs; cases hs)]; exact hs
        have husal : ∀ j ∈ U.getD i [], j ∈ al := fun j hj => (hal j).2 ⟨hdeps j (hUs.sub i him j hj), fun c hc hjc => hUs.apart i him c (hlt c hc) (fun e => hio (e ▸ hc)) j hj hjc⟩
        let al' := al.filter fun x => !(U.getD i []).contains x
        have hal' : ∀ x, x ∈ al' ↔ x ∈ al ∧ x ∉ U.getD i [] := fun x => by simp [al', List.mem_filter]
        have hpal : al.Perm (U.getD i [] ++ al') := by
          refine (List.perm_ext_iff_of_nodup halnd ?_).2 fun x => ?_
          · rw [List.nodup_append]
            refine ⟨hUs.nd i him, halnd.filter _, ?_⟩
            rintro a ha b hb rfl
            exact ((hal' a).1 hb).2 ha
          · rw [List.mem_append, hal' x]
            by_cases hx : x ∈ U.getD i []
            · exact ⟨fun _ => .inl hx, fun _ => husal x hx⟩
            · exact ⟨fun h => .inr ⟨h, hx⟩, fun h => h.elim (fun e => absurd e hx) fun e => e.1⟩
        let rest := (List.range m).filter fun x => !(i :: ord).contains x
        have hprest : ((List.range m).filter fun x => !ord.contains x).Perm (i :: rest) := by
          refine (List.perm_ext_iff_of_nodup (List.nodup_range.filter _) (List.nodup_cons.2 ⟨by simp [List.mem_filter], List.nodup_range.filter _⟩)).2 fun x => ?_
          rw [List.mem_filter, List.mem_cons, List.mem_filter]
          by_cases hx : x = i
          · subst hx; simp [him, hio]
          · simp [hx]
        have hpV : (((List.range m).filter fun x => !ord.contains x).flatMap V).Perm (V i ++ rest.flatMap V) := by
          have := hprest.flatMap_right V
          rwa [List.flatMap_cons] at this
        have hA2 : As n (dk l env ord ++ K) E h' ((U.getD i []).map φ ++ (V i ++ ((al'.map φ ++ rest.flatMap V) ++ S))) a w := by
          refine ⟨hA.size, hA.defers, hA.slots, ?_⟩
          have hp2 : (al.map φ ++ (((List.range m).filter fun x => !ord.contains x).flatMap V ++ S)).Perm ((U.getD i []).map φ ++ (V i ++ ((al'.map φ ++ rest.flatMap V) ++ S))) := by
            have h1 := (hpal.map φ).append (hpV.append_right S)
            rw [List.map_append] at h1
            refine h1.trans ?_
            rw [List.append_assoc]
            refine List.Perm.append_left _ ?_
            have h2 : (al'.map φ ++ (V i ++ rest.flatMap V ++ S)) = (al'.map φ ++ V i) ++ (rest.flatMap V ++ S) := by simp only [List.append_assoc]
            have h3 : (V i ++ ((al'.map φ ++ rest.flatMap V) ++ S)) = (V i ++ al'.map φ) ++ (rest.flatMap V ++ S) := by simp only [List.append_assoc]
            rw [h2, h3]
            exact (List.perm_append_comm).append_right _
          exact hA.heap.perm hp2.flatten
        have hl1 := loc i him env (dk l env ord ++ K) h' (al'.map φ ++ rest.flatMap V) φ hsubK
          (fun j hj => by rw [get_append, get_dk_mem (fun a ha b hb => hinj a (hlt a ha) b (hlt b hb)) j (hdeps j hj)]) hl
          (fun j hj hju => ⟨φ j, hYs j ((hal j).2 ⟨hdeps j hj, fun c hc => gone_false.1 (hUs.rest i him j hj hju) c (hlt c hc)⟩)⟩)
          (fun j hj => hYs j (husal j hj)) a w hA2
        rw [ho] at hl1
        simp only [Option.toList_some] at hl1
        -- the next state
        have nxt : ∀ a' w', Gives n (dk l env ord ++ K) E h' ((al'.map φ ++ rest.flatMap V) ++ S) (dstOf l i) (Y i (msk (D.getD i []) env)) .normal a' w' →
            wpAny P .any l.toArray Q (l.length - (ord.length + 1)) (listed.setIfInBounds i true) a' w' := fun a' w' hg => by
          obtain ⟨v, F, h2, hl2, hy, hA2⟩ := hg
          let env' : Nat → Value := fun j => if j = i then v else env j
          let φ' : Nat → Frag := fun j => if j = i then F else φ j
          have henv : ∀ j ∈ ord, env' j = env j := fun j hj => by
            have : j ≠ i := fun e => hio (e ▸ hj)
            simp [env', this]
          have hφ : ∀ j ∈ ord, φ' j = φ j := fun j hj => by
            have : j ≠ i := fun e => hio (e ▸ hj)
            simp [φ', this]
          have hm' : ∀ j, j ∈ i :: ord → msk (D.getD j []) env' = msk (D.getD j []) env := fun j hj => msk_congr fun q hq => by
            have hqm : q ≠ i := by
              rcases List.mem_cons.1 hj with rfl | hj
              · exact fun e => hio (e ▸ hdeps q hq)
              · exact fun e => hio (e ▸ hcl j hj q hq)
            simp [env', hqm]
          have hdk : dk l env' (i :: ord) = (dstOf l i, v) :: dk l env ord := by
            have : ∀ L : List Nat, (∀ j ∈ L, env' j = env j) → dk l env' L = dk l env L := by
              intro L hL
              induction L with
              | nil => rfl
              | cons j L ih => simp only [dk]; rw [hL j List.mem_cons_self, ih fun q hq => hL q (List.mem_cons_of_mem _ hq)]
            simp only [dk, this ord henv]; simp [env']
          have hr := ih (i :: ord) (listed.setIfInBounds i true) a' w' (by simp; omega) (List.nodup_cons.2 ⟨hio, hnd⟩)
            (fun j hj => by rcases List.mem_cons.1 hj with rfl | hj; exact him; exact hlt j hj)
            (fun j hj q hq => List.mem_cons_of_mem _ (by rcases List.mem_cons.1 hj with rfl | hj; exact hdeps q hq; exact hcl j hj q hq))
            (fun j hj q hq => List.mem_cons_of_mem _ (by
              rcases List.mem_cons.1 hj with rfl | hj
              · have h3 := listed_of l hi hq
                rcases Nat.lt_or_ge q l.length with hql | hql
                · exact (hlis q hql).1 h3
                · rw [Array.getD_eq_getD_getElem?, Array.getElem?_eq_none (by omega)] at h3; simp at h3
              · exact hcw j hj q hq)) (by simpa using hsz) (fun j hjl => ?_)
            ⟨env', φ', h2, i :: al', hl.trans hl2, ?_, ?_, fun x => ?_, fun j hj => ?_⟩
          · simpa using hr
          · by_cases e : j = i
            · subst e; simp [hsz, hil]
            · rw [getD_set_ne false (Ne.symm e), hlis j hjl]; simp [e]
          · rw [hdk]
            have : (i :: al').map φ' = F :: al'.map φ := by
              simp only [List.map_cons]; rw [List.map_congr_left fun j hj => hφ j ((hal j).1 ((hal' j).1 hj).1).1]; simp [φ']
            rw [this]
            have e : (F :: al'.map φ ++ (rest.flatMap V ++ S)) = F :: ((al'.map φ ++ rest.flatMap V) ++ S) := by rw [List.cons_append, List.append_assoc]
            rw [e]; exact hA2
          · exact List.nodup_cons.2 ⟨fun hx => hio ((hal i).1 ((hal' i).1 hx).1).1, halnd.filter _⟩
          · by_cases e : x = i
            · subst e
              refine ⟨fun _ => ⟨List.mem_cons_self, fun c hc hxc => ?_⟩, fun _ => List.mem_cons_self⟩
              rcases List.mem_cons.1 hc with rfl | hc
              · have := (hB1 c him).1.2 c (hUs.sub c him c hxc); omega
              · exact hio (hcl c hc x (hUs.sub c (hlt c hc) x hxc))
            · rw [List.mem_cons, hal' x, hal x, List.mem_cons]
              simp only [e, false_or, List.forall_mem_cons]
              constructor
              · rintro ⟨⟨h1, h2⟩, h3⟩; exact ⟨h1, h3, h2⟩
              · rintro ⟨h1, h3, h2⟩; exact ⟨⟨h1, h2⟩, h3⟩
          · have hjo : j ∈ i :: ord := by
              rcases List.mem_cons.1 hj with rfl | hj
              · exact List.mem_cons_self
              · exact List.mem_cons_of_mem _ ((hal j).1 ((hal' j).1 hj).1).1
            rw [hm' j hjo]
            rcases List.mem_cons.1 hj with rfl | hj'
            · simp only [env', φ', if_true]; exact hy
            · have hjal := ((hal' j).1 hj').1
              have hjord := ((hal j).1 hjal).1
              rw [henv j hjord, hφ j hjord]; exact hY _ _ _ _ _ _ hl2 (hYs j hjal)
        unfold wpOp
        rw [show l.toArray[i]? = some o from by simpa using ho]
        simp only [wpList] at hl1
        simp only []
        split
        · rename_i hw
          rw [if_pos hw] at hl1
          rcases hl1 with hl1 | ⟨_, a0, w0, hq⟩
          · exact .inl (Oper.wp_weaken nxt (fun e a w hne q => by cases e <;> first | exact absurd rfl hne | exact q.elim) hl1)
          · exact hq.elim
        · rename_i hw; rw [if_neg hw] at hl1; exact nxt _ _ hl1
  intro a w A
  refine wp_region_any hm ?_
  have := headAny m [] (Array.replicate l.toArray.size false) a { w with drawn := w.drawn + 1 } (by simp) List.nodup_nil (by simp) (by simp) (by simp) (by simp) (fun i hi => by simp [hi]) ⟨fun _ => undef, fun _ => [], h, [], Ghost.le.refl _, ⟨A.size, A.defers, A.slots, by
    have e : ((List.range m).filter fun i => !([] : List Nat).contains i) = List.range m := by rw [List.filter_eq_self]; simp
    rw [List.map_nil, List.nil_append, e]; exact A.heap.drew⟩, List.nodup_nil, by simp, by simp⟩
  simpa using this
end
section
variable (P : Program) (l : List Oper) (n : Nat) (D U : List (List Nat)) (V : List (List Frag)) (All : List YS) (K : List (Nat × Value)) (E : World) (h : Ghost) (S : List Frag)
/-- operation i does what is told of it, in whatever order; V: what it takes of the own blocks ahead of the region -/
def LocV (i : Nat) (y : YS) : Prop := match U.getD i [], V.getD i [] with
  | [], [] => ∀ env K' h' S', Sub K K' → (∀ j ∈ D.getD i [], get K' (dstOf l j) = some (env j)) → h.le h' →
    (∀ j ∈ D.getD i [], ∃ F, (All.getD j .none).holds (msk (D.getD j []) env) (env j) F h') →
    Wl P l.toArray (Gives n K' E h' (S' ++ S) (dstOf l i) (y.holds (msk (D.getD i []) env))) ((l[i]?).toList) n K' E h' (S' ++ S)
  | u :: us, [] => ∀ env K' h' S' (φ : Nat → Frag), Sub K K' → (∀ j ∈ D.getD i [], get K' (dstOf l j) = some (env j)) → h.le h' →
    (∀ j ∈ D.getD i [], j ∉ u :: us → ∃ F, (All.getD j .none).holds (msk (D.getD j []) env) (env j) F h') →
    (∀ j ∈ u :: us, (All.getD j .none).holds (msk (D.getD j []) env) (env j) (φ j) h') →
    Wl P l.toArray (Gives n K' E h' (S' ++ S) (dstOf l i) (y.holds (msk (D.getD i []) env))) ((l[i]?).toList) n K' E h' ((u :: us).map φ ++ (S' ++ S))
  | us, v :: vs => ∀ env K' h' S' (φ : Nat → Frag), Sub K K' → (∀ j ∈ D.getD i [], get K' (dstOf l j) = some (env j)) → h.le h' →
    (∀ j ∈ D.getD i [], j ∉ us → ∃ F, (All.getD j .none).holds (msk (D.getD j []) env) (env j) F h') →
    (∀ j ∈ us, (All.getD j .none).holds (msk (D.getD j []) env) (env j) (φ j) h') →
    Wl P l.toArray (Gives n K' E h' (S' ++ S) (dstOf l i) (y.holds (msk (D.getD i []) env))) ((l[i]?).toList) n K' E h' (us.map φ ++ (v :: vs ++ (S' ++ S)))
def LocVs : Nat → List YS → Prop
  | _, [] => True
  | i, y :: r => LocV P l n D U V All K E h S i y ∧ LocVs (i + 1) r
end
section
variable {P : Program} {Q : Exit → Act → World → Prop} {n : Nat} {K : List (Nat × Value)} {E : World} {h : Ghost} {S : List Frag} {l : List Oper} {m : Nat} {D U : List (List Nat)} {V : List (List Frag)} {All : List YS}
theorem LocVs.mk {i : Nat} {y : YS} {r : List YS} (h1 : LocV P l n D U V All K E h S i y) (h2 : LocVs P l n D U V All K E h S (i + 1) r) : LocVs P l n D U V All K E h S i (y :: r) := ⟨h1, h2⟩
theorem LocVs.get : ∀ {Ys : List YS} {i₀ : Nat}, LocVs P l n D U V All K E h S i₀ Ys → ∀ i, i < Ys.length → LocV P l n D U V All K E h S (i₀ + i) (Ys.getD i .none)
  | [], _, _, i, hi => by simp at hi
  | y :: r, i₀, H, 0, _ => H.1
  | y :: r, i₀, H, i + 1, hi => by
    have := LocVs.get H.2 i (by simpa using hi)
    rw [show i₀ + 1 + i = i₀ + (i + 1) from by omega] at this
    simpa using this
theorem flatten_range : ∀ V : List (List Frag), V.flatten = (List.range V.length).flatMap fun i => V.getD i []
  | [] => rfl
  | v :: V => by rw [List.flatten_cons, List.length_cons, List.range_succ_eq_map, List.flatMap_cons, List.flatMap_map, flatten_range V]; rfl
/-- THE SAME; V: what each operation of the head takes of the own blocks ahead of the region. -/
theorem Wc.drawV {id : Nat} (m : Nat) (D U : List (List Nat)) (V : List (List Frag)) (Ys : List YS) (hm : P.follows .mixedOrders = true) (hB : drawB l m D = true) (hU : useB m D U = true) (hg : goneB U m 0 Ys = true) (hK : freshB l m K = true) (hlen : Ys.length = m)
    (hD : D.length = m) (hV : V.length = m) {S₀ : List Frag} (hS : S₀.Perm (V.flatten ++ S)) (hloc : LocVs P l n D U V Ys K E h S 0 Ys) (hmono : Monos Ys)
    (tail : ∀ h', h.le h' → TailP P l Q n m D E 0 Ys [] K h' S) : Wc P Q (.region id l.toArray true) n K E h S₀ := by
  refine Wc.perm hS ?_
  have hVr : V.flatten = (List.range m).flatMap fun i => V.getD i [] := hV ▸ flatten_range V
  rw [hVr]
  refine Wc.drawnV m D U (fun i => V.getD i []) hU (fun i env v F h => (Ys.getD i .none).holds env v F h) hm hB hK (fun i env v F h h' hl H => holds_mono (hmono.mem i) hl H) ?_ ?_
  · intro i hi env K' h' S' φ hs hd hl hYs hUs
    have := hloc.get i (by omega)
    rw [Nat.zero_add] at this
    unfold LocV at this
    revert this hYs hUs
    generalize U.getD i [] = us
    generalize V.getD i [] = vs
    intro hYs hUs this
    match us, vs with
    | [], [] => exact this env K' h' S' hs hd hl fun j hj => hYs j hj (by simp)
    | u :: us, [] => exact this env K' h' S' φ hs hd hl hYs hUs
    | us, v :: vs => cases us <;> exact this env K' h' S' φ hs hd hl hYs hUs
  · intro env φ h' hl hYs a w A
    have hDlt : ∀ i, 0 ≤ i → ∀ j ∈ D.getD i [], j < i := fun i _ j hj => by
      rcases Nat.lt_or_ge i m with him | him
      · have hB' := hB
        unfold drawB at hB'
        simp only [Bool.and_eq_true, List.all_eq_true, decide_eq_true_eq, List.mem_range] at hB'
        exact ((hB'.1.1.1.1 i him).1.2 j hj).1
      · rw [List.getD_eq_getElem?_getD, List.getElem?_eq_none (by omega)] at hj; simp at hj
    have e : List.range m = List.range' 0 Ys.length := by rw [hlen, List.range_eq_range']
    rw [e] at A
    refine TailP.run Ys 0 [] K h' S env φ (by omega) rfl (fun j hj => by omega) hDlt (fun i hi => ?_) (tail h' hl) a w A
    have hgi := goneB_get hg i hi
    obtain ⟨h1, h2⟩ := hYs i (by omega)
    rw [Nat.zero_add] at hgi ⊢
    revert h1 h2
    rw [hgi]
    cases hy : Ys.getD i .none with
    | det u => intro h1 _; exact h1 rfl
    | rel Y => intro h1 _; exact h1 rfl
    | gone Y => intro _ h2; exact h2 rfl

end
end Go.Sx
