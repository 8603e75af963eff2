/-
  Contracts and plain lemmas, joined: SxR, T38
-/
import Derived.Test.YtgpmjggdloldnaaGreatDoorLogicB
import Derived.HandedShaped
import Derived.Handed
import Derived.Carry
import Derived.LaidLaws
import Derived.Deep.Slices
import Derived.Deep.Fields
import Derived.ChangeSame
import Derived.RowKit
import Derived.ChangeAgain
import Derived.Test.YtgpmjggdloldnaaGreatDoorPartE
import Derived.Test.YtgpmjggdloldnaaGreatDoorRows
import Derived.Test.YtgpmjggdloldnaaGreatDoorTie
import Derived.Test.YtgpmjggdloldnaaGreatDoorCards
import Derived.ProofKit
import Derived.LaidMore
import Derived.OpenShut
import Derived.Stop.Joined
import Derived.SevenTiedAt
namespace Go.Sx
open Go Go.ChangeShapes Go.WideShapes Go.RowKit Go.Deep
/-- all that is in a world's memory -/
def Ghost.of (w : World) : Ghost := fun b => w.heap[b]?
theorem Heap.start (w : World) : Heap w (Ghost.of w) [] w := ⟨rfl, rfl, rfl, Nat.le_refl _, fun _ _ e => e, (fun p hp => by simp at hp), (fun p hp => by simp at hp), by simp⟩
theorem cell_ghost {w : World} {b i : Nat} {v : Value} (h : w.cell? ⟨b, i, none⟩ = some v) : gcell (Ghost.of w) b i = some v := by
  unfold gcell Ghost.of
  unfold World.cell? at h
  simp only at h
  split at h
  · rename_i c t f hb; rw [hb]; simpa using h
  · cases h
/-- a call of a function whose contract looks at a world's whole memory -/
theorem SpecP.calls {P : Program} {f : FuncId} {args : List Value} {w : World} {Post : Value → Ghost → Prop} (H : SpecP P f args (Ghost.of w) Post) :
    Calls P f args.toArray w fun e w' => ∃ v h', e = .returned v ∧ Post v h' ∧ Below w.heap.size w w' := by
  refine (H.2 w [] w (by simpa using Heap.start w)).mono ?_
  rintro e w' ⟨v, h', F', he, hl, hH, rfl, hp⟩
  refine ⟨v, h', he, hp, hH.os, hH.tape, hH.output, ?_, fun k hk => ?_⟩
  · rcases Nat.eq_zero_or_pos w.heap.size with h0 | h0
    · omega
    · have e1 : (Ghost.of w) (w.heap.size - 1) = some w.heap[w.heap.size - 1] := Array.getElem?_eq_getElem (by omega)
      have := (Array.getElem?_eq_some_iff.1 (hH.imm _ _ (hl _ _ e1))).1
      omega
  · have e1 : (Ghost.of w) k = some w.heap[k] := Array.getElem?_eq_getElem hk
    rw [hH.imm _ _ (hl _ _ e1)]; exact e1.symm

section
variable {H : Type} {enc : TypeId × Value → H}
theorem returnsInHanded_laid {a : Assume} {C : Checked} {os : Os} {f : FuncId} {fn : Func} {s : ChangeSpec} {conds : List PathCond} {apart fresh handsOn again : Bool} {X : World → Array Value → Prop}
    (hX : ∀ (w w' : World) (args : Array Value), w.heap = w'.heap → X w args → X w' args)
    (own : ownKnob C.prog.godebug = none) (started : os.Started) (noInit : C.prog.inits.idxOf? f = none) (hfn : C.prog.funcs[f]? = some fn)
    (witness : ∃ (w : World) (tape : Tape) (i : Input), w.os = os ∧ (w.forCall tape i).Shaped C.prog ∧ i.vars = [] ∧ Input.okWide C.prog (w.forCall tape i) .any w.heap.size f i ∧
      ((s.pre enc C.prog fn conds apart (w.forCall tape i).memory i.args ∧ X (w.forCall tape i).memory i.args) ∧ sizedMet enc C.prog fn (OpenSpec.ofChange s) apart (w.forCall tape i).memory i.args) ∧ a.holds C.prog (lone (Frame.enter C.prog f i.args .normal) [] (w.forCall tape i)))
    (contract : ∀ (W : World) (base : Nat) (args : Array Value) (ds gs : List (DataW H)) (before : List MemPlace),
      (∀ (j : Nat) t v, fn.params[j]? = some t → args[j]? = some v → Value.okWide C.prog W .any base t v) →
      DataW.Whole enc C.prog fn.params.toList s.vars apart W args.toList ds gs before →
      conds.all (PathCond.test C.prog ⟨fn.params.toList, ds, s.plain.varTypes C.prog, gs⟩) = true →
      (DataW.weightsEach C.prog (fn.params.toList ++ s.plain.varTypes C.prog) (ds ++ gs)).all (· ≤ reachBytes) = true → X W args → W.ShapedOpen C.prog →
      Calls C.prog f args W fun e W' => ∃ v, e = .returned v ∧ s.post enc C.prog fn apart fresh handsOn again W args v W') :
    ReturnsInHanded a C os f .any (fun w args => (s.pre enc C.prog fn conds apart w args ∧ X w args) ∧ sizedMet enc C.prog fn (OpenSpec.ofChange s) apart w args) (s.post enc C.prog fn apart fresh handsOn again) := by
  refine returnsInHanded_of_calls own started noInit witness ?_
  intro w tape i _ hsh _ hok hpre hholds
  obtain ⟨_, _, _, fn', hfn', _, _, _, _, hval⟩ := hok
  have e : fn' = fn := Option.some.inj (hfn'.symm.trans hfn)
  subst e
  obtain ⟨⟨⟨ds, gs, before, hw, hc⟩, hx⟩, hz⟩ := hpre
  have hw' := DataW.Whole.of_heap (w' := w.forCall tape i) (by rfl) hw
  refine (contract (w.forCall tape i) w.heap.size i.args ds gs before hval hw' hc (hz.weights hw) (hX _ _ _ (by rfl) hx) hsh).mono fun e W' ⟨v, he, hp⟩ => ?_
  subst he
  exact ChangeSpec.post_blind hp

theorem TrodAll_below {P : Program} (hl : laidOutB P = true) {W W' : World} (hb : Below W.heap.size W W') : ∀ {ts : List TypeId} {vs : List Value} {ds : List (DataW H)} {ps : List MemPlace},
    (∀ t ∈ ts, P.readableRec t = true ∧ t < P.types.size) → DataW.TrodAll enc P W 0 (fun _ => true) true ts vs ds ps → DataW.TrodAll enc P W' 0 (fun b => decide (b < W.heap.size)) true ts vs ds ps
  | [], [], [], _, _, h => h
  | t :: ts, v :: vs, d :: ds, ps, ht, h => by
    obtain ⟨p, q, h1, h2, rfl⟩ := h
    refine ⟨p, q, Below.trod hl (ht t List.mem_cons_self).1 (ht t List.mem_cons_self).2 h1 hb ?_, TrodAll_below hl hb (fun u hu => ht u (List.mem_cons_of_mem _ hu)) h2, rfl⟩
    have := DataW.TrodAll.lt (trodAll_mk1 h1)
    exact this
  | [], [], _ :: _, _, _, h => h.elim
  | [], _ :: _, _, _, _, h => h.elim
  | _ :: _, [], _, _, _, h => h.elim
  | _ :: _, _ :: _, [], _, _, h => h.elim
/-- what a law's row asks behind the call -/
theorem post_true {P : Program} {fn : Func} {s : ChangeSpec} {tb : TypeId} {apart fresh handsOn : Bool} {W W' : World} {args : Array Value} {ds gs : List (DataW H)} {before : List MemPlace} (hl : laidOutB P = true)
    (hr : ∀ t ∈ fn.params.toList, P.readableRec t = true ∧ t < P.types.size) (hv : s.vars = []) (hfn : s.fn H (ds ++ gs) = { results := [.lit (.bool true)], args := ds }) (ht : fn.resultTypes = #[tb]) (hb : P.underlying tb = some .bool)
    (hW : DataW.Whole enc P fn.params.toList s.vars apart W args.toList ds gs before) (hbl : Below W.heap.size W W') : s.post enc P fn apart fresh handsOn false W args (.bool true) W' := by
  obtain ⟨p, q, hA, hV, _⟩ := id hW
  refine ⟨ds, gs, before, [], p, [], hW, ?_, ?_, ?_, Below.frame hbl _, fun h => by cases h⟩
  · rw [hfn, ht]; exact trodAll_mk1 (shut_bool hb true)
  · rw [hfn]; exact TrodAll_below hl hbl hr hA
  · rw [hfn, hv]; rfl
/-! ### what comes in -/
end
def Opens {α : Type} (P : Program) (t : TypeId) (k : Nat) (R : Ghost → α → List Value → Prop) : Prop := P.cellsOf t = k ∧
  ∀ (H : Type) (enc : TypeId × Value → H) (w : World) (base : Nat) (spare : Nat → Bool) (held : Bool) (fuel : Nat) (cs : List Value) (x : DataW H × List MemPlace), DataW.trod enc P w base spare held fuel t cs = some x → ∃ a, R (Ghost.of w) a cs
section
variable {P : Program} {t : TypeId}
theorem Opens.int {k : IntKind} (hc : P.cellsOf t = 1) (ht : P.underlying t = some (.int k)) : Opens P t 1 fun _ (n : Int) cs => cs = [.int k n] ∧ (Lit.int k n).wf = true :=
  ⟨hc, fun _ _ _ _ _ _ _ _ _ h => let ⟨n, e, _, hw⟩ := DataW.trod_int ht h; ⟨n, e, hw⟩⟩
theorem Opens.bool (hc : P.cellsOf t = 1) (ht : P.underlying t = some .bool) : Opens P t 1 fun _ (b : Bool) cs => cs = [.bool b] :=
  ⟨hc, fun _ _ _ _ _ _ _ _ _ h => let ⟨b, e, _⟩ := DataW.trod_bool ht h; ⟨b, e⟩⟩
theorem Opens.string (hc : P.cellsOf t = 1) (ht : P.underlying t = some .string) : Opens P t 1 fun _ (s : ByteArray) cs => cs = [.string s] ∧ s.size ≤ maxLen :=
  ⟨hc, fun _ _ _ _ _ _ _ _ _ h => let ⟨s, e, _, hs⟩ := DataW.trod_string ht h; ⟨s, e, hs⟩⟩
theorem Opens.map {α β : Type} {k : Nat} {R : Ghost → α → List Value → Prop} {R' : Ghost → β → List Value → Prop} (f : α → β) (H : Opens P t k R) (hR : ∀ h a cs, R h a cs → R' h (f a) cs) : Opens P t k R' :=
  ⟨H.1, fun H' enc w base spare held fuel cs x h => let ⟨a, ha⟩ := H.2 H' enc w base spare held fuel cs x h; ⟨f a, hR _ _ _ ha⟩⟩
theorem choose_list {α : Type} {n : Nat} {p : Nat → α → Prop} (h : ∀ i, i < n → ∃ a, p i a) : ∃ l : List α, l.length = n ∧ ∀ i a, l[i]? = some a → p i a := by
  induction n with
  | zero => exact ⟨[], rfl, fun i a e => by simp at e⟩
  | succ n ih =>
    obtain ⟨l, hl, hp⟩ := ih fun i hi => h i (by omega)
    obtain ⟨a, ha⟩ := h n (by omega)
    refine ⟨l ++ [a], by simp [hl], fun i b e => ?_⟩
    rcases Nat.lt_or_ge i n with hi | hi
    · rw [List.getElem?_append_left (by omega)] at e; exact hp i b e
    · rw [List.getElem?_append_right (by omega)] at e
      have : i = n := by
        have := (List.getElem?_eq_some_iff.1 e).1
        simp at this; omega
      subst this
      simp [hl] at e; subst e; exact ha
theorem Opens.slice {α : Type} {k : Nat} {e : TypeId} {R : Ghost → α → List Value → Prop} (hc : P.cellsOf t = 1) (ht : P.underlying t = some (.slice e)) (he : Opens P e k R) (hk : 0 < k) :
    Opens P t 1 fun h (l : List α) cs => ∃ v, cs = [v] ∧ Sl h (R h) k v l ∧ l.length ≤ maxLen := by
  refine ⟨hc, fun H enc w base spare held fuel cs x h => ?_⟩
  rcases open_slice ht h with ⟨rfl, _⟩ | ⟨a, len, cap, m, n, D, Pl, rfl, hb, hl, hm, hmm, _, hx⟩
  · exact ⟨[], _, rfl, Sl.nil _ _ _ _ _, Nat.zero_le _⟩
  · have hlm : len ≤ m := by rw [hmm]; split <;> omega
    have key : ∀ i, i < len → ∃ y, ∃ vs, R (Ghost.of w) y vs ∧ vs.length = k ∧ ∀ j, j < k → w.cell? ((a.add (i * k)).add j) = vs[j]? := fun i hi => by
      obtain ⟨cs', h1, h2⟩ := hx i (by omega)
      rw [he.1] at h1
      obtain ⟨_, hlen, hat⟩ := World.cells?_some h1
      obtain ⟨y, hy⟩ := he.2 H enc w base spare held n cs' _ h2
      exact ⟨y, cs', hy, hlen, hat⟩
    obtain ⟨l, hll, hp⟩ := choose_list key
    refine ⟨l, _, rfl, ⟨some a, cap, by rw [hll], by omega, ?_⟩, by omega⟩
    rcases Nat.eq_zero_or_pos len with h0 | h0
    · exact .inl (List.eq_nil_of_length_eq_zero (by omega))
    · right
      have hspot : a = ⟨a.block, a.off, none⟩ := by
        obtain ⟨y, hy⟩ : ∃ y, l[0]? = some y := ⟨_, List.getElem?_eq_getElem (by omega)⟩
        obtain ⟨vs, _, hvl, hat⟩ := hp 0 y hy
        have h1 := hat 0 hk
        rw [List.getElem?_eq_getElem (by omega)] at h1
        have e0 : (a.add (0 * k)).add 0 = a := by simp [Addr.add]
        rw [e0] at h1
        unfold World.cell? at h1
        split at h1
        · cases hs : a.spot with
          | none => cases a; simp_all
          | some z => rw [hs] at h1; simp at h1
        · cases h1
      refine ⟨a.block, a.off, by rw [← hspot], fun i y hy => ?_⟩
      obtain ⟨vs, h1, h2, hat⟩ := hp i y hy
      refine ⟨vs, h1, h2, fun j v hv => cell_ghost ?_⟩
      have hj : j < k := by rw [← h2]; exact (List.getElem?_eq_some_iff.1 hv).1
      have := hat j hj
      rw [hspot, Addr.add_eq, Addr.add_eq] at this
      rw [this]; exact hv
/-- the fields of a struct, from the i-th on, which lies at o -/
def OpensF {α : Type} (P : Program) (fs : Array Field) (_i o k : Nat) (R : Ghost → α → List Value → Prop) : Prop :=
  ∀ (H : Type) (enc : TypeId × Value → H) (w : World) (base : Nat) (spare : Nat → Bool) (held : Bool) (fuel : Nat) (cs : List Value) (xs : List (DataW H × List MemPlace)), xs.length = fs.size → cs.length = o + k →
    (∀ (j : Nat) (f : Field), fs[j]? = some f → DataW.trod enc P w base spare held fuel f.type ((cs.drop f.offset).take (P.cellsOf f.type)) = xs[j]?) → ∃ a, R (Ghost.of w) a (cs.drop o)
theorem OpensF.nil {fs : Array Field} {i o : Nat} : OpensF P fs i o 0 fun _ (_ : Unit) cs => cs = [] :=
  fun _ _ _ _ _ _ _ cs _ _ hc _ => ⟨(), List.drop_eq_nil_of_le (by omega)⟩
theorem OpensF.cons {α β : Type} {fs : Array Field} {i o k kf k' : Nat} {f : Field} {R : Ghost → α → List Value → Prop} {R' : Ghost → β → List Value → Prop} (hf : fs[i]? = some f) (ho : f.offset = o) (h1 : Opens P f.type kf R) (h2 : OpensF P fs (i + 1) (o + kf) k R') (hk : k' = k + kf := by rfl) :
    OpensF P fs i o k' fun h (a : α × β) cs => ∃ us vs, cs = us ++ vs ∧ us.length = kf ∧ R h a.1 us ∧ R' h a.2 vs := by
  subst hk
  intro H enc w base spare held fuel cs xs hx hc hall
  have hi : i < xs.length := by rw [hx]; exact (Array.getElem?_eq_some_iff.1 hf).1
  have e1 := hall i f hf
  rw [List.getElem?_eq_getElem hi, ho, h1.1] at e1
  obtain ⟨a, ha⟩ := h1.2 H enc w base spare held fuel _ _ e1
  obtain ⟨b, hb⟩ := h2 H enc w base spare held fuel cs xs hx (by omega) hall
  refine ⟨(a, b), _, _, ?_, ?_, ha, hb⟩
  · rw [← List.drop_drop, List.take_append_drop]
  · simp; omega
theorem Opens.struct {α : Type} {k : Nat} {fs : Array Field} {R : Ghost → α → List Value → Prop} (hc : P.cellsOf t = k) (ht : P.underlying t = some (.struct fs)) (h : OpensF P fs 0 0 k R) : Opens P t k R := by
  refine ⟨hc, fun H enc w base spare held fuel cs x hx => ?_⟩
  obtain ⟨xs, n, _, _, hl, hxl, hall⟩ := DataW.trod_struct ht hx
  obtain ⟨a, ha⟩ := h H enc w base spare held n cs xs hxl (by omega) hall
  exact ⟨a, by simpa using ha⟩
/-- an argument -/
theorem Opens.arg {α : Type} {k : Nat} {R : Ghost → α → List Value → Prop} {H : Type} {enc : TypeId × Value → H} {w : World} {base : Nat} {spare : Nat → Bool} {held : Bool} {v : Value} {d : DataW H} {p : List MemPlace} (h : Opens P t k R) (ht : DataW.Trod enc P w base spare held t v d p) :
    ∃ a, R (Ghost.of w) a v.cells.toList := let ⟨fuel, hf⟩ := ht; h.2 H enc w base spare held fuel _ _ hf
end
theorem shapedOpen_mono {P : Program} {w w' : World} (h : ∀ (b : Nat) (o : Obj), w.heap[b]? = some o → w'.heap[b]? = some o) (H : w.ShapedOpen P) : w'.ShapedOpen P := by
  have hs : ∀ b x, w.shape? b = some x → w'.shape? b = some x := fun b x hx => by
    unfold World.shape? at hx ⊢
    cases hb : w.heap[b]? with
    | none => rw [hb] at hx; cases hx
    | some o => rw [hb] at hx; rw [h b o hb]; exact hx
  refine ⟨fun g zero t hg hz => ?_, fun k h1 h2 => ?_⟩
  · obtain ⟨cs, e1, e2, e3⟩ := H.1 g zero t hg hz
    exact ⟨cs, h _ _ e1, e2, fun hb => Row.ok_of_shape hs (e3 hb)⟩
  · obtain ⟨o, o0, e1, e2, e3⟩ := H.2 k h1 h2
    exact ⟨o, o0, h _ _ e1, e2, e3⟩
theorem TrodAll_len {H : Type} {enc : TypeId × Value → H} {P : Program} {w : World} {base : Nat} {spare : Nat → Bool} {held : Bool} : ∀ {ts : List TypeId} {vs : List Value} {ds : List (DataW H)} {ps : List MemPlace}, DataW.TrodAll enc P w base spare held ts vs ds ps → ds.length = ts.length
  | [], [], [], _, _ => rfl
  | t :: ts, v :: vs, d :: ds, ps, h => by
    obtain ⟨p, q, _, h2, _⟩ := h
    simp [TrodAll_len h2]
  | [], [], _ :: _, _, h => h.elim
  | [], _ :: _, _, _, h => h.elim
  | _ :: _, [], _, _, h => h.elim
  | _ :: _, _ :: _, [], _, h => h.elim
/-- THE ROW OF A LAW out of its contract -/
theorem returns_true {H : Type} {enc : TypeId × Value → H} {a : Assume} {C : Checked} {os : Os} {f : FuncId} {fn : Func} {s : ChangeSpec} {tb : TypeId} {apart fresh handsOn : Bool} {X : World → Array Value → Prop}
    (hX : ∀ (w w' : World) (args : Array Value), w.heap = w'.heap → X w args → X w' args)
    (own : ownKnob C.prog.godebug = none) (started : os.Started) (noInit : C.prog.inits.idxOf? f = none) (hfn : C.prog.funcs[f]? = some fn)
    (hl : laidOutB C.prog = true) (hr : ∀ t ∈ fn.params.toList, C.prog.readableRec t = true ∧ t < C.prog.types.size) (hv : s.vars = []) (hs : ∀ (ds : List (DataW H)), ds.length = fn.params.size → s.fn H ds = { results := [.lit (.bool true)], args := ds }) (ht : fn.resultTypes = #[tb]) (hb : C.prog.underlying tb = some .bool)
    (witness : ∃ (w : World) (tape : Tape) (i : Input), w.os = os ∧ (w.forCall tape i).Shaped C.prog ∧ i.vars = [] ∧ Input.okWide C.prog (w.forCall tape i) .any w.heap.size f i ∧
      ((s.pre enc C.prog fn [] apart (w.forCall tape i).memory i.args ∧ X (w.forCall tape i).memory i.args) ∧ sizedMet enc C.prog fn (OpenSpec.ofChange s) apart (w.forCall tape i).memory i.args) ∧ a.holds C.prog (lone (Frame.enter C.prog f i.args .normal) [] (w.forCall tape i)))
    (spec : ∀ (W : World) (base : Nat) (args : Array Value) (ds : List (DataW H)) (p : List MemPlace), (∀ (j : Nat) t v, fn.params[j]? = some t → args[j]? = some v → Value.okWide C.prog W .any base t v) →
      DataW.TrodAll enc C.prog W 0 (fun _ => true) true fn.params.toList args.toList ds p → W.ShapedOpen C.prog → X W args → SpecV C.prog f args.toList (Ghost.of W) (.bool true)) :
    ReturnsInHanded a C os f .any (fun w args => (s.pre enc C.prog fn [] apart w args ∧ X w args) ∧ sizedMet enc C.prog fn (OpenSpec.ofChange s) apart w args) (s.post enc C.prog fn apart fresh handsOn false) := by
  refine returnsInHanded_laid hX own started noInit hfn witness ?_
  intro W base args ds gs before hval hW _ _ hx hsh
  have hW' := hW
  obtain ⟨p, q, hA, hV, _⟩ := hW
  rw [hv] at hV
  have hgs : gs = [] := by
    cases gs with
    | nil => rfl
    | cons g r => exact absurd hV (by intro h; cases h)
  subst hgs
  have hc := (spec W base args ds p hval hA hsh hx).calls
  refine hc.mono fun e W' ⟨v, h', he, hp, hbl⟩ => ?_
  subst hp
  refine ⟨_, he, post_true hl hr hv ?_ ht hb hW' hbl⟩
  rw [List.append_nil]
  exact hs ds (by rw [TrodAll_len hA]; simp)
end Go.Sx

namespace Go.Proofs.YtgpmjggdloldnaaGreatDoor
open Go Go.Sx Go.ChangeShapes Go.WideShapes Go.RowKit
set_option maxRecDepth 100000
theorem Gl.of {W : World} (h : W.ShapedOpen Tryz.prog) : Gl (Ghost.of W) := fun _ _ _ H => shapedOpen_mono (fun b o e => H.imm b o e) h
theorem opInt : Opens Tryz.prog 3 1 fun _ (n : Int) cs => cs = [.int .i64 n] ∧ (Lit.int .i64 n).wf = true := Opens.int (by kernel_rfl) Tryz.underlying3
theorem opErr : Opens Tryz.prog 9 1 fun _ (s : ByteArray) cs => cs = [.string s] ∧ s.size ≤ maxLen := Opens.string (by kernel_rfl) Tryz.underlying9
theorem opAtom : Opens Tryz.prog 37 6 fun _ (a : Atom) cs => cs = a.enc := by
  refine Opens.map (fun (x : Int × ByteArray × ByteArray × ByteArray × Int × Int × Unit) => (⟨x.1, x.2.1, x.2.2.1, x.2.2.2.1, x.2.2.2.2.1, x.2.2.2.2.2.1⟩ : Atom))
    (Opens.struct (by kernel_rfl) Tryz.underlying37 (.cons rfl rfl opInt (.cons rfl rfl opErr (.cons rfl rfl opErr (.cons rfl rfl opErr (.cons rfl rfl opInt (.cons rfl rfl opInt .nil))))))) ?_
  rintro h ⟨k, n, x, y, lo, hi, _⟩ cs ⟨_, _, rfl, _, ⟨rfl, _⟩, _, _, rfl, _, ⟨rfl, _⟩, _, _, rfl, _, ⟨rfl, _⟩, _, _, rfl, _, ⟨rfl, _⟩, _, _, rfl, _, ⟨rfl, _⟩, _, _, rfl, _, ⟨rfl, _⟩, rfl⟩
  rfl
theorem opAtoms : Opens Tryz.prog 22 1 fun h (l : List Atom) cs => ∃ v, cs = [v] ∧ Atoms h v l :=
  (Opens.slice (by kernel_rfl) Tryz.underlying22 opAtom (by decide)).map id fun _ _ _ ⟨v, e, hs, _⟩ => ⟨v, e, hs⟩
theorem opStrs : Opens Tryz.prog 25 1 fun h (l : List ByteArray) cs => ∃ v, cs = [v] ∧ Strs h v l :=
  (Opens.slice (by kernel_rfl) Tryz.underlying25 opErr (by decide)).map id fun _ _ _ ⟨v, e, hs, _⟩ => ⟨v, e, hs.mono (Ghost.le.refl _) fun _ _ _ e => e.1⟩
theorem opPart : Opens Tryz.prog 24 1 fun h (l : List Atom) cs => ∃ v, cs = [v] ∧ Atoms h v l := by
  refine Opens.map (fun (x : List Atom × Unit) => x.1) (Opens.struct (by kernel_rfl) Tryz.underlying24 (.cons rfl rfl opAtoms .nil)) ?_
  rintro h ⟨l, _⟩ cs ⟨_, _, rfl, _, ⟨v, rfl, hv⟩, rfl⟩
  exact ⟨v, rfl, hv⟩
section
variable {H : Type} {enc : TypeId × Value → H} {w : World} {base b0 : Nat} {spare : Nat → Bool} {held : Bool} {r : Reach} {v : Value} {d : DataW H} {p : List MemPlace}
theorem arg_part (hval : Value.okWide Tryz.prog w r b0 24 v) (h : DataW.Trod enc Tryz.prog w base spare held 24 v d p) : ∃ av l, v = .agg #[av] ∧ Atoms (Ghost.of w) av l := by
  obtain ⟨cs, rfl, _⟩ := okWide_struct Tryz.underlying24 hval
  obtain ⟨l, av, e, ha⟩ := opPart.arg h
  refine ⟨av, l, ?_, ha⟩
  have e : cs.toList = [av] := e
  congr 1
  exact Array.toList_inj.1 (by rw [e])
theorem arg_strs (hval : Value.okWide Tryz.prog w r b0 25 v) (h : DataW.Trod enc Tryz.prog w base spare held 25 v d p) : ∃ l, Strs (Ghost.of w) v l := by
  obtain ⟨a, n, c, rfl⟩ := okWide_slice Tryz.underlying25 hval
  obtain ⟨l, av, e, ha⟩ := opStrs.arg h
  have e : [Value.slice a n c] = [av] := e
  have e : av = .slice a n c := by simpa using e.symm
  exact ⟨l, e ▸ ha⟩
end
theorem own : ownKnob Tryz.prog.godebug = none := by kernel_rfl
theorem laidOut : laidOutB Tryz.prog = true := by kernel_rfl
end Go.Proofs.YtgpmjggdloldnaaGreatDoor
