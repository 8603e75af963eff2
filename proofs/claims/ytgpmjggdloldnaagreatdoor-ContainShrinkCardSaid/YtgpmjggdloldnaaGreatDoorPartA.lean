/-
  Contracts and plain lemmas, joined: T2, T3, T4, T5, T6, T7, T8
-/
import Derived.Test.YtgpmjggdloldnaaGreatDoorFacts
import Derived.Test.YtgpmjggdloldnaaGreatDoorLogicA
import Derived.Test.YtgpmjggdloldnaaGreatDoorShelf
import Derived.Lib.RowBridge
import Derived.Test.YtgpmjggdloldnaaGreatDoorLogicB
namespace Go.Proofs.YtgpmjggdloldnaaGreatDoor
open Go Go.Sx
set_option maxRecDepth 100000
def letterB (c : UInt8) : Bool := (97 ≤ c && c ≤ 122) || (65 ≤ c && c ≤ 90)
theorem letterB_eq (c : UInt8) : letterB c = ((decide (97 ≤ (c.toNat : Int)) && decide ((c.toNat : Int) ≤ 122)) || (decide (65 ≤ (c.toNat : Int)) && decide ((c.toNat : Int) ≤ 90))) := by
  unfold letterB
  rw [Bool.eq_iff_iff]
  simp [UInt8.le_iff_toNat_le]
  omega
theorem isLetter_spec (c : UInt8) (h : Ghost) : SpecV Tryz.prog 133 [.int .u8 c.toNat] h (.bool (letterB c)) := by
  refine SpecP.enter cl133 Tryz.func133 rfl Tryz.ntmps133 rfl fun E R => ?_
  refine Wc.seq ?_
  refine Wc.region ?_
  refine Wl.assign rfl rfl ?_
  refine Wl.nil ?_
  refine Wx.then_code ?_
  refine Wc.seq ?_
  refine Wc.region ?_
  refine Wl.move rfl rfl ?_
  refine Wl.iLeq rfl rfl rfl ?_
  refine Wl.move rfl rfl ?_
  apply Wl.andB (l1 := [_, _, _]) (i := 5) (d := 8)
  · rfl
  · intro hg1
    refine Wl.guardYes rfl rfl ?_
    refine Wl.move rfl rfl ?_
    refine Wl.guardYes rfl rfl ?_
    refine Wl.iLeq rfl rfl rfl ?_
    refine Wl.pickT rfl rfl rfl ?_
    refine Wl.nil ?_
    exact Wx.reach (.cons rfl (.skip rfl (.skip rfl (.skip rfl (.same rfl (by rw [hg1]) (.refl _))))))
  · intro hg1
    refine Wl.guardNo rfl rfl rfl rfl ?_
    refine Wl.guardNo rfl rfl rfl rfl ?_
    refine Wl.pickF rfl rfl rfl ?_
    refine Wl.nil ?_
    exact Wx.reach (.cons rfl (.skip rfl (.skip rfl (.skip rfl (.same rfl (by rw [hg1]) (.refl _))))))
  refine Wl.move rfl rfl ?_
  apply Wl.orB (l1 := [_, _, _, _, _, _, _]) (i := 9) (d := 16)
  · rfl
  · intro hg2
    refine Wl.guardNo rfl rfl rfl rfl ?_
    refine Wl.guardNo rfl rfl rfl rfl ?_
    refine Wl.guardNo rfl rfl rfl rfl ?_
    refine Wl.guardUndef rfl rfl rfl ?_
    refine Wl.guardUndef rfl rfl rfl ?_
    refine Wl.guardNo rfl rfl rfl rfl ?_
    refine Wl.pickT rfl rfl rfl ?_
    refine Wl.nil ?_
    exact Wx.reach (.cons rfl (.skip rfl (.skip rfl (.skip rfl (.skip rfl (.skip rfl (.skip rfl (.skip rfl (.same rfl (by rw [hg2]) (.refl _))))))))))
  · intro hg2
    refine Wl.guardYes rfl rfl ?_
    refine Wl.move rfl rfl ?_
    refine Wl.guardYes rfl rfl ?_
    refine Wl.iLeq rfl rfl rfl ?_
    refine Wl.guardYes rfl rfl ?_
    refine Wl.move rfl rfl ?_
    apply Wl.andB (l1 := [_, _, _]) (i := 12) (d := 15)
    · rfl
    · intro hg3
      refine Wl.guardYes rfl rfl ?_
      refine Wl.move rfl rfl ?_
      refine Wl.guardYes rfl rfl ?_
      refine Wl.iLeq rfl rfl rfl ?_
      refine Wl.guardYes rfl rfl ?_
      refine Wl.pickT rfl rfl rfl ?_
      refine Wl.nil ?_
      exact Wx.reach (.cons rfl (.skip rfl (.skip rfl (.skip rfl (.same rfl (by rw [hg3]) (.refl _))))))
    · intro hg3
      refine Wl.guardNo rfl rfl rfl rfl ?_
      refine Wl.guardNo rfl rfl rfl rfl ?_
      refine Wl.guardYes rfl rfl ?_
      refine Wl.pickF rfl rfl rfl ?_
      refine Wl.nil ?_
      exact Wx.reach (.cons rfl (.skip rfl (.skip rfl (.skip rfl (.same rfl (by rw [hg3]) (.refl _))))))
    refine Wl.pickF rfl rfl rfl ?_
    refine Wl.nil ?_
    exact Wx.reach (.cons rfl (.skip rfl (.skip rfl (.skip rfl (.skip rfl (.skip rfl (.same rfl (by rw [hg2]) (.refl _))))))))
  refine Wl.assign rfl rfl ?_
  refine Wl.nil ?_
  refine Wx.then_code ?_
  refine Wc.ret ?_
  exact endV .ret (.inl rfl) rfl rfl [] (Ghost.le.refl _) (by rw [letterB_eq])
theorem queryLetter_spec (c : UInt8) (h : Ghost) : SpecV Tryz.prog 92 [.int .u8 c.toNat] h (.bool (letterB c)) := by
  refine SpecP.enter cl92 Tryz.func92 rfl Tryz.ntmps92 rfl fun E R => ?_
  refine Wc.seq ?_
  refine Wc.region ?_
  refine Wl.assign rfl rfl ?_
  refine Wl.nil ?_
  refine Wx.then_code ?_
  refine Wc.seq ?_
  refine Wc.region ?_
  refine Wl.move rfl rfl ?_
  refine Wl.iGeq rfl rfl rfl ?_
  refine Wl.move rfl rfl ?_
  apply Wl.andB (l1 := [_, _, _]) (i := 5) (d := 8)
  · rfl
  · intro hg1
    refine Wl.guardYes rfl rfl ?_
    refine Wl.move rfl rfl ?_
    refine Wl.guardYes rfl rfl ?_
    refine Wl.iLeq rfl rfl rfl ?_
    refine Wl.pickT rfl rfl rfl ?_
    refine Wl.nil ?_
    exact Wx.reach (.cons rfl (.skip rfl (.skip rfl (.skip rfl (.same rfl (by rw [hg1]) (.refl _))))))
  · intro hg1
    refine Wl.guardNo rfl rfl rfl rfl ?_
    refine Wl.guardNo rfl rfl rfl rfl ?_
    refine Wl.pickF rfl rfl rfl ?_
    refine Wl.nil ?_
    exact Wx.reach (.cons rfl (.skip rfl (.skip rfl (.skip rfl (.same rfl (by rw [hg1]) (.refl _))))))
  refine Wl.move rfl rfl ?_
  apply Wl.orB (l1 := [_, _, _, _, _, _, _]) (i := 9) (d := 16)
  · rfl
  · intro hg2
    refine Wl.guardNo rfl rfl rfl rfl ?_
    refine Wl.guardNo rfl rfl rfl rfl ?_
    refine Wl.guardNo rfl rfl rfl rfl ?_
    refine Wl.guardUndef rfl rfl rfl ?_
    refine Wl.guardUndef rfl rfl rfl ?_
    refine Wl.guardNo rfl rfl rfl rfl ?_
    refine Wl.pickT rfl rfl rfl ?_
    refine Wl.nil ?_
    exact Wx.reach (.cons rfl (.skip rfl (.skip rfl (.skip rfl (.skip rfl (.skip rfl (.skip rfl (.skip rfl (.same rfl (by rw [hg2]) (.refl _))))))))))
  · intro hg2
    refine Wl.guardYes rfl rfl ?_
    refine Wl.move rfl rfl ?_
    refine Wl.guardYes rfl rfl ?_
    refine Wl.iGeq rfl rfl rfl ?_
    refine Wl.guardYes rfl rfl ?_
    refine Wl.move rfl rfl ?_
    apply Wl.andB (l1 := [_, _, _]) (i := 12) (d := 15)
    · rfl
    · intro hg3
      refine Wl.guardYes rfl rfl ?_
      refine Wl.move rfl rfl ?_
      refine Wl.guardYes rfl rfl ?_
      refine Wl.iLeq rfl rfl rfl ?_
      refine Wl.guardYes rfl rfl ?_
      refine Wl.pickT rfl rfl rfl ?_
      refine Wl.nil ?_
      exact Wx.reach (.cons rfl (.skip rfl (.skip rfl (.skip rfl (.same rfl (by rw [hg3]) (.refl _))))))
    · intro hg3
      refine Wl.guardNo rfl rfl rfl rfl ?_
      refine Wl.guardNo rfl rfl rfl rfl ?_
      refine Wl.guardYes rfl rfl ?_
      refine Wl.pickF rfl rfl rfl ?_
      refine Wl.nil ?_
      exact Wx.reach (.cons rfl (.skip rfl (.skip rfl (.skip rfl (.same rfl (by rw [hg3]) (.refl _))))))
    refine Wl.pickF rfl rfl rfl ?_
    refine Wl.nil ?_
    exact Wx.reach (.cons rfl (.skip rfl (.skip rfl (.skip rfl (.skip rfl (.skip rfl (.same rfl (by rw [hg2]) (.refl _))))))))
  refine Wl.assign rfl rfl ?_
  refine Wl.nil ?_
  refine Wx.then_code ?_
  refine Wc.ret ?_
  exact endV .ret (.inl rfl) rfl rfl [] (Ghost.le.refl _) (by rw [letterB_eq])

def innerB (c : UInt8) : Bool := letterB c || c == 95 || (48 ≤ c && c ≤ 57)
theorem innerB_eq (c : UInt8) : innerB c = !((!letterB c && ((c.toNat : Int) != 95)) && (decide ((c.toNat : Int) < 48) || decide (57 < (c.toNat : Int)))) := by
  unfold innerB
  cases letterB c
  · rw [Bool.eq_iff_iff]
    have : (c == 95) = decide (c.toNat = 95) := by
      rw [Bool.eq_iff_iff]; simp [← UInt8.toNat_inj]
    simp [UInt8.le_iff_toNat_le, this]
    omega
  · simp
def tailB (l : List UInt8) : Bool := l.all innerB
theorem isTail_spec (s : ByteArray) (h : Ghost) (hs : s.size ≤ 9223372036854775806) : SpecV Tryz.prog 125 [.string s] h (.bool (tailB s.data.toList)) := by
  refine SpecP.enter cl125 Tryz.func125 rfl Tryz.ntmps125 rfl fun E R => ?_
  refine Wc.seq ?_
  refine Wc.region ?_
  refine Wl.assign rfl rfl ?_
  refine Wl.nil ?_
  refine Wx.then_code ?_
  refine Wc.seq ?_
  refine Wc.seq ?_
  refine Wc.region ?_
  refine Wl.move rfl rfl ?_
  refine Wl.bytes Tryz.underlying9 Tryz.underlying176 Tryz.underlying5 rfl rfl fun b cap h1 hl1 hseg => ?_
  refine Wl.slLen Tryz.underlying176 rfl rfl ?_
  refine Wl.move rfl rfl ?_
  refine Wl.nil ?_
  refine Wx.then_code ?_
  refine Wc.block ?_
  refine Wc.loop (ι := Nat) (fun i => i ≤ s.size ∧ (s.data.toList.take i).all innerB = true) (fun i => [(8, .int .i64 i), (7, .int .i64 s.size), (6, .slice (some ⟨b, 0, none⟩) s.size cap)]) (fun _ => h1) (fun _ => R) (fun i => s.size - i) 0
    ⟨Nat.zero_le _, rfl⟩ (.cons rfl (.cons rfl (.cons rfl (.nil _)))) rfl rfl fun i ⟨hi, hall⟩ => ?_
  refine Wc.seq ?_
  refine Wc.region ?_
  refine Wl.iLss rfl rfl rfl ?_
  refine Wl.nil ?_
  refine Wx.then_code ?_
  refine Wc.seq ?_
  refine Wc.condS rfl (fun hc1 => ?_) (fun hc1 => ?_)
  refine Wc.skip ?_
  refine Wx.then_code ?_
  refine Wc.seq ?_
  refine Wc.block ?_
  refine Wc.seq ?_
  refine Wc.region ?_
  have hlt : i < s.size := by simpa using hc1
  refine Wl.elem sl176 rfl rfl rfl hlt rfl ?_
  obtain ⟨c, hc⟩ : ∃ c, s.data.toList[i]? = some c := ⟨_, List.getElem?_eq_getElem (by simpa using hlt)⟩
  refine Wl.loadG (v := byteV c) ty5 rfl (by simpa using hseg i (byteV c) (by simp [hc])) rfl ?_
  refine Wl.assign rfl rfl ?_
  refine Wl.nil ?_
  refine Wx.then_code ?_
  refine Wc.seq ?_
  refine Wc.region ?_
  refine Wl.move rfl rfl ?_
  refine Wl.callV rfl rfl rfl (isLetter_spec c h1) ?_
  refine Wl.not rfl rfl ?_
  refine Wl.move rfl rfl ?_
  apply Wl.andB (l1 := [_, _, _]) (i := 15) (d := 18)
  · rfl
  · intro hg2
    refine Wl.guardYes rfl rfl ?_
    refine Wl.move rfl rfl ?_
    refine Wl.guardYes rfl rfl ?_
    refine Wl.iNeq rfl rfl rfl ?_
    refine Wl.pickT rfl rfl rfl ?_
    refine Wl.nil ?_
    exact Wx.reach (.cons rfl (.skip rfl (.skip rfl (.skip rfl (.same rfl (by rw [hg2]) (.refl _))))))
  · intro hg2
    refine Wl.guardNo rfl rfl rfl rfl ?_
    refine Wl.guardNo rfl rfl rfl rfl ?_
    refine Wl.pickF rfl rfl rfl ?_
    refine Wl.nil ?_
    exact Wx.reach (.cons rfl (.skip rfl (.skip rfl (.skip rfl (.same rfl (by rw [hg2]) (.refl _))))))
  refine Wl.move rfl rfl ?_
  apply Wl.andB (l1 := [_, _, _, _, _, _, _]) (i := 19) (d := 26)
  · rfl
  · intro hg3
    refine Wl.guardYes rfl rfl ?_
    refine Wl.move rfl rfl ?_
    refine Wl.guardYes rfl rfl ?_
    refine Wl.iLss rfl rfl rfl ?_
    refine Wl.guardYes rfl rfl ?_
    refine Wl.move rfl rfl ?_
    apply Wl.orB (l1 := [_, _, _]) (i := 22) (d := 25)
    · rfl
    · intro hg4
      refine Wl.guardNo rfl rfl rfl rfl ?_
      refine Wl.guardNo rfl rfl rfl rfl ?_
      refine Wl.guardYes rfl rfl ?_
      refine Wl.pickT rfl rfl rfl ?_
      refine Wl.nil ?_
      exact Wx.reach (.cons rfl (.skip rfl (.skip rfl (.skip rfl (.same rfl (by rw [hg4]) (.refl _))))))
    · intro hg4
      refine Wl.guardYes rfl rfl ?_
      refine Wl.move rfl rfl ?_
      refine Wl.guardYes rfl rfl ?_
      refine Wl.iGtr rfl rfl rfl ?_
      refine Wl.guardYes rfl rfl ?_
      refine Wl.pickF rfl rfl rfl ?_
      refine Wl.nil ?_
      exact Wx.reach (.cons rfl (.skip rfl (.skip rfl (.skip rfl (.same rfl (by rw [hg4]) (.refl _))))))
    refine Wl.pickT rfl rfl rfl ?_
    refine Wl.nil ?_
    exact Wx.reach (.cons rfl (.skip rfl (.skip rfl (.skip rfl (.skip rfl (.skip rfl (.same rfl (by rw [hg3]) (.refl _))))))))
  · intro hg3
    refine Wl.guardNo rfl rfl rfl rfl ?_
    refine Wl.guardNo rfl rfl rfl rfl ?_
    refine Wl.guardNo rfl rfl rfl rfl ?_
    refine Wl.guardUndef rfl rfl rfl ?_
    refine Wl.guardUndef rfl rfl rfl ?_
    refine Wl.guardNo rfl rfl rfl rfl ?_
    refine Wl.pickF rfl rfl rfl ?_
    refine Wl.nil ?_
    exact Wx.reach (.cons rfl (.skip rfl (.skip rfl (.skip rfl (.skip rfl (.skip rfl (.skip rfl (.skip rfl (.same rfl (by rw [hg3]) (.refl _))))))))))
  refine Wl.nil ?_
  refine Wx.then_code ?_
  refine Wc.condS rfl (fun hc5 => ?_) (fun hc5 => ?_)
  refine Wc.seq ?_
  refine Wc.region ?_
  refine Wl.assign rfl rfl ?_
  refine Wl.nil ?_
  refine Wx.then_code ?_
  refine Wc.ret ?_
  refine Wx.block_ret ?_
  refine Wx.then_ret ?_
  refine Wx.then_ret ?_
  refine Wx.block_ret ?_
  refine Wx.then_ret ?_
  · exact endV .ret (.inl rfl) rfl rfl [] hl1 (by
      have : innerB c = !true := (innerB_eq c).trans (congrArg _ hc5)
      have h2 : tailB s.data.toList = false := by
        unfold tailB; rw [List.all_eq_false]; exact ⟨c, List.mem_of_getElem? hc, by simp [this]⟩
      rw [h2])
  refine Wc.skip ?_
  refine Wx.block_normal ?_
  refine Wx.then_code ?_
  refine Wc.region ?_
  refine Wl.inc rfl rfl (by first | assumption | omega | (have hx := of_decide_eq_true hc5; omega) | (have hx := of_decide_eq_true hc1; omega)) ?_
  refine Wl.move rfl rfl ?_
  refine Wl.nil ?_
  · exact Wx.again (i + 1) ⟨hlt, by
      have : innerB c = !false := (innerB_eq c).trans (congrArg _ hc5)
      rw [List.take_add_one, hc]; simp [hall, this]⟩ (by omega) (.cons rfl (.cons rfl (.cons rfl (.nil _)))) rfl .refl
  refine Wc.exit ?_
  refine Wx.then_exit ?_
  refine Wx.then_exit ?_
  refine Wx.block_exit ?_
  refine Wx.then_code ?_
  refine Wc.seq ?_
  refine Wc.region ?_
  refine Wl.assign rfl rfl ?_
  refine Wl.nil ?_
  refine Wx.then_code ?_
  refine Wc.ret ?_
  exact endV .ret (.inl rfl) rfl rfl [] hl1 (by
    have : i = s.size := by
      have := of_decide_eq_false hc1
      omega
    have h2 : tailB s.data.toList = true := by
      unfold tailB; rw [this, List.take_of_length_le (show s.data.toList.length ≤ s.size from Nat.le_of_eq Array.length_toList)] at hall; exact hall
    rw [h2])

def kwords : List (List UInt8) := [[97, 110, 100], [115, 111, 109, 101], [105, 110], [116, 111], [110, 111, 116, 104, 105, 110, 103], [101, 118, 101, 114, 121, 116, 104, 105, 110, 103], [111, 110, 101], [111, 102], [111, 112, 101, 110], [112, 114, 105, 118, 97, 116, 101], [115, 117, 98], [115, 97, 109, 101], [100, 105, 115, 106, 111, 105, 110, 116], [100, 111, 109, 97, 105, 110], [114, 111, 108, 101], [99, 104, 97, 105, 110], [114, 101, 102, 108, 101, 120, 105, 118, 101], [116, 121, 112, 101], [108, 105, 110, 107], [115, 101, 108, 101, 99, 116], [119, 104, 101, 114, 101], [111, 114]]
def keywordB (s : ByteArray) : Bool := kwords.any fun k => s.toList == (⟨k.toArray⟩ : ByteArray).toList
theorem Keyword_spec (s : ByteArray) (h : Ghost) : SpecV Tryz.prog 134 [.string s] h (.bool (keywordB s)) := by
  refine SpecP.enter cl134 Tryz.func134 rfl Tryz.ntmps134 rfl fun E R => ?_
  refine Wc.seq ?_
  refine Wc.region ?_
  refine Wl.assign rfl rfl ?_
  refine Wl.nil ?_
  refine Wx.then_code ?_
  refine Wc.seq ?_
  refine Wc.seq ?_
  refine Wc.region ?_
  refine Wl.move rfl rfl ?_
  refine Wl.nil ?_
  refine Wx.then_code ?_
  refine Wc.block ?_
  refine Wc.seq ?_
  refine Wc.seq ?_
  refine Wc.region ?_
  refine Wl.sEql rfl rfl rfl ?_
  refine Wl.assign rfl rfl ?_
  refine Wl.nil ?_
  refine Wx.then_code ?_
  refine Wc.condS rfl (fun hc1 => ?_) (fun hc1 => ?_)
  refine Wc.skip ?_
  refine Wx.then_code ?_
  refine Wc.condT rfl ?_
  refine Wc.seq ?_
  refine Wc.region ?_
  refine Wl.assign rfl rfl ?_
  refine Wl.nil ?_
  refine Wx.then_code ?_
  refine Wc.ret ?_
  refine Wx.block_ret ?_
  refine Wx.then_ret ?_
  exact endV .ret (.inl rfl) rfl rfl [] (Ghost.le.refl _) (by simp only [keywordB, kwords, List.any_cons, List.any_nil, *, Bool.or_false, Bool.true_or])
  refine Wc.seq ?_
  refine Wc.region ?_
  refine Wl.sEql rfl rfl rfl ?_
  refine Wl.assign rfl rfl ?_
  refine Wl.nil ?_
  refine Wx.then_code ?_
  refine Wc.condS rfl (fun hc2 => ?_) (fun hc2 => ?_)
  refine Wc.skip ?_
  refine Wx.then_code ?_
  refine Wc.condT rfl ?_
  refine Wc.seq ?_
  refine Wc.region ?_
  refine Wl.assign rfl rfl ?_
  refine Wl.nil ?_
  refine Wx.then_code ?_
  refine Wc.ret ?_
  refine Wx.block_ret ?_
  refine Wx.then_ret ?_
  exact endV .ret (.inl rfl) rfl rfl [] (Ghost.le.refl _) (by simp only [keywordB, kwords, List.any_cons, List.any_nil, *, Bool.or_true, Bool.or_false, Bool.true_or])
  refine Wc.seq ?_
  refine Wc.region ?_
  refine Wl.sEql rfl rfl rfl ?_
  refine Wl.assign rfl rfl ?_
  refine Wl.nil ?_
  refine Wx.then_code ?_
  refine Wc.condS rfl (fun hc3 => ?_) (fun hc3 => ?_)
  refine Wc.skip ?_
  refine Wx.then_code ?_
  refine Wc.condT rfl ?_
  refine Wc.seq ?_
  refine Wc.region ?_
  refine Wl.assign rfl rfl ?_
  refine Wl.nil ?_
  refine Wx.then_code ?_
  refine Wc.ret ?_
  refine Wx.block_ret ?_
  refine Wx.then_ret ?_
  exact endV .ret (.inl rfl) rfl rfl [] (Ghost.le.refl _) (by simp only [keywordB, kwords, List.any_cons, List.any_nil, *, Bool.or_true, Bool.or_false, Bool.true_or])
  refine Wc.seq ?_
  refine Wc.region ?_
  refine Wl.sEql rfl rfl rfl ?_
  refine Wl.assign rfl rfl ?_
  refine Wl.nil ?_
  refine Wx.then_code ?_
  refine Wc.condS rfl (fun hc4 => ?_) (fun hc4 => ?_)
  refine Wc.skip ?_
  refine Wx.then_code ?_
  refine Wc.condT rfl ?_
  refine Wc.seq ?_
  refine Wc.region ?_
  refine Wl.assign rfl rfl ?_
  refine Wl.nil ?_
  refine Wx.then_code ?_
  refine Wc.ret ?_
  refine Wx.block_ret ?_
  refine Wx.then_ret ?_
  exact endV .ret (.inl rfl) rfl rfl [] (Ghost.le.refl _) (by simp only [keywordB, kwords, List.any_cons, List.any_nil, *, Bool.or_true, Bool.or_false, Bool.true_or])
  refine Wc.seq ?_
  refine Wc.region ?_
  refine Wl.sEql rfl rfl rfl ?_
  refine Wl.assign rfl rfl ?_
  refine Wl.nil ?_
  refine Wx.then_code ?_
  refine Wc.condS rfl (fun hc5 => ?_) (fun hc5 => ?_)
  refine Wc.skip ?_
  refine Wx.then_code ?_
  refine Wc.condT rfl ?_
  refine Wc.seq ?_
  refine Wc.region ?_
  refine Wl.assign rfl rfl ?_
  refine Wl.nil ?_
  refine Wx.then_code ?_
  refine Wc.ret ?_
  refine Wx.block_ret ?_
  refine Wx.then_ret ?_
  exact endV .ret (.inl rfl) rfl rfl [] (Ghost.le.refl _) (by simp only [keywordB, kwords, List.any_cons, List.any_nil, *, Bool.or_true, Bool.or_false, Bool.true_or])
  refine Wc.seq ?_
  refine Wc.region ?_
  refine Wl.sEql rfl rfl rfl ?_
  refine Wl.assign rfl rfl ?_
  refine Wl.nil ?_
  refine Wx.then_code ?_
  refine Wc.condS rfl (fun hc6 => ?_) (fun hc6 => ?_)
  refine Wc.skip ?_
  refine Wx.then_code ?_
  refine Wc.condT rfl ?_
  refine Wc.seq ?_
  refine Wc.region ?_
  refine Wl.assign rfl rfl ?_
  refine Wl.nil ?_
  refine Wx.then_code ?_
  refine Wc.ret ?_
  refine Wx.block_ret ?_
  refine Wx.then_ret ?_
  exact endV .ret (.inl rfl) rfl rfl [] (Ghost.le.refl _) (by simp only [keywordB, kwords, List.any_cons, List.any_nil, *, Bool.or_true, Bool.or_false, Bool.true_or])
  refine Wc.seq ?_
  refine Wc.region ?_
  refine Wl.sEql rfl rfl rfl ?_
  refine Wl.assign rfl rfl ?_
  refine Wl.nil ?_
  refine Wx.then_code ?_
  refine Wc.condS rfl (fun hc7 => ?_) (fun hc7 => ?_)
  refine Wc.skip ?_
  refine Wx.then_code ?_
  refine Wc.condT rfl ?_
  refine Wc.seq ?_
  refine Wc.region ?_
  refine Wl.assign rfl rfl ?_
  refine Wl.nil ?_
  refine Wx.then_code ?_
  refine Wc.ret ?_
  refine Wx.block_ret ?_
  refine Wx.then_ret ?_
  exact endV .ret (.inl rfl) rfl rfl [] (Ghost.le.refl _) (by simp only [keywordB, kwords, List.any_cons, List.any_nil, *, Bool.or_true, Bool.or_false, Bool.true_or])
  refine Wc.seq ?_
  refine Wc.region ?_
  refine Wl.sEql rfl rfl rfl ?_
  refine Wl.assign rfl rfl ?_
  refine Wl.nil ?_
  refine Wx.then_code ?_
  refine Wc.condS rfl (fun hc8 => ?_) (fun hc8 => ?_)
  refine Wc.skip ?_
  refine Wx.then_code ?_
  refine Wc.condT rfl ?_
  refine Wc.seq ?_
  refine Wc.region ?_
  refine Wl.assign rfl rfl ?_
  refine Wl.nil ?_
  refine Wx.then_code ?_
  refine Wc.ret ?_
  refine Wx.block_ret ?_
  refine Wx.then_ret ?_
  exact endV .ret (.inl rfl) rfl rfl [] (Ghost.le.refl _) (by simp only [keywordB, kwords, List.any_cons, List.any_nil, *, Bool.or_true, Bool.or_false, Bool.true_or])
  refine Wc.seq ?_
  refine Wc.region ?_
  refine Wl.sEql rfl rfl rfl ?_
  refine Wl.assign rfl rfl ?_
  refine Wl.nil ?_
  refine Wx.then_code ?_
  refine Wc.condS rfl (fun hc9 => ?_) (fun hc9 => ?_)
  refine Wc.skip ?_
  refine Wx.then_code ?_
  refine Wc.condT rfl ?_
  refine Wc.seq ?_
  refine Wc.region ?_
  refine Wl.assign rfl rfl ?_
  refine Wl.nil ?_
  refine Wx.then_code ?_
  refine Wc.ret ?_
  refine Wx.block_ret ?_
  refine Wx.then_ret ?_
  exact endV .ret (.inl rfl) rfl rfl [] (Ghost.le.refl _) (by simp only [keywordB, kwords, List.any_cons, List.any_nil, *, Bool.or_true, Bool.or_false, Bool.true_or])
  refine Wc.seq ?_
  refine Wc.region ?_
  refine Wl.sEql rfl rfl rfl ?_
  refine Wl.assign rfl rfl ?_
  refine Wl.nil ?_
  refine Wx.then_code ?_
  refine Wc.condS rfl (fun hc10 => ?_) (fun hc10 => ?_)
  refine Wc.skip ?_
  refine Wx.then_code ?_
  refine Wc.condT rfl ?_
  refine Wc.seq ?_
  refine Wc.region ?_
  refine Wl.assign rfl rfl ?_
  refine Wl.nil ?_
  refine Wx.then_code ?_
  refine Wc.ret ?_
  refine Wx.block_ret ?_
  refine Wx.then_ret ?_
  exact endV .ret (.inl rfl) rfl rfl [] (Ghost.le.refl _) (by simp only [keywordB, kwords, List.any_cons, List.any_nil, *, Bool.or_true, Bool.or_false, Bool.true_or])
  refine Wc.seq ?_
  refine Wc.region ?_
  refine Wl.sEql rfl rfl rfl ?_
  refine Wl.assign rfl rfl ?_
  refine Wl.nil ?_
  refine Wx.then_code ?_
  refine Wc.condS rfl (fun hc11 => ?_) (fun hc11 => ?_)
  refine Wc.skip ?_
  refine Wx.then_code ?_
  refine Wc.condT rfl ?_
  refine Wc.seq ?_
  refine Wc.region ?_
  refine Wl.assign rfl rfl ?_
  refine Wl.nil ?_
  refine Wx.then_code ?_
  refine Wc.ret ?_
  refine Wx.block_ret ?_
  refine Wx.then_ret ?_
  exact endV .ret (.inl rfl) rfl rfl [] (Ghost.le.refl _) (by simp only [keywordB, kwords, List.any_cons, List.any_nil, *, Bool.or_true, Bool.or_false, Bool.true_or])
  refine Wc.seq ?_
  refine Wc.region ?_
  refine Wl.sEql rfl rfl rfl ?_
  refine Wl.assign rfl rfl ?_
  refine Wl.nil ?_
  refine Wx.then_code ?_
  refine Wc.condS rfl (fun hc12 => ?_) (fun hc12 => ?_)
  refine Wc.skip ?_
  refine Wx.then_code ?_
  refine Wc.condT rfl ?_
  refine Wc.seq ?_
  refine Wc.region ?_
  refine Wl.assign rfl rfl ?_
  refine Wl.nil ?_
  refine Wx.then_code ?_
  refine Wc.ret ?_
  refine Wx.block_ret ?_
  refine Wx.then_ret ?_
  exact endV .ret (.inl rfl) rfl rfl [] (Ghost.le.refl _) (by simp only [keywordB, kwords, List.any_cons, List.any_nil, *, Bool.or_true, Bool.or_false, Bool.true_or])
  refine Wc.seq ?_
  refine Wc.region ?_
  refine Wl.sEql rfl rfl rfl ?_
  refine Wl.assign rfl rfl ?_
  refine Wl.nil ?_
  refine Wx.then_code ?_
  refine Wc.condS rfl (fun hc13 => ?_) (fun hc13 => ?_)
  refine Wc.skip ?_
  refine Wx.then_code ?_
  refine Wc.condT rfl ?_
  refine Wc.seq ?_
  refine Wc.region ?_
  refine Wl.assign rfl rfl ?_
  refine Wl.nil ?_
  refine Wx.then_code ?_
  refine Wc.ret ?_
  refine Wx.block_ret ?_
  refine Wx.then_ret ?_
  exact endV .ret (.inl rfl) rfl rfl [] (Ghost.le.refl _) (by simp only [keywordB, kwords, List.any_cons, List.any_nil, *, Bool.or_true, Bool.or_false, Bool.true_or])
  refine Wc.seq ?_
  refine Wc.region ?_
  refine Wl.sEql rfl rfl rfl ?_
  refine Wl.assign rfl rfl ?_
  refine Wl.nil ?_
  refine Wx.then_code ?_
  refine Wc.condS rfl (fun hc14 => ?_) (fun hc14 => ?_)
  refine Wc.skip ?_
  refine Wx.then_code ?_
  refine Wc.condT rfl ?_
  refine Wc.seq ?_
  refine Wc.region ?_
  refine Wl.assign rfl rfl ?_
  refine Wl.nil ?_
  refine Wx.then_code ?_
  refine Wc.ret ?_
  refine Wx.block_ret ?_
  refine Wx.then_ret ?_
  exact endV .ret (.inl rfl) rfl rfl [] (Ghost.le.refl _) (by simp only [keywordB, kwords, List.any_cons, List.any_nil, *, Bool.or_true, Bool.or_false, Bool.true_or])
  refine Wc.seq ?_
  refine Wc.region ?_
  refine Wl.sEql rfl rfl rfl ?_
  refine Wl.assign rfl rfl ?_
  refine Wl.nil ?_
  refine Wx.then_code ?_
  refine Wc.condS rfl (fun hc15 => ?_) (fun hc15 => ?_)
  refine Wc.skip ?_
  refine Wx.then_code ?_
  refine Wc.condT rfl ?_
  refine Wc.seq ?_
  refine Wc.region ?_
  refine Wl.assign rfl rfl ?_
  refine Wl.nil ?_
  refine Wx.then_code ?_
  refine Wc.ret ?_
  refine Wx.block_ret ?_
  refine Wx.then_ret ?_
  exact endV .ret (.inl rfl) rfl rfl [] (Ghost.le.refl _) (by simp only [keywordB, kwords, List.any_cons, List.any_nil, *, Bool.or_true, Bool.or_false, Bool.true_or])
  refine Wc.seq ?_
  refine Wc.region ?_
  refine Wl.sEql rfl rfl rfl ?_
  refine Wl.assign rfl rfl ?_
  refine Wl.nil ?_
  refine Wx.then_code ?_
  refine Wc.condS rfl (fun hc16 => ?_) (fun hc16 => ?_)
  refine Wc.skip ?_
  refine Wx.then_code ?_
  refine Wc.condT rfl ?_
  refine Wc.seq ?_
  refine Wc.region ?_
  refine Wl.assign rfl rfl ?_
  refine Wl.nil ?_
  refine Wx.then_code ?_
  refine Wc.ret ?_
  refine Wx.block_ret ?_
  refine Wx.then_ret ?_
  exact endV .ret (.inl rfl) rfl rfl [] (Ghost.le.refl _) (by simp only [keywordB, kwords, List.any_cons, List.any_nil, *, Bool.or_true, Bool.or_false, Bool.true_or])
  refine Wc.seq ?_
  refine Wc.region ?_
  refine Wl.sEql rfl rfl rfl ?_
  refine Wl.assign rfl rfl ?_
  refine Wl.nil ?_
  refine Wx.then_code ?_
  refine Wc.condS rfl (fun hc17 => ?_) (fun hc17 => ?_)
  refine Wc.skip ?_
  refine Wx.then_code ?_
  refine Wc.condT rfl ?_
  refine Wc.seq ?_
  refine Wc.region ?_
  refine Wl.assign rfl rfl ?_
  refine Wl.nil ?_
  refine Wx.then_code ?_
  refine Wc.ret ?_
  refine Wx.block_ret ?_
  refine Wx.then_ret ?_
  exact endV .ret (.inl rfl) rfl rfl [] (Ghost.le.refl _) (by simp only [keywordB, kwords, List.any_cons, List.any_nil, *, Bool.or_true, Bool.or_false, Bool.true_or])
  refine Wc.seq ?_
  refine Wc.region ?_
  refine Wl.sEql rfl rfl rfl ?_
  refine Wl.assign rfl rfl ?_
  refine Wl.nil ?_
  refine Wx.then_code ?_
  refine Wc.condS rfl (fun hc18 => ?_) (fun hc18 => ?_)
  refine Wc.skip ?_
  refine Wx.then_code ?_
  refine Wc.condT rfl ?_
  refine Wc.seq ?_
  refine Wc.region ?_
  refine Wl.assign rfl rfl ?_
  refine Wl.nil ?_
  refine Wx.then_code ?_
  refine Wc.ret ?_
  refine Wx.block_ret ?_
  refine Wx.then_ret ?_
  exact endV .ret (.inl rfl) rfl rfl [] (Ghost.le.refl _) (by simp only [keywordB, kwords, List.any_cons, List.any_nil, *, Bool.or_true, Bool.or_false, Bool.true_or])
  refine Wc.seq ?_
  refine Wc.region ?_
  refine Wl.sEql rfl rfl rfl ?_
  refine Wl.assign rfl rfl ?_
  refine Wl.nil ?_
  refine Wx.then_code ?_
  refine Wc.condS rfl (fun hc19 => ?_) (fun hc19 => ?_)
  refine Wc.skip ?_
  refine Wx.then_code ?_
  refine Wc.condT rfl ?_
  refine Wc.seq ?_
  refine Wc.region ?_
  refine Wl.assign rfl rfl ?_
  refine Wl.nil ?_
  refine Wx.then_code ?_
  refine Wc.ret ?_
  refine Wx.block_ret ?_
  refine Wx.then_ret ?_
  exact endV .ret (.inl rfl) rfl rfl [] (Ghost.le.refl _) (by simp only [keywordB, kwords, List.any_cons, List.any_nil, *, Bool.or_true, Bool.or_false, Bool.true_or])
  refine Wc.seq ?_
  refine Wc.region ?_
  refine Wl.sEql rfl rfl rfl ?_
  refine Wl.assign rfl rfl ?_
  refine Wl.nil ?_
  refine Wx.then_code ?_
  refine Wc.condS rfl (fun hc20 => ?_) (fun hc20 => ?_)
  refine Wc.skip ?_
  refine Wx.then_code ?_
  refine Wc.condT rfl ?_
  refine Wc.seq ?_
  refine Wc.region ?_
  refine Wl.assign rfl rfl ?_
  refine Wl.nil ?_
  refine Wx.then_code ?_
  refine Wc.ret ?_
  refine Wx.block_ret ?_
  refine Wx.then_ret ?_
  exact endV .ret (.inl rfl) rfl rfl [] (Ghost.le.refl _) (by simp only [keywordB, kwords, List.any_cons, List.any_nil, *, Bool.or_true, Bool.or_false, Bool.true_or])
  refine Wc.seq ?_
  refine Wc.region ?_
  refine Wl.sEql rfl rfl rfl ?_
  refine Wl.assign rfl rfl ?_
  refine Wl.nil ?_
  refine Wx.then_code ?_
  refine Wc.condS rfl (fun hc21 => ?_) (fun hc21 => ?_)
  refine Wc.skip ?_
  refine Wx.then_code ?_
  refine Wc.condT rfl ?_
  refine Wc.seq ?_
  refine Wc.region ?_
  refine Wl.assign rfl rfl ?_
  refine Wl.nil ?_
  refine Wx.then_code ?_
  refine Wc.ret ?_
  refine Wx.block_ret ?_
  refine Wx.then_ret ?_
  exact endV .ret (.inl rfl) rfl rfl [] (Ghost.le.refl _) (by simp only [keywordB, kwords, List.any_cons, List.any_nil, *, Bool.or_true, Bool.or_false, Bool.true_or])
  refine Wc.region ?_
  refine Wl.sEql rfl rfl rfl ?_
  refine Wl.assign rfl rfl ?_
  refine Wl.nil ?_
  refine Wx.then_code ?_
  refine Wc.condS rfl (fun hc22 => ?_) (fun hc22 => ?_)
  refine Wc.seq ?_
  refine Wc.region ?_
  refine Wl.assign rfl rfl ?_
  refine Wl.nil ?_
  refine Wx.then_code ?_
  refine Wc.ret ?_
  refine Wx.block_ret ?_
  refine Wx.then_ret ?_
  exact endV .ret (.inl rfl) rfl rfl [] (Ghost.le.refl _) (by simp only [keywordB, kwords, List.any_cons, List.any_nil, *, Bool.or_true, Bool.or_false])
  refine Wc.skip ?_
  refine Wx.block_normal ?_
  refine Wx.then_code ?_
  refine Wc.seq ?_
  refine Wc.region ?_
  refine Wl.assign rfl rfl ?_
  refine Wl.nil ?_
  refine Wx.then_code ?_
  refine Wc.ret ?_
  exact endV .ret (.inl rfl) rfl rfl [] (Ghost.le.refl _) (by simp only [keywordB, kwords, List.any_cons, List.any_nil, *, Bool.or_false])
theorem headD_get {l : List UInt8} (h : l ≠ []) : l[0]? = some (l.headD 0) := by cases l <;> simp at *
theorem toList_nil {s : ByteArray} (h : (!(s.toList == (⟨#[]⟩ : ByteArray).toList)) = true) : s.data.toList ≠ [] := by
  intro e
  have : s = ⟨#[]⟩ := by
    cases s with | _ d => congr 1; exact Array.ext' e
  subst this; simp at h
def wordB (s : ByteArray) : Bool := ((((!(s.toList == (⟨#[]⟩ : ByteArray).toList)) && letterB (s.data.toList.headD 0)) && tailB s.data.toList) && !keywordB s)
theorem isWord_spec (s : ByteArray) (h : Ghost) (hs : s.size ≤ 9223372036854775806) : SpecV Tryz.prog 124 [.string s] h (.bool (wordB s)) := by
  refine SpecP.enter cl124 Tryz.func124 rfl Tryz.ntmps124 rfl fun E R => ?_
  refine Wc.seq ?_
  refine Wc.region ?_
  refine Wl.assign rfl rfl ?_
  refine Wl.nil ?_
  refine Wx.then_code ?_
  refine Wc.seq ?_
  refine Wc.region ?_
  refine Wl.move rfl rfl ?_
  refine Wl.sNeq rfl rfl rfl ?_
  refine Wl.move rfl rfl ?_
  apply Wl.andB (l1 := [_, _, _, _]) (i := 5) (d := 9)
  · rfl
  · intro hg1
    refine Wl.guardYes rfl rfl ?_
    refine Wl.move rfl rfl ?_
    refine Wl.guardYes rfl rfl ?_
    refine Wl.sIndex (i := 0) Tryz.underlying9 rfl rfl rfl (headD_get (toList_nil hg1)) rfl ?_
    refine Wl.guardYes rfl rfl ?_
    refine Wl.callV rfl rfl rfl (isLetter_spec _ h) ?_
    refine Wl.pickT rfl rfl rfl ?_
    refine Wl.nil ?_
    exact Wx.reach (.cons rfl (.skip rfl (.skip rfl (.skip rfl (.skip rfl (.same rfl (by rw [hg1]) (.refl _)))))))
  · intro hg1
    refine Wl.guardNo rfl rfl rfl rfl ?_
    refine Wl.guardNo rfl rfl rfl rfl ?_
    refine Wl.guardNo rfl rfl rfl rfl ?_
    refine Wl.pickF rfl rfl rfl ?_
    refine Wl.nil ?_
    exact Wx.reach (.cons rfl (.skip rfl (.skip rfl (.skip rfl (.skip rfl (.same rfl (by rw [hg1]) (.refl _)))))))
  refine Wl.move rfl rfl ?_
  apply Wl.andB (l1 := [_, _, _]) (i := 10) (d := 13)
  · rfl
  · intro hg2
    refine Wl.guardYes rfl rfl ?_
    refine Wl.move rfl rfl ?_
    refine Wl.guardYes rfl rfl ?_
    refine Wl.callV rfl rfl rfl (isTail_spec s h hs) ?_
    refine Wl.pickT rfl rfl rfl ?_
    refine Wl.nil ?_
    exact Wx.reach (.cons rfl (.skip rfl (.skip rfl (.skip rfl (.same rfl (by rw [hg2]) (.refl _))))))
  · intro hg2
    refine Wl.guardNo rfl rfl rfl rfl ?_
    refine Wl.guardNo rfl rfl rfl rfl ?_
    refine Wl.pickF rfl rfl rfl ?_
    refine Wl.nil ?_
    exact Wx.reach (.cons rfl (.skip rfl (.skip rfl (.skip rfl (.same rfl (by rw [hg2]) (.refl _))))))
  refine Wl.move rfl rfl ?_
  apply Wl.andB (l1 := [_, _, _, _]) (i := 14) (d := 18)
  · rfl
  · intro hg3
    refine Wl.guardYes rfl rfl ?_
    refine Wl.move rfl rfl ?_
    refine Wl.guardYes rfl rfl ?_
    refine Wl.callV rfl rfl rfl (Keyword_spec s h) ?_
    refine Wl.guardYes rfl rfl ?_
    refine Wl.not rfl rfl ?_
    refine Wl.pickT rfl rfl rfl ?_
    refine Wl.nil ?_
    exact Wx.reach (.cons rfl (.skip rfl (.skip rfl (.skip rfl (.skip rfl (.same rfl (by rw [hg3]) (.refl _)))))))
  · intro hg3
    refine Wl.guardNo rfl rfl rfl rfl ?_
    refine Wl.guardNo rfl rfl rfl rfl ?_
    refine Wl.guardNo rfl rfl rfl rfl ?_
    refine Wl.pickF rfl rfl rfl ?_
    refine Wl.nil ?_
    exact Wx.reach (.cons rfl (.skip rfl (.skip rfl (.skip rfl (.skip rfl (.same rfl (by rw [hg3]) (.refl _)))))))
  refine Wl.assign rfl rfl ?_
  refine Wl.nil ?_
  refine Wx.then_code ?_
  refine Wc.ret ?_
  exact endV .ret (.inl rfl) rfl rfl [] (Ghost.le.refl _) rfl

/-- the library's own variables are there -/
def Gl (h : Ghost) : Prop := ∀ E S w, Heap E h S w → w.ShapedOpen Tryz.prog
theorem Heap.less {E : World} {h h' : Ghost} {S : Frag} {w : World} (H : Heap E h' S w) (l : h.le h') : Heap E h S w :=
  ⟨H.os, H.tape, H.output, H.drawn, fun b o e => H.imm b o (l b o e), H.own, (fun p hp => by
    have := H.fresh p hp
    cases e : h p.1 with
    | none => rfl
    | some o => rw [l _ _ e] at this; cases this), H.nodup⟩
theorem Gl.mono {h h' : Ghost} (g : Gl h) (l : h.le h') : Gl h' := fun E S w H => g E S w (Heap.less H l)

theorem Cut_spec (s sep : ByteArray) (h : Ghost) (g : Gl h) (hs : s.size < 4294967281) : SpecV Tryz.prog 123 [.string s, .string sep] h
    (.tuple #[.string ⟨(Lib.cut s.data.toList sep.data.toList).1.toArray⟩, .string ⟨(Lib.cut s.data.toList sep.data.toList).2.1.toArray⟩, .bool (Lib.cut s.data.toList sep.data.toList).2.2]) :=
  .of_drewN' cl123 fun E S w A => Tryz.strings_Cut_shaped s sep w (g E S w A) hs
theorem HasPrefix_spec (s p : ByteArray) (h : Ghost) : SpecV Tryz.prog 35 [.string s, .string p] h (.bool (Lib.hasPrefix s.data.toList p.data.toList)) :=
  .of_same cl35 fun w => Tryz.strings_HasPrefix s p w

theorem cut_length (l sep : List UInt8) : (Lib.cut l sep).1.length ≤ l.length ∧ (Lib.cut l sep).2.1.length ≤ l.length := by
  unfold Lib.cut
  split <;> simp <;> omega
def plainB (s : ByteArray) : Bool := !decide (24 < s.size) && (wordB ⟨(Lib.cut s.data.toList [58]).1.toArray⟩ && (!(Lib.cut s.data.toList [58]).2.2 || wordB ⟨(Lib.cut s.data.toList [58]).2.1.toArray⟩))
theorem isPlain_spec (s : ByteArray) (h : Ghost) (g : Gl h) : SpecV Tryz.prog 105 [.string s] h (.bool (plainB s)) := by
  refine SpecP.enter cl105 Tryz.func105 rfl Tryz.ntmps105 rfl fun E R => ?_
  refine Wc.seq ?_
  refine Wc.region ?_
  refine Wl.assign rfl rfl ?_
  refine Wl.nil ?_
  refine Wx.then_code ?_
  refine Wc.seq ?_
  refine Wc.seq ?_
  refine Wc.region ?_
  refine Wl.move rfl rfl ?_
  refine Wl.sLen Tryz.underlying9 rfl rfl ?_
  refine Wl.iGtr rfl rfl rfl ?_
  refine Wl.nil ?_
  refine Wx.then_code ?_
  refine Wc.condS rfl (fun hc1 => ?_) (fun hc1 => ?_)
  refine Wc.seq ?_
  refine Wc.region ?_
  refine Wl.assign rfl rfl ?_
  refine Wl.nil ?_
  refine Wx.then_code ?_
  refine Wc.ret ?_
  refine Wx.then_ret ?_
  exact endV .ret (.inl rfl) rfl rfl [] (Ghost.le.refl _) (by have := of_decide_eq_true hc1; simp [plainB]; omega)
  refine Wc.skip ?_
  refine Wx.then_code ?_
  refine Wc.seq ?_
  refine Wc.region ?_
  refine Wl.move rfl rfl ?_
  have hs : s.size ≤ 24 := by have := of_decide_eq_false hc1; omega
  have hl : s.data.toList.length = s.size := Array.length_toList
  have hcl := cut_length s.data.toList [58]
  refine Wl.callV rfl rfl rfl (Cut_spec s ⟨#[58]⟩ h g (by omega)) ?_
  refine Wl.move rfl rfl ?_
  refine Wl.extract rfl rfl rfl ?_
  refine Wl.extract rfl rfl rfl ?_
  refine Wl.extract rfl rfl rfl ?_
  refine Wl.assign rfl rfl ?_
  refine Wl.assign rfl rfl ?_
  refine Wl.assign rfl rfl ?_
  refine Wl.nil ?_
  refine Wx.then_code ?_
  refine Wc.seq ?_
  refine Wc.region ?_
  refine Wl.move rfl rfl ?_
  refine Wl.callV rfl rfl rfl (isWord_spec _ h (show List.length _ ≤ _ by simp; omega)) ?_
  refine Wl.move rfl rfl ?_
  apply Wl.andB (l1 := [_, _, _, _, _, _, _]) (i := 17) (d := 24)
  · rfl
  · intro hg2
    refine Wl.guardYes rfl rfl ?_
    refine Wl.move rfl rfl ?_
    refine Wl.guardYes rfl rfl ?_
    refine Wl.not rfl rfl ?_
    refine Wl.guardYes rfl rfl ?_
    refine Wl.move rfl rfl ?_
    apply Wl.orB (l1 := [_, _, _]) (i := 20) (d := 23)
    · rfl
    · intro hg3
      refine Wl.guardNo rfl rfl rfl rfl ?_
      refine Wl.guardNo rfl rfl rfl rfl ?_
      refine Wl.guardYes rfl rfl ?_
      refine Wl.pickT rfl rfl rfl ?_
      refine Wl.nil ?_
      exact Wx.reach (.cons rfl (.skip rfl (.skip rfl (.skip rfl (.same rfl (by rw [hg3]) (.refl _))))))
    · intro hg3
      refine Wl.guardYes rfl rfl ?_
      refine Wl.move rfl rfl ?_
      refine Wl.guardYes rfl rfl ?_
      refine Wl.callV rfl rfl rfl (isWord_spec _ h (show List.length _ ≤ _ by simp; omega)) ?_
      refine Wl.guardYes rfl rfl ?_
      refine Wl.pickF rfl rfl rfl ?_
      refine Wl.nil ?_
      exact Wx.reach (.cons rfl (.skip rfl (.skip rfl (.skip rfl (.same rfl (by rw [hg3]) (.refl _))))))
    refine Wl.pickT rfl rfl rfl ?_
    refine Wl.nil ?_
    exact Wx.reach (.cons rfl (.skip rfl (.skip rfl (.skip rfl (.skip rfl (.skip rfl (.same rfl (by rw [hg2]) (.refl _))))))))
  · intro hg2
    refine Wl.guardNo rfl rfl rfl rfl ?_
    refine Wl.guardNo rfl rfl rfl rfl ?_
    refine Wl.guardNo rfl rfl rfl rfl ?_
    refine Wl.guardUndef rfl rfl rfl ?_
    refine Wl.guardUndef rfl rfl rfl ?_
    refine Wl.guardNo rfl rfl rfl rfl ?_
    refine Wl.pickF rfl rfl rfl ?_
    refine Wl.nil ?_
    exact Wx.reach (.cons rfl (.skip rfl (.skip rfl (.skip rfl (.skip rfl (.skip rfl (.skip rfl (.skip rfl (.same rfl (by rw [hg2]) (.refl _))))))))))
  refine Wl.assign rfl rfl ?_
  refine Wl.nil ?_
  refine Wx.then_code ?_
  refine Wc.ret ?_
  exact endV .ret (.inl rfl) rfl rfl [] (Ghost.le.refl _) (by simp [plainB, show ¬ (24 < s.size) from by omega])

theorem data_length (s : ByteArray) : s.data.toList.length = s.size := Array.length_toList
def reservedB (s : ByteArray) : Bool := ((decide (2 ≤ s.size) && decide (s.size ≤ 24)) && s.data.toList.headD 0 == 95) && tailB s.data.toList
theorem isReserved_spec (s : ByteArray) (h : Ghost) : SpecV Tryz.prog 106 [.string s] h (.bool (reservedB s)) := by
  refine SpecP.enter cl106 Tryz.func106 rfl Tryz.ntmps106 rfl fun E R => ?_
  refine Wc.seq ?_
  refine Wc.region ?_
  refine Wl.assign rfl rfl ?_
  refine Wl.nil ?_
  refine Wx.then_code ?_
  refine Wc.seq ?_
  refine Wc.region ?_
  refine Wl.move rfl rfl ?_
  refine Wl.sLen Tryz.underlying9 rfl rfl ?_
  refine Wl.iGeq rfl rfl rfl ?_
  refine Wl.move rfl rfl ?_
  apply Wl.andB (l1 := [_, _, _, _]) (i := 6) (d := 10)
  · rfl
  · intro hg1
    refine Wl.guardYes rfl rfl ?_
    refine Wl.move rfl rfl ?_
    refine Wl.guardYes rfl rfl ?_
    refine Wl.sLen Tryz.underlying9 rfl rfl ?_
    refine Wl.guardYes rfl rfl ?_
    refine Wl.iLeq rfl rfl rfl ?_
    refine Wl.pickT rfl rfl rfl ?_
    refine Wl.nil ?_
    exact Wx.reach (.cons rfl (.skip rfl (.skip rfl (.skip rfl (.skip rfl (.same rfl (by rw [hg1]) (.refl _)))))))
  · intro hg1
    refine Wl.guardNo rfl rfl rfl rfl ?_
    refine Wl.guardNo rfl rfl rfl rfl ?_
    refine Wl.guardNo rfl rfl rfl rfl ?_
    refine Wl.pickF rfl rfl rfl ?_
    refine Wl.nil ?_
    exact Wx.reach (.cons rfl (.skip rfl (.skip rfl (.skip rfl (.skip rfl (.same rfl (by rw [hg1]) (.refl _)))))))
  refine Wl.move rfl rfl ?_
  apply Wl.andB (l1 := [_, _, _, _]) (i := 11) (d := 15)
  · rfl
  · intro hg2
    refine Wl.guardYes rfl rfl ?_
    refine Wl.move rfl rfl ?_
    refine Wl.guardYes rfl rfl ?_
    have h2 : 2 ≤ s.size := by simp at hg2; omega
    refine Wl.sIndex (i := 0) Tryz.underlying9 rfl rfl rfl (headD_get (l := s.data.toList) (fun e => by have := data_length s; rw [e] at this; simp at this; omega)) rfl ?_
    refine Wl.guardYes rfl rfl ?_
    refine Wl.iEql rfl rfl rfl ?_
    refine Wl.pickT rfl rfl rfl ?_
    refine Wl.nil ?_
    exact Wx.reach (.cons rfl (.skip rfl (.skip rfl (.skip rfl (.skip rfl (.same rfl (by rw [hg2]) (.refl _)))))))
  · intro hg2
    refine Wl.guardNo rfl rfl rfl rfl ?_
    refine Wl.guardNo rfl rfl rfl rfl ?_
    refine Wl.guardNo rfl rfl rfl rfl ?_
    refine Wl.pickF rfl rfl rfl ?_
    refine Wl.nil ?_
    exact Wx.reach (.cons rfl (.skip rfl (.skip rfl (.skip rfl (.skip rfl (.same rfl (by rw [hg2]) (.refl _)))))))
  refine Wl.move rfl rfl ?_
  apply Wl.andB (l1 := [_, _, _]) (i := 16) (d := 19)
  · rfl
  · intro hg3
    refine Wl.guardYes rfl rfl ?_
    refine Wl.move rfl rfl ?_
    refine Wl.guardYes rfl rfl ?_
    refine Wl.callV rfl rfl rfl (isTail_spec s h (by simp at hg3; omega)) ?_
    refine Wl.pickT rfl rfl rfl ?_
    refine Wl.nil ?_
    exact Wx.reach (.cons rfl (.skip rfl (.skip rfl (.skip rfl (.same rfl (by rw [hg3]) (.refl _))))))
  · intro hg3
    refine Wl.guardNo rfl rfl rfl rfl ?_
    refine Wl.guardNo rfl rfl rfl rfl ?_
    refine Wl.pickF rfl rfl rfl ?_
    refine Wl.nil ?_
    exact Wx.reach (.cons rfl (.skip rfl (.skip rfl (.skip rfl (.same rfl (by rw [hg3]) (.refl _))))))
  refine Wl.assign rfl rfl ?_
  refine Wl.nil ?_
  refine Wx.then_code ?_
  refine Wc.ret ?_
  exact endV .ret (.inl rfl) rfl rfl [] (Ghost.le.refl _) (by
    have e : (s.data.toList.headD 0 == 95) = (((s.data.toList.headD 0).toNat : Int) == 95) := by
      rw [Bool.eq_iff_iff]; simp [← UInt8.toNat_inj]; omega
    rw [reservedB, e, show decide ((2 : Int) ≤ (s.size : Int)) = decide (2 ≤ s.size) from decide_eq_decide.2 (by omega), show decide ((s.size : Int) ≤ (24 : Int)) = decide (s.size ≤ 24) from decide_eq_decide.2 (by omega)])
def nameB (s : ByteArray) : Bool := plainB s || reservedB s
def errI (b : Bool) (e : Int) : Int := if b then 0 else e
theorem CheckName_spec (s : ByteArray) (h : Ghost) (g : Gl h) : SpecV Tryz.prog 91 [.string s] h (.int .i64 (errI (nameB s) 20)) := by
  refine SpecP.enter cl91 Tryz.func91 rfl Tryz.ntmps91 rfl fun E R => ?_
  refine Wc.seq ?_
  refine Wc.region ?_
  refine Wl.assign rfl rfl ?_
  refine Wl.nil ?_
  refine Wx.then_code ?_
  refine Wc.seq ?_
  refine Wc.seq ?_
  refine Wc.region ?_
  refine Wl.move rfl rfl ?_
  refine Wl.callV rfl rfl rfl (isPlain_spec s h g) ?_
  refine Wl.move rfl rfl ?_
  apply Wl.orB (l1 := [_, _, _]) (i := 5) (d := 8)
  · rfl
  · intro hg1
    refine Wl.guardNo rfl rfl rfl rfl ?_
    refine Wl.guardNo rfl rfl rfl rfl ?_
    refine Wl.pickT rfl rfl rfl ?_
    refine Wl.nil ?_
    exact Wx.reach (.cons rfl (.skip rfl (.skip rfl (.skip rfl (.same rfl (by rw [hg1]) (.refl _))))))
  · intro hg1
    refine Wl.guardYes rfl rfl ?_
    refine Wl.move rfl rfl ?_
    refine Wl.guardYes rfl rfl ?_
    refine Wl.callV rfl rfl rfl (isReserved_spec s h) ?_
    refine Wl.pickF rfl rfl rfl ?_
    refine Wl.nil ?_
    exact Wx.reach (.cons rfl (.skip rfl (.skip rfl (.skip rfl (.same rfl (by rw [hg1]) (.refl _))))))
  refine Wl.nil ?_
  refine Wx.then_code ?_
  refine Wc.condS rfl (fun hc2 => ?_) (fun hc2 => ?_)
  refine Wc.seq ?_
  refine Wc.region ?_
  refine Wl.assign rfl rfl ?_
  refine Wl.nil ?_
  refine Wx.then_code ?_
  refine Wc.ret ?_
  refine Wx.then_ret ?_
  exact endV .ret (.inl rfl) rfl rfl [] (Ghost.le.refl _) (by simp [errI, nameB, hc2])
  refine Wc.skip ?_
  refine Wx.then_code ?_
  refine Wc.seq ?_
  refine Wc.region ?_
  refine Wl.assign rfl rfl ?_
  refine Wl.nil ?_
  refine Wx.then_code ?_
  refine Wc.ret ?_
  exact endV .ret (.inl rfl) rfl rfl [] (Ghost.le.refl _) (by simp [errI, nameB, hc2])
def individualB (s : ByteArray) : Bool := nameB s && !Lib.hasPrefix s.data.toList [95]
theorem isIndividual_spec (s : ByteArray) (h : Ghost) (g : Gl h) : SpecV Tryz.prog 67 [.string s] h (.bool (individualB s)) := by
  refine SpecP.enter cl67 Tryz.func67 rfl Tryz.ntmps67 rfl fun E R => ?_
  refine Wc.seq ?_
  refine Wc.region ?_
  refine Wl.assign rfl rfl ?_
  refine Wl.nil ?_
  refine Wx.then_code ?_
  refine Wc.seq ?_
  refine Wc.region ?_
  refine Wl.move rfl rfl ?_
  refine Wl.callV rfl rfl rfl (CheckName_spec s h g) ?_
  refine Wl.iEql rfl rfl rfl ?_
  refine Wl.move rfl rfl ?_
  apply Wl.andB (l1 := [_, _, _, _]) (i := 6) (d := 10)
  · rfl
  · intro hg1
    refine Wl.guardYes rfl rfl ?_
    refine Wl.move rfl rfl ?_
    refine Wl.guardYes rfl rfl ?_
    refine Wl.callV rfl rfl rfl (HasPrefix_spec s _ h) ?_
    refine Wl.guardYes rfl rfl ?_
    refine Wl.not rfl rfl ?_
    refine Wl.pickT rfl rfl rfl ?_
    refine Wl.nil ?_
    exact Wx.reach (.cons rfl (.skip rfl (.skip rfl (.skip rfl (.skip rfl (.same rfl (by rw [hg1]) (.refl _)))))))
  · intro hg1
    refine Wl.guardNo rfl rfl rfl rfl ?_
    refine Wl.guardNo rfl rfl rfl rfl ?_
    refine Wl.guardNo rfl rfl rfl rfl ?_
    refine Wl.pickF rfl rfl rfl ?_
    refine Wl.nil ?_
    exact Wx.reach (.cons rfl (.skip rfl (.skip rfl (.skip rfl (.skip rfl (.same rfl (by rw [hg1]) (.refl _)))))))
  refine Wl.assign rfl rfl ?_
  refine Wl.nil ?_
  refine Wx.then_code ?_
  refine Wc.ret ?_
  exact endV .ret (.inl rfl) rfl rfl [] (Ghost.le.refl _) (by unfold individualB errI; cases nameB s <;> simp)
def looksB (s : ByteArray) : Bool := Lib.hasPrefix s.data.toList [63]
theorem looksVariable_spec (s : ByteArray) (h : Ghost) : SpecV Tryz.prog 71 [.string s] h (.bool (looksB s)) := by
  refine SpecP.enter cl71 Tryz.func71 rfl Tryz.ntmps71 rfl fun E R => ?_
  refine Wc.seq ?_
  refine Wc.region ?_
  refine Wl.assign rfl rfl ?_
  refine Wl.nil ?_
  refine Wx.then_code ?_
  refine Wc.seq ?_
  refine Wc.region ?_
  refine Wl.move rfl rfl ?_
  refine Wl.callV rfl rfl rfl (HasPrefix_spec s _ h) ?_
  refine Wl.assign rfl rfl ?_
  refine Wl.nil ?_
  refine Wx.then_code ?_
  refine Wc.ret ?_
  exact endV .ret (.inl rfl) rfl rfl [] (Ghost.le.refl _) rfl
end Go.Proofs.YtgpmjggdloldnaaGreatDoor

namespace Go.Proofs.YtgpmjggdloldnaaGreatDoor
open Go Go.Sx
set_option maxRecDepth 100000
theorem innerB_eq2 (c : UInt8) : innerB c = !((!letterB c && (decide ((c.toNat : Int) < 48) || decide (57 < (c.toNat : Int)))) && ((c.toNat : Int) != 95)) := by
  rw [innerB_eq]
  cases letterB c <;> cases (decide ((c.toNat : Int) < 48) || decide (57 < (c.toNat : Int))) <;> cases ((c.toNat : Int) != 95) <;> rfl
def variableB (s : ByteArray) : Bool := !(((decide (s.size < 2) || decide (17 < s.size)) || s.data.toList.headD 0 != 63) || !letterB ((s.data.toList.drop 1).headD 0)) && (s.data.toList.drop 2).all innerB
theorem variableB_eq (s : ByteArray) : variableB s = (!(((decide ((s.size : Int) < 2) || decide (17 < (s.size : Int))) || ((s.data.toList.headD 0).toNat : Int) != 63) || !letterB ((s.data.toList.drop 1).headD 0)) && (s.data.toList.drop 2).all innerB) := by
  have e0 : (s.data.toList.headD 0 != 63) = (((s.data.toList.headD 0).toNat : Int) != 63) := by
    rw [Bool.eq_iff_iff]; simp [← UInt8.toNat_inj]; omega
  rw [variableB, e0, show decide ((s.size : Int) < 2) = decide (s.size < 2) from decide_eq_decide.2 (by omega), show decide (17 < (s.size : Int)) = decide (17 < s.size) from decide_eq_decide.2 (by omega)]
theorem get_drop_head {l : List UInt8} {i : Nat} (h : i < l.length) : l[i]? = some ((l.drop i).headD 0) := by
  rw [List.getElem?_eq_getElem h, List.drop_eq_getElem_cons h]; rfl
theorem isVariable_spec (s : ByteArray) (h : Ghost) : SpecV Tryz.prog 70 [.string s] h (.bool (variableB s)) := by
  have hl := data_length s
  refine SpecP.enter cl70 Tryz.func70 rfl Tryz.ntmps70 rfl fun E R => ?_
  refine Wc.seq ?_
  refine Wc.region ?_
  refine Wl.assign rfl rfl ?_
  refine Wl.nil ?_
  refine Wx.then_code ?_
  refine Wc.seq ?_
  refine Wc.seq ?_
  refine Wc.region ?_
  refine Wl.move rfl rfl ?_
  refine Wl.sLen Tryz.underlying9 rfl rfl ?_
  refine Wl.iLss rfl rfl rfl ?_
  refine Wl.move rfl rfl ?_
  apply Wl.orB (l1 := [_, _, _, _]) (i := 8) (d := 12)
  · rfl
  · intro hg1
    refine Wl.guardNo rfl rfl rfl rfl ?_
    refine Wl.guardNo rfl rfl rfl rfl ?_
    refine Wl.guardNo rfl rfl rfl rfl ?_
    refine Wl.pickT rfl rfl rfl ?_
    refine Wl.nil ?_
    exact Wx.reach (.cons rfl (.skip rfl (.skip rfl (.skip rfl (.skip rfl (.same rfl (by rw [hg1]) (.refl _)))))))
  · intro hg1
    refine Wl.guardYes rfl rfl ?_
    refine Wl.move rfl rfl ?_
    refine Wl.guardYes rfl rfl ?_
    refine Wl.sLen Tryz.underlying9 rfl rfl ?_
    refine Wl.guardYes rfl rfl ?_
    refine Wl.iGtr rfl rfl rfl ?_
    refine Wl.pickF rfl rfl rfl ?_
    refine Wl.nil ?_
    exact Wx.reach (.cons rfl (.skip rfl (.skip rfl (.skip rfl (.skip rfl (.same rfl (by rw [hg1]) (.refl _)))))))
  refine Wl.move rfl rfl ?_
  apply Wl.orB (l1 := [_, _, _, _]) (i := 13) (d := 17)
  · rfl
  · intro hg2
    refine Wl.guardNo rfl rfl rfl rfl ?_
    refine Wl.guardNo rfl rfl rfl rfl ?_
    refine Wl.guardNo rfl rfl rfl rfl ?_
    refine Wl.pickT rfl rfl rfl ?_
    refine Wl.nil ?_
    exact Wx.reach (.cons rfl (.skip rfl (.skip rfl (.skip rfl (.skip rfl (.same rfl (by rw [hg2]) (.refl _)))))))
  · intro hg2
    refine Wl.guardYes rfl rfl ?_
    refine Wl.move rfl rfl ?_
    refine Wl.guardYes rfl rfl ?_
    have h2 : 2 ≤ s.size ∧ s.size ≤ 17 := by simp at hg2; omega
    refine Wl.sIndex (i := 0) Tryz.underlying9 rfl rfl rfl (headD_get (l := s.data.toList) (fun e => by rw [e] at hl; simp at hl; omega)) rfl ?_
    refine Wl.guardYes rfl rfl ?_
    refine Wl.iNeq rfl rfl rfl ?_
    refine Wl.pickF rfl rfl rfl ?_
    refine Wl.nil ?_
    exact Wx.reach (.cons rfl (.skip rfl (.skip rfl (.skip rfl (.skip rfl (.same rfl (by rw [hg2]) (.refl _)))))))
  refine Wl.move rfl rfl ?_
  apply Wl.orB (l1 := [_, _, _, _, _]) (i := 18) (d := 23)
  · rfl
  · intro hg3
    refine Wl.guardNo rfl rfl rfl rfl ?_
    refine Wl.guardNo rfl rfl rfl rfl ?_
    refine Wl.guardNo rfl rfl rfl rfl ?_
    refine Wl.guardNo rfl rfl rfl rfl ?_
    refine Wl.pickT rfl rfl rfl ?_
    refine Wl.nil ?_
    exact Wx.reach (.cons rfl (.skip rfl (.skip rfl (.skip rfl (.skip rfl (.skip rfl (.same rfl (by rw [hg3]) (.refl _))))))))
  · intro hg3
    refine Wl.guardYes rfl rfl ?_
    refine Wl.move rfl rfl ?_
    refine Wl.guardYes rfl rfl ?_
    have h2 : 2 ≤ s.size ∧ s.size ≤ 17 := by simp at hg3; omega
    refine Wl.sIndex (i := 1) Tryz.underlying9 rfl rfl rfl (get_drop_head (i := 1) (by omega)) rfl ?_
    refine Wl.guardYes rfl rfl ?_
    refine Wl.callV rfl rfl rfl (queryLetter_spec _ h) ?_
    refine Wl.guardYes rfl rfl ?_
    refine Wl.not rfl rfl ?_
    refine Wl.pickF rfl rfl rfl ?_
    refine Wl.nil ?_
    exact Wx.reach (.cons rfl (.skip rfl (.skip rfl (.skip rfl (.skip rfl (.skip rfl (.same rfl (by rw [hg3]) (.refl _))))))))
  refine Wl.nil ?_
  refine Wx.then_code ?_
  refine Wc.condS rfl (fun hc4 => ?_) (fun hc4 => ?_)
  refine Wc.seq ?_
  refine Wc.region ?_
  refine Wl.assign rfl rfl ?_
  refine Wl.nil ?_
  refine Wx.then_code ?_
  refine Wc.ret ?_
  refine Wx.then_ret ?_
  exact endV .ret (.inl rfl) rfl rfl [] (Ghost.le.refl _) (by
    rw [variableB_eq, hc4]; rfl)
  refine Wc.skip ?_
  refine Wx.then_code ?_
  refine Wc.seq ?_
  refine Wc.seq ?_
  refine Wc.region ?_
  refine Wl.assign rfl rfl ?_
  refine Wl.nil ?_
  refine Wx.then_code ?_
  refine Wc.block ?_
  have h2 : 2 ≤ s.size ∧ s.size ≤ 17 := by simp at hc4; omega
  refine Wc.loop (ι := Nat) (fun i => 2 ≤ i ∧ i ≤ s.size ∧ ((s.data.toList.take i).drop 2).all innerB = true) (fun i => [(0, .string s), (3, .int .i64 i)]) (fun _ => h) (fun _ => R) (fun i => s.size - i) 2
    ⟨by omega, h2.1, by rw [List.drop_eq_nil_of_le (by simp; omega)]; rfl⟩ (.cons rfl (.cons rfl (.nil _))) rfl rfl fun i ⟨hi0, hi, hall⟩ => ?_
  refine Wc.seq ?_
  refine Wc.seq ?_
  refine Wc.region ?_
  refine Wl.move rfl rfl ?_
  refine Wl.move rfl rfl ?_
  refine Wl.sLen Tryz.underlying9 rfl rfl ?_
  refine Wl.iLss rfl rfl rfl ?_
  refine Wl.nil ?_
  refine Wx.then_code ?_
  refine Wc.condS rfl (fun hc5 => ?_) (fun hc5 => ?_)
  refine Wc.skip ?_
  refine Wx.then_code ?_
  refine Wc.seq ?_
  refine Wc.block ?_
  refine Wc.seq ?_
  refine Wc.region ?_
  refine Wl.move rfl rfl ?_
  refine Wl.move rfl rfl ?_
  have hlt : i < s.size := by have := of_decide_eq_true hc5; omega
  obtain ⟨c, hc⟩ : ∃ c, s.data.toList[i]? = some c := ⟨_, List.getElem?_eq_getElem (by omega)⟩
  refine Wl.sIndex (i := i) Tryz.underlying9 rfl rfl rfl hc rfl ?_
  refine Wl.assign rfl rfl ?_
  refine Wl.nil ?_
  refine Wx.then_code ?_
  refine Wc.seq ?_
  refine Wc.region ?_
  refine Wl.move rfl rfl ?_
  refine Wl.callV rfl rfl rfl (queryLetter_spec _ h) ?_
  refine Wl.not rfl rfl ?_
  refine Wl.move rfl rfl ?_
  apply Wl.andB (l1 := [_, _, _, _, _, _, _]) (i := 36) (d := 43)
  · rfl
  · intro hg6
    refine Wl.guardYes rfl rfl ?_
    refine Wl.move rfl rfl ?_
    refine Wl.guardYes rfl rfl ?_
    refine Wl.iLss rfl rfl rfl ?_
    refine Wl.guardYes rfl rfl ?_
    refine Wl.move rfl rfl ?_
    apply Wl.orB (l1 := [_, _, _]) (i := 39) (d := 42)
    · rfl
    · intro hg7
      refine Wl.guardNo rfl rfl rfl rfl ?_
      refine Wl.guardNo rfl rfl rfl rfl ?_
      refine Wl.guardYes rfl rfl ?_
      refine Wl.pickT rfl rfl rfl ?_
      refine Wl.nil ?_
      exact Wx.reach (.cons rfl (.skip rfl (.skip rfl (.skip rfl (.same rfl (by rw [hg7]) (.refl _))))))
    · intro hg7
      refine Wl.guardYes rfl rfl ?_
      refine Wl.move rfl rfl ?_
      refine Wl.guardYes rfl rfl ?_
      refine Wl.iGtr rfl rfl rfl ?_
      refine Wl.guardYes rfl rfl ?_
      refine Wl.pickF rfl rfl rfl ?_
      refine Wl.nil ?_
      exact Wx.reach (.cons rfl (.skip rfl (.skip rfl (.skip rfl (.same rfl (by rw [hg7]) (.refl _))))))
    refine Wl.pickT rfl rfl rfl ?_
    refine Wl.nil ?_
    exact Wx.reach (.cons rfl (.skip rfl (.skip rfl (.skip rfl (.skip rfl (.skip rfl (.same rfl (by rw [hg6]) (.refl _))))))))
  · intro hg6
    refine Wl.guardNo rfl rfl rfl rfl ?_
    refine Wl.guardNo rfl rfl rfl rfl ?_
    refine Wl.guardNo rfl rfl rfl rfl ?_
    refine Wl.guardUndef rfl rfl rfl ?_
    refine Wl.guardUndef rfl rfl rfl ?_
    refine Wl.guardNo rfl rfl rfl rfl ?_
    refine Wl.pickF rfl rfl rfl ?_
    refine Wl.nil ?_
    exact Wx.reach (.cons rfl (.skip rfl (.skip rfl (.skip rfl (.skip rfl (.skip rfl (.skip rfl (.skip rfl (.same rfl (by rw [hg6]) (.refl _))))))))))
  refine Wl.move rfl rfl ?_
  apply Wl.andB (l1 := [_, _, _]) (i := 44) (d := 47)
  · rfl
  · intro hg8
    refine Wl.guardYes rfl rfl ?_
    refine Wl.move rfl rfl ?_
    refine Wl.guardYes rfl rfl ?_
    refine Wl.iNeq rfl rfl rfl ?_
    refine Wl.pickT rfl rfl rfl ?_
    refine Wl.nil ?_
    exact Wx.reach (.cons rfl (.skip rfl (.skip rfl (.skip rfl (.same rfl (by rw [hg8]) (.refl _))))))
  · intro hg8
    refine Wl.guardNo rfl rfl rfl rfl ?_
    refine Wl.guardNo rfl rfl rfl rfl ?_
    refine Wl.pickF rfl rfl rfl ?_
    refine Wl.nil ?_
    exact Wx.reach (.cons rfl (.skip rfl (.skip rfl (.skip rfl (.same rfl (by rw [hg8]) (.refl _))))))
  refine Wl.nil ?_
  refine Wx.then_code ?_
  refine Wc.condS rfl (fun hc9 => ?_) (fun hc9 => ?_)
  refine Wc.seq ?_
  refine Wc.region ?_
  refine Wl.assign rfl rfl ?_
  refine Wl.nil ?_
  refine Wx.then_code ?_
  refine Wc.ret ?_
  refine Wx.block_ret ?_
  refine Wx.then_ret ?_
  refine Wx.then_ret ?_
  refine Wx.block_ret ?_
  refine Wx.then_ret ?_
  · exact endV .ret (.inl rfl) rfl rfl [] (Ghost.le.refl _) (by
      have e : innerB c = !true := (innerB_eq2 c).trans (congrArg _ hc9)
      have : (s.data.toList.drop 2).all innerB = false := by
        rw [List.all_eq_false]
        refine ⟨c, ?_, by simp [e]⟩
        apply List.mem_of_getElem? (i := i - 2)
        rw [List.getElem?_drop, show 2 + (i - 2) = i from by omega]; exact hc
      rw [variableB, this, Bool.and_false])
  refine Wc.skip ?_
  refine Wx.block_normal ?_
  refine Wx.then_code ?_
  refine Wc.region ?_
  refine Wl.move rfl rfl ?_
  refine Wl.inc rfl rfl (by first | assumption | omega | (have hx := of_decide_eq_true hc9; omega) | (have hx := of_decide_eq_true hc5; omega) | (have hx := of_decide_eq_true hc4; omega)) ?_
  refine Wl.assign rfl rfl ?_
  refine Wl.nil ?_
  · exact Wx.again (i + 1) ⟨by omega, hlt, by
      have e : innerB c = !false := (innerB_eq2 c).trans (congrArg _ hc9)
      rw [List.take_add_one, hc, List.drop_append_of_le_length (by simp; omega)]
      simp [hall, e]⟩ (by omega) (.cons rfl (.cons rfl (.nil _))) rfl .refl
  refine Wc.exit ?_
  refine Wx.then_exit ?_
  refine Wx.then_exit ?_
  refine Wx.block_exit ?_
  refine Wx.then_code ?_
  refine Wc.seq ?_
  refine Wc.region ?_
  refine Wl.assign rfl rfl ?_
  refine Wl.nil ?_
  refine Wx.then_code ?_
  refine Wc.ret ?_
  exact endV .ret (.inl rfl) rfl rfl [] (Ghost.le.refl _) (by
    have hi' : i = s.size := by have := of_decide_eq_false hc5; omega
    subst hi'
    rw [List.take_of_length_le (Nat.le_of_eq hl)] at hall
    rw [variableB_eq, hc4, hall]; rfl)
def termB (s : ByteArray) : Bool := variableB s || individualB s
theorem isTerm_spec (s : ByteArray) (h : Ghost) (g : Gl h) : SpecV Tryz.prog 69 [.string s] h (.bool (termB s)) := by
  refine SpecP.enter cl69 Tryz.func69 rfl Tryz.ntmps69 rfl fun E R => ?_
  refine Wc.seq ?_
  refine Wc.region ?_
  refine Wl.assign rfl rfl ?_
  refine Wl.nil ?_
  refine Wx.then_code ?_
  refine Wc.seq ?_
  refine Wc.region ?_
  refine Wl.move rfl rfl ?_
  refine Wl.callV rfl rfl rfl (isVariable_spec s h) ?_
  refine Wl.move rfl rfl ?_
  apply Wl.orB (l1 := [_, _, _]) (i := 5) (d := 8)
  · rfl
  · intro hg1
    refine Wl.guardNo rfl rfl rfl rfl ?_
    refine Wl.guardNo rfl rfl rfl rfl ?_
    refine Wl.pickT rfl rfl rfl ?_
    refine Wl.nil ?_
    exact Wx.reach (.cons rfl (.skip rfl (.skip rfl (.skip rfl (.same rfl (by rw [hg1]) (.refl _))))))
  · intro hg1
    refine Wl.guardYes rfl rfl ?_
    refine Wl.move rfl rfl ?_
    refine Wl.guardYes rfl rfl ?_
    refine Wl.callV rfl rfl rfl (isIndividual_spec s h g) ?_
    refine Wl.pickF rfl rfl rfl ?_
    refine Wl.nil ?_
    exact Wx.reach (.cons rfl (.skip rfl (.skip rfl (.skip rfl (.same rfl (by rw [hg1]) (.refl _))))))
  refine Wl.assign rfl rfl ?_
  refine Wl.nil ?_
  refine Wx.then_code ?_
  refine Wc.ret ?_
  exact endV .ret (.inl rfl) rfl rfl [] (Ghost.le.refl _) rfl
end Go.Proofs.YtgpmjggdloldnaaGreatDoor

namespace Go.Proofs.YtgpmjggdloldnaaGreatDoor
open Go Go.Sx
set_option maxRecDepth 100000
structure Atom where
  kind : Int
  name : ByteArray
  x : ByteArray
  y : ByteArray
  lo : Int
  hi : Int
  deriving DecidableEq
def Atom.enc (a : Atom) : List Value := [.int .i64 a.kind, .string a.name, .string a.x, .string a.y, .int .i64 a.lo, .int .i64 a.hi]
/-- the rules of the kinds: Y, then numbers -/
def kindsV : List Value := [.bool false, .bool false, .bool false, .bool false, .bool true, .bool false, .bool false, .bool true]
theorem kinds_spec (h : Ghost) : SpecV Tryz.prog 66 [] h (.agg kindsV.toArray) := by
  refine SpecP.enter cl66 Tryz.func66 rfl Tryz.ntmps66 rfl fun E R => ?_
  refine Wc.seq ?_
  refine Wc.region ?_
  refine Wl.alloc ty106 rfl rfl (fun b1 => ?_)
  refine Wl.nil ?_
  refine Wx.then_code ?_
  refine Wc.seq ?_
  refine Wc.region ?_
  refine Wl.build bd105 rfl (by repeat (first | rfl | exact .nil | exact .here | apply SetL.there | apply SetLs.cons | apply FillR.cons)) rfl ?_
  refine Wl.build bd105 rfl (by repeat (first | rfl | exact .nil | exact .here | apply SetL.there | apply SetLs.cons | apply FillR.cons)) rfl ?_
  refine Wl.build bd105 rfl (by repeat (first | rfl | exact .nil | exact .here | apply SetL.there | apply SetLs.cons | apply FillR.cons)) rfl ?_
  refine Wl.build bd106 rfl (by repeat (first | rfl | exact .nil | exact .here | apply SetL.there | apply SetLs.cons | apply FillR.cons)) rfl ?_
  refine Wl.storeA ty106 rfl rfl (by rfl) (by repeat (first | exact .here | apply Upd.there)) (by rfl) (by rfl) (by rfl) ?_
  refine Wl.nil ?_
  refine Wx.then_code ?_
  refine Wc.ret ?_
  exact Fin.slots (L := [_]) .ret (.inl rfl) (run_cellA rfl ty106 rfl .here rfl) (Ghost.le.refl _) fun _ _ => ⟨rfl, rfl⟩
theorem kinds_at (k : Int) (h1 : 1 ≤ k) (h2 : k ≤ 3) : Value.agg ((kindsV.drop (k.toNat * 2)).take 2).toArray = .agg #[.bool (k == 2), .bool (k == 3)] := by
  rcases (show k = 1 ∨ k = 2 ∨ k = 3 by omega) with rfl | rfl | rfl <;> rfl
def Atom.terms (a : Atom) : List ByteArray := if a.kind = 2 then [a.x, a.y] else [a.x]
theorem termsOf_spec (a : Atom) (h : Ghost) : SpecP Tryz.prog 68 [.agg a.enc.toArray] h fun v h' => Strs h' v a.terms := by
  refine SpecP.enter cl68 Tryz.func68 rfl Tryz.ntmps68 rfl fun E R => ?_
  refine Wc.seq ?_
  refine Wc.region ?_
  refine Wl.box rfl (by rfl) rfl (fun b1 => ?_)
  refine Wl.assign rfl rfl ?_
  refine Wl.nil ?_
  refine Wx.then_code ?_
  refine Wc.seq ?_
  refine Wc.seq ?_
  refine Wc.region ?_
  refine Wl.field fd37_0 rfl rfl ?_
  refine Wl.loadO ty3 rfl (by repeat (first | exact .here | apply Has.there)) rfl rfl ?_
  refine Wl.iEql rfl rfl rfl ?_
  refine Wl.nil ?_
  refine Wx.then_code ?_
  refine Wc.condS rfl (fun hc1 => ?_) (fun hc1 => ?_)
  refine Wc.seq ?_
  refine Wc.region ?_
  refine Wl.field fd37_2 rfl rfl ?_
  refine Wl.loadO ty9 rfl (by repeat (first | exact .here | apply Has.there)) rfl rfl ?_
  refine Wl.field fd37_3 rfl rfl ?_
  refine Wl.loadO ty9 rfl (by repeat (first | exact .here | apply Has.there)) rfl rfl ?_
  refine Wl.buildSlice sl25 rfl rfl rfl (by repeat (first | rfl | exact .nil | apply Cellss.cons)) rfl rfl rfl (fun b2 => ?_)
  refine Wl.assign rfl rfl ?_
  refine Wl.nil ?_
  refine Wx.then_code ?_
  refine Wc.ret ?_
  refine Wx.then_ret ?_
  · refine endP (L := [_, _]) .ret (.inl rfl) rfl rfl (Ghost.le.refl _) fun hL _ => ?_
    rw [show a.terms = [a.x, a.y] by simp [Atom.terms, of_beq hc1]]
    exact Strs.of_row (l := [a.x, a.y]) (hL _ (List.mem_append_left _ List.mem_cons_self)) (Nat.le_refl _)
  refine Wc.skip ?_
  refine Wx.then_code ?_
  refine Wc.seq ?_
  refine Wc.region ?_
  refine Wl.field fd37_2 rfl rfl ?_
  refine Wl.loadO ty9 rfl (by repeat (first | exact .here | apply Has.there)) rfl rfl ?_
  refine Wl.buildSlice sl25 rfl rfl rfl (by repeat (first | rfl | exact .nil | apply Cellss.cons)) rfl rfl rfl (fun b3 => ?_)
  refine Wl.assign rfl rfl ?_
  refine Wl.nil ?_
  refine Wx.then_code ?_
  refine Wc.ret ?_
  · refine endP (L := [_, _]) .ret (.inl rfl) rfl rfl (Ghost.le.refl _) fun hL _ => ?_
    rw [show a.terms = [a.x] by simp [Atom.terms, of_nbeq hc1]]
    exact Strs.of_row (l := [a.x]) (hL _ (List.mem_append_left _ List.mem_cons_self)) (Nat.le_refl _)
def kindBad (a : Atom) : Bool := decide (a.kind < 1) || decide (3 < a.kind)
def fieldsBad (a : Atom) : Bool := (!a.kind == 2 && !a.y.toList == (⟨#[]⟩ : ByteArray).toList) || (!a.kind == 3 && (a.lo != 0 || a.hi != 0))
def numsBad (a : Atom) : Bool := (decide (a.lo < -1099511627776) || decide (a.hi < a.lo)) || decide (1099511627776 < a.hi)
/-- the error of an atom -/
def atomE (a : Atom) : Int := if kindBad a then 210 else if fieldsBad a then 210 else if numsBad a then 210 else if !individualB a.name then 20 else if a.terms.all termB then 0 else 20
theorem checkAtom_spec (a : Atom) (h : Ghost) (g : Gl h) : SpecV Tryz.prog 47 [.agg a.enc.toArray] h (.int .i64 (atomE a)) := by
  refine SpecP.enter cl47 Tryz.func47 rfl Tryz.ntmps47 rfl fun E R => ?_
  refine Wc.seq ?_
  refine Wc.region ?_
  refine Wl.box rfl (by rfl) rfl (fun b1 => ?_)
  refine Wl.assign rfl rfl ?_
  refine Wl.nil ?_
  refine Wx.then_code ?_
  refine Wc.seq ?_
  refine Wc.seq ?_
  refine Wc.region ?_
  refine Wl.field fd37_0 rfl rfl ?_
  refine Wl.loadO ty3 rfl (by repeat (first | exact .here | apply Has.there)) rfl rfl ?_
  refine Wl.iLss rfl rfl rfl ?_
  refine Wl.move rfl rfl ?_
  apply Wl.orB (l1 := [_, _, _, _]) (i := 9) (d := 13)
  · rfl
  · intro hg1
    refine Wl.guardNo rfl rfl rfl rfl ?_
    refine Wl.guardNo rfl rfl rfl rfl ?_
    refine Wl.guardNo rfl rfl rfl rfl ?_
    refine Wl.pickT rfl rfl rfl ?_
    refine Wl.nil ?_
    exact Wx.reach (.cons rfl (.skip rfl (.skip rfl (.skip rfl (.skip rfl (.same rfl (by rw [hg1]) (.refl _)))))))
  · intro hg1
    refine Wl.guardYes rfl rfl ?_
    refine Wl.field fd37_0 rfl rfl ?_
    refine Wl.guardYes rfl rfl ?_
    refine Wl.loadO ty3 rfl (by repeat (first | exact .here | apply Has.there)) rfl rfl ?_
    refine Wl.guardYes rfl rfl ?_
    refine Wl.iGtr rfl rfl rfl ?_
    refine Wl.pickF rfl rfl rfl ?_
    refine Wl.nil ?_
    exact Wx.reach (.cons rfl (.skip rfl (.skip rfl (.skip rfl (.skip rfl (.same rfl (by rw [hg1]) (.refl _)))))))
  refine Wl.nil ?_
  refine Wx.then_code ?_
  refine Wc.condS rfl (fun hc2 => ?_) (fun hc2 => ?_)
  refine Wc.seq ?_
  refine Wc.region ?_
  refine Wl.assign rfl rfl ?_
  refine Wl.nil ?_
  refine Wx.then_code ?_
  refine Wc.ret ?_
  refine Wx.then_ret ?_
  exact endV .ret (.inl rfl) rfl rfl [_] (Ghost.le.refl _) (by rw [atomE, if_pos (show kindBad a = true from hc2)])
  refine Wc.skip ?_
  refine Wx.then_code ?_
  refine Wc.seq ?_
  have hk : 1 ≤ a.kind ∧ a.kind ≤ 3 := by simp at hc2; omega
  have hi : a.kind = (a.kind.toNat : Int) := by omega
  apply Wc.draw (m := 5) (D := [[], [], [1], [0, 2], []]) (Ys := [.det _, .det _, .det _, .det (.agg #[.bool (a.kind == 2), .bool (a.kind == 3)]), .rel (NewY 105 _)])
  · exact follows
  · kernel_rfl
  · rfl
  · rfl
  · rfl
  · skip
    apply Locs.mk
    · intro env K' h' S' hs hd hl hY
      refine Wl.callV rfl rfl rfl (kinds_spec h') ?_
      refine Wl.nil ?_
      exact Wx.gives0 _ (Ghost.le.refl _) ⟨rfl, rfl⟩ (Sub.refl _)
    apply Locs.mk
    · intro env K' h' S' hs hd hl hY
      refine Wl.field fd37_0 (hs _ _ rfl) rfl ?_
      refine Wl.nil ?_
      exact Wx.gives0 _ (Ghost.le.refl _) ⟨rfl, rfl⟩ (Sub.refl _)
    apply Locs.mk
    · intro env K' h' S' hs hd hl hY
      refine Wl.loadO ty3 (detL (hd 1 (by decide)) (hY 1 (by decide))) (Has.right (by repeat (first | exact .here | apply Has.there))) rfl rfl ?_
      refine Wl.nil ?_
      exact Wx.gives0 _ (Ghost.le.refl _) ⟨rfl, rfl⟩ (Sub.refl _)
    apply Locs.mk
    · intro env K' h' S' hs hd hl hY
      refine Wl.indexA ar106 (detL (hd 0 (by decide)) (hY 0 (by decide))) (detL (hd 2 (by decide)) (hY 2 (by decide))) hi (by omega) rfl rfl ?_
      refine Wl.nil ?_
      exact Wx.gives0 _ (Ghost.le.refl _) ⟨(kinds_at a.kind hk.1 hk.2), rfl⟩ (Sub.refl _)
    apply Locs.mk
    · intro env K' h' S' hs hd hl hY
      refine Wl.alloc ty105 rfl rfl (fun b2 => ?_)
      refine Wl.nil ?_
      exact Wx.gives _ _ (Ghost.le.refl _) ⟨_, rfl, rfl⟩ (Sub.refl _)
    trivial
  · exact ⟨trivial, trivial, trivial, trivial, NewY.mono, trivial⟩
  intro h' hl'
  refine NewY.all fun b3 => ?_
  show Wl _ _ _ [_] _ ((3, _) :: (17, _) :: (16, _) :: (15, _) :: (14, _) :: _) _ _ _
  refine Wl.storeA ty105 rfl rfl (by rfl) (by repeat (first | exact .here | apply Upd.there)) (by rfl) (by rfl) (by rfl) ?_
  refine Wl.nil ?_
  refine Wx.then_code ?_
  refine Wc.seq ?_
  refine Wc.seq ?_
  refine Wc.region ?_
  refine Wl.field fd105_0 rfl rfl ?_
  refine Wl.loadO ty4 rfl (by repeat (first | exact .here | apply Has.there)) rfl rfl ?_
  refine Wl.not rfl rfl ?_
  refine Wl.move rfl rfl ?_
  apply Wl.andB (l1 := [_, _, _, _]) (i := 21) (d := 25)
  · rfl
  · intro hg3
    refine Wl.guardYes rfl rfl ?_
    refine Wl.field fd37_3 rfl rfl ?_
    refine Wl.guardYes rfl rfl ?_
    refine Wl.loadO ty9 rfl (by repeat (first | exact .here | apply Has.there)) rfl rfl ?_
    refine Wl.guardYes rfl rfl ?_
    refine Wl.sNeq rfl rfl rfl ?_
    refine Wl.pickT rfl rfl rfl ?_
    refine Wl.nil ?_
    exact Wx.reach (.cons rfl (.skip rfl (.skip rfl (.skip rfl (.skip rfl (.same rfl (by rw [hg3]) (.refl _)))))))
  · intro hg3
    refine Wl.guardNo rfl rfl rfl rfl ?_
    refine Wl.guardNo rfl rfl rfl rfl ?_
    refine Wl.guardNo rfl rfl rfl rfl ?_
    refine Wl.pickF rfl rfl rfl ?_
    refine Wl.nil ?_
    exact Wx.reach (.cons rfl (.skip rfl (.skip rfl (.skip rfl (.skip rfl (.same rfl (by rw [hg3]) (.refl _)))))))
  refine Wl.move rfl rfl ?_
  apply Wl.orB (l1 := [_, _, _, _, _, _, _, _, _, _, _, _, _, _]) (i := 26) (d := 40)
  · rfl
  · intro hg4
    refine Wl.guardNo rfl rfl rfl rfl ?_
    refine Wl.guardNo rfl rfl rfl rfl ?_
    refine Wl.guardNo rfl rfl rfl rfl ?_
    refine Wl.guardNo rfl rfl rfl rfl ?_
    refine Wl.guardUndef rfl rfl rfl ?_
    refine Wl.guardUndef rfl rfl rfl ?_
    refine Wl.guardUndef rfl rfl rfl ?_
    refine Wl.guardUndef rfl rfl rfl ?_
    refine Wl.guardUndef rfl rfl rfl ?_
    refine Wl.guardUndef rfl rfl rfl ?_
    refine Wl.guardUndef rfl rfl rfl ?_
    refine Wl.guardUndef rfl rfl rfl ?_
    refine Wl.guardNo rfl rfl rfl rfl ?_
    refine Wl.pickT rfl rfl rfl ?_
    refine Wl.nil ?_
    exact Wx.reach (.cons rfl (.skip rfl (.skip rfl (.skip rfl (.skip rfl (.skip rfl (.skip rfl (.skip rfl (.skip rfl (.skip rfl (.skip rfl (.skip rfl (.skip rfl (.skip rfl (.skip rfl (.same rfl (by rw [hg4]) (.refl _)))))))))))))))))
  · intro hg4
    refine Wl.guardYes rfl rfl ?_
    refine Wl.field fd105_1 rfl rfl ?_
    refine Wl.guardYes rfl rfl ?_
    refine Wl.loadO ty4 rfl (by repeat (first | exact .here | apply Has.there)) rfl rfl ?_
    refine Wl.guardYes rfl rfl ?_
    refine Wl.not rfl rfl ?_
    refine Wl.guardYes rfl rfl ?_
    refine Wl.move rfl rfl ?_
    apply Wl.andB (l1 := [_, _, _, _, _, _, _, _, _]) (i := 30) (d := 39)
    · rfl
    · intro hg5
      refine Wl.guardYes rfl rfl ?_
      refine Wl.field fd37_4 rfl rfl ?_
      refine Wl.guardYes rfl rfl ?_
      refine Wl.loadO ty3 rfl (by repeat (first | exact .here | apply Has.there)) rfl rfl ?_
      refine Wl.guardYes rfl rfl ?_
      refine Wl.iNeq rfl rfl rfl ?_
      refine Wl.guardYes rfl rfl ?_
      refine Wl.move rfl rfl ?_
      apply Wl.orB (l1 := [_, _, _, _]) (i := 34) (d := 38)
      · rfl
      · intro hg6
        refine Wl.guardNo rfl rfl rfl rfl ?_
        refine Wl.guardNo rfl rfl rfl rfl ?_
        refine Wl.guardNo rfl rfl rfl rfl ?_
        refine Wl.guardYes rfl rfl ?_
        refine Wl.pickT rfl rfl rfl ?_
        refine Wl.nil ?_
        exact Wx.reach (.cons rfl (.skip rfl (.skip rfl (.skip rfl (.skip rfl (.same rfl (by rw [hg6]) (.refl _)))))))
      · intro hg6
        refine Wl.guardYes rfl rfl ?_
        refine Wl.field fd37_5 rfl rfl ?_
        refine Wl.guardYes rfl rfl ?_
        refine Wl.loadO ty3 rfl (by repeat (first | exact .here | apply Has.there)) rfl rfl ?_
        refine Wl.guardYes rfl rfl ?_
        refine Wl.iNeq rfl rfl rfl ?_
        refine Wl.guardYes rfl rfl ?_
        refine Wl.pickF rfl rfl rfl ?_
        refine Wl.nil ?_
        exact Wx.reach (.cons rfl (.skip rfl (.skip rfl (.skip rfl (.skip rfl (.same rfl (by rw [hg6]) (.refl _)))))))
      refine Wl.guardYes rfl rfl ?_
      refine Wl.pickT rfl rfl rfl ?_
      refine Wl.nil ?_
      exact Wx.reach (.cons rfl (.skip rfl (.skip rfl (.skip rfl (.skip rfl (.skip rfl (.skip rfl (.same rfl (by rw [hg5]) (.refl _)))))))))
    · intro hg5
      refine Wl.guardNo rfl rfl rfl rfl ?_
      refine Wl.guardNo rfl rfl rfl rfl ?_
      refine Wl.guardNo rfl rfl rfl rfl ?_
      refine Wl.guardNo rfl rfl rfl rfl ?_
      refine Wl.guardUndef rfl rfl rfl ?_
      refine Wl.guardUndef rfl rfl rfl ?_
      refine Wl.guardUndef rfl rfl rfl ?_
      refine Wl.guardNo rfl rfl rfl rfl ?_
      refine Wl.guardYes rfl rfl ?_
      refine Wl.pickF rfl rfl rfl ?_
      refine Wl.nil ?_
      exact Wx.reach (.cons rfl (.skip rfl (.skip rfl (.skip rfl (.skip rfl (.skip rfl (.skip rfl (.skip rfl (.skip rfl (.skip rfl (.same rfl (by rw [hg5]) (.refl _))))))))))))
    refine Wl.pickF rfl rfl rfl ?_
    refine Wl.nil ?_
    exact Wx.reach (.cons rfl (.skip rfl (.skip rfl (.skip rfl (.skip rfl (.skip rfl (.skip rfl (.same rfl (by rw [hg4]) (.refl _)))))))))
  refine Wl.nil ?_
  refine Wx.then_code ?_
  refine Wc.condS rfl (fun hc7 => ?_) (fun hc7 => ?_)
  refine Wc.seq ?_
  refine Wc.region ?_
  refine Wl.assign rfl rfl ?_
  refine Wl.nil ?_
  refine Wx.then_code ?_
  refine Wc.ret ?_
  refine Wx.then_ret ?_
  exact endV .ret (.inl rfl) rfl rfl [_, _] hl' (by rw [atomE, if_neg (by simp [kindBad, hc2]), if_pos (show fieldsBad a = true from hc7)])
  refine Wc.skip ?_
  refine Wx.then_code ?_
  refine Wc.seq ?_
  refine Wc.seq ?_
  refine Wc.region ?_
  refine Wl.field fd37_4 rfl rfl ?_
  refine Wl.loadO ty3 rfl (by repeat (first | exact .here | apply Has.there)) rfl rfl ?_
  refine Wl.iLss rfl rfl rfl ?_
  refine Wl.move rfl rfl ?_
  apply Wl.orB (l1 := [_, _, _, _, _, _]) (i := 44) (d := 50)
  · rfl
  · intro hg8
    refine Wl.guardNo rfl rfl rfl rfl ?_
    refine Wl.guardNo rfl rfl rfl rfl ?_
    refine Wl.guardNo rfl rfl rfl rfl ?_
    refine Wl.guardNo rfl rfl rfl rfl ?_
    refine Wl.guardNo rfl rfl rfl rfl ?_
    refine Wl.pickT rfl rfl rfl ?_
    refine Wl.nil ?_
    exact Wx.reach (.cons rfl (.skip rfl (.skip rfl (.skip rfl (.skip rfl (.skip rfl (.skip rfl (.same rfl (by rw [hg8]) (.refl _)))))))))
  · intro hg8
    refine Wl.guardYes rfl rfl ?_
    refine Wl.field fd37_4 rfl rfl ?_
    refine Wl.guardYes rfl rfl ?_
    refine Wl.loadO ty3 rfl (by repeat (first | exact .here | apply Has.there)) rfl rfl ?_
    refine Wl.guardYes rfl rfl ?_
    refine Wl.field fd37_5 rfl rfl ?_
    refine Wl.guardYes rfl rfl ?_
    refine Wl.loadO ty3 rfl (by repeat (first | exact .here | apply Has.there)) rfl rfl ?_
    refine Wl.guardYes rfl rfl ?_
    refine Wl.iGtr rfl rfl rfl ?_
    refine Wl.pickF rfl rfl rfl ?_
    refine Wl.nil ?_
    exact Wx.reach (.cons rfl (.skip rfl (.skip rfl (.skip rfl (.skip rfl (.skip rfl (.skip rfl (.same rfl (by rw [hg8]) (.refl _)))))))))
  refine Wl.move rfl rfl ?_
  apply Wl.orB (l1 := [_, _, _, _]) (i := 51) (d := 55)
  · rfl
  · intro hg9
    refine Wl.guardNo rfl rfl rfl rfl ?_
    refine Wl.guardNo rfl rfl rfl rfl ?_
    refine Wl.guardNo rfl rfl rfl rfl ?_
    refine Wl.pickT rfl rfl rfl ?_
    refine Wl.nil ?_
    exact Wx.reach (.cons rfl (.skip rfl (.skip rfl (.skip rfl (.skip rfl (.same rfl (by rw [hg9]) (.refl _)))))))
  · intro hg9
    refine Wl.guardYes rfl rfl ?_
    refine Wl.field fd37_5 rfl rfl ?_
    refine Wl.guardYes rfl rfl ?_
    refine Wl.loadO ty3 rfl (by repeat (first | exact .here | apply Has.there)) rfl rfl ?_
    refine Wl.guardYes rfl rfl ?_
    refine Wl.iGtr rfl rfl rfl ?_
    refine Wl.pickF rfl rfl rfl ?_
    refine Wl.nil ?_
    exact Wx.reach (.cons rfl (.skip rfl (.skip rfl (.skip rfl (.skip rfl (.same rfl (by rw [hg9]) (.refl _)))))))
  refine Wl.nil ?_
  refine Wx.then_code ?_
  refine Wc.condS rfl (fun hc10 => ?_) (fun hc10 => ?_)
  refine Wc.seq ?_
  refine Wc.region ?_
  refine Wl.assign rfl rfl ?_
  refine Wl.nil ?_
  refine Wx.then_code ?_
  refine Wc.ret ?_
  refine Wx.then_ret ?_
  exact endV .ret (.inl rfl) rfl rfl [_, _] hl' (by rw [atomE, if_neg (by simp [kindBad, hc2]), if_neg (by rw [show fieldsBad a = false from hc7]; simp), if_pos (show numsBad a = true from hc10)])
  refine Wc.skip ?_
  refine Wx.then_code ?_
  refine Wc.seq ?_
  refine Wc.seq ?_
  refine Wc.region ?_
  refine Wl.field fd37_1 rfl rfl ?_
  refine Wl.loadO ty9 rfl (by repeat (first | exact .here | apply Has.there)) rfl rfl ?_
  have hE : atomE a = if !individualB a.name then 20 else if a.terms.all termB then 0 else 20 := by
    rw [atomE, if_neg (by simp [kindBad, hc2]), if_neg (by rw [show fieldsBad a = false from hc7]; simp), if_neg (by rw [show numsBad a = false from hc10]; simp)]
  have hl2' : a.terms.length ≤ 2 := by unfold Atom.terms; split <;> simp
  refine Wl.callV rfl rfl rfl (isIndividual_spec _ h' (g.mono hl')) ?_
  refine Wl.not rfl rfl ?_
  refine Wl.nil ?_
  refine Wx.then_code ?_
  refine Wc.condS rfl (fun hc11 => ?_) (fun hc11 => ?_)
  refine Wc.seq ?_
  refine Wc.region ?_
  refine Wl.assign rfl rfl ?_
  refine Wl.nil ?_
  refine Wx.then_code ?_
  refine Wc.ret ?_
  refine Wx.then_ret ?_
  exact endV .ret (.inl rfl) rfl rfl [_, _] hl' (by rw [hE, if_pos hc11])
  refine Wc.skip ?_
  refine Wx.then_code ?_
  refine Wc.seq ?_
  refine Wc.seq ?_
  refine Wc.region ?_
  refine Wl.loadOA ty37 rfl (by repeat (first | exact .here | apply Has.there)) rfl rfl ?_
  refine Wl.callP rfl rfl rfl (termsOf_spec a h') fun v h2 hl2 hv => ?_
  obtain ⟨ao, cap, rfl, hcap⟩ := hv.shape
  refine Wl.slLen Tryz.underlying25 rfl rfl ?_
  refine Wl.move rfl rfl ?_
  refine Wl.nil ?_
  refine Wx.then_code ?_
  refine Wc.block ?_
  refine Wc.loop (ι := Nat) (fun i => i ≤ a.terms.length ∧ (a.terms.take i).all termB = true) (fun i => [(61, .slice ao a.terms.length cap), (62, .int .i64 a.terms.length), (63, .int .i64 i)]) (fun _ => h2) (fun _ => _) (fun i => a.terms.length - i) 0
    ⟨Nat.zero_le _, rfl⟩ (.cons rfl (.cons rfl (.cons rfl (.nil _)))) rfl rfl fun i ⟨hi, hall⟩ => ?_
  refine Wc.seq ?_
  refine Wc.region ?_
  refine Wl.iLss rfl rfl rfl ?_
  refine Wl.nil ?_
  refine Wx.then_code ?_
  refine Wc.seq ?_
  refine Wc.condS rfl (fun hc12 => ?_) (fun hc12 => ?_)
  refine Wc.skip ?_
  refine Wx.then_code ?_
  refine Wc.seq ?_
  refine Wc.block ?_
  refine Wc.seq ?_
  refine Wc.region ?_
  have hlt : i < a.terms.length := by have := of_decide_eq_true hc12; omega
  have hx := List.getElem?_eq_getElem hlt
  refine Wl.elemF sl25 rfl hv rfl rfl hx rfl fun b o hseg => ?_
  refine Wl.loadG1 ty9 rfl hseg rfl ?_
  refine Wl.assign rfl rfl ?_
  refine Wl.nil ?_
  refine Wx.then_code ?_
  refine Wc.seq ?_
  refine Wc.region ?_
  refine Wl.move rfl rfl ?_
  refine Wl.callV rfl rfl rfl (isTerm_spec _ h2 ((g.mono hl').mono hl2)) ?_
  refine Wl.not rfl rfl ?_
  refine Wl.nil ?_
  refine Wx.then_code ?_
  refine Wc.condS rfl (fun hc13 => ?_) (fun hc13 => ?_)
  refine Wc.seq ?_
  refine Wc.region ?_
  refine Wl.assign rfl rfl ?_
  refine Wl.nil ?_
  refine Wx.then_code ?_
  refine Wc.ret ?_
  refine Wx.block_ret ?_
  refine Wx.then_ret ?_
  refine Wx.then_ret ?_
  refine Wx.block_ret ?_
  refine Wx.then_ret ?_
  · have hb : termB a.terms[i] = false := by simpa using hc13
    exact endV .ret (.inl rfl) rfl rfl [_, _] (hl'.trans hl2) (by
      rw [hE, if_neg (by rw [hc11]; simp), if_neg]
      rw [List.all_eq_true]; intro h; rw [h _ (List.getElem_mem hlt)] at hb; cases hb)
  refine Wc.skip ?_
  refine Wx.block_normal ?_
  refine Wx.then_code ?_
  refine Wc.region ?_
  refine Wl.inc rfl rfl (by first | assumption | omega | (have hx := of_decide_eq_true hc13; omega) | (have hx := of_decide_eq_true hc12; omega) | (have hx := of_decide_eq_true hc11; omega) | (have hx := of_decide_eq_true hc10; omega)) ?_
  refine Wl.move rfl rfl ?_
  refine Wl.nil ?_
  · have hb : termB a.terms[i] = true := by simpa using hc13
    exact Wx.again (i + 1) ⟨hlt, all_take_succ hx hall hb⟩ (by omega) (.cons rfl (.cons rfl (.cons rfl (.nil _)))) rfl .refl
  refine Wc.exit ?_
  refine Wx.then_exit ?_
  refine Wx.then_exit ?_
  refine Wx.block_exit ?_
  refine Wx.then_code ?_
  refine Wc.seq ?_
  refine Wc.region ?_
  refine Wl.assign rfl rfl ?_
  refine Wl.nil ?_
  refine Wx.then_code ?_
  refine Wc.ret ?_
  exact endV .ret (.inl rfl) rfl rfl [_, _] (hl'.trans hl2) (by
    have hi' : i = a.terms.length := by have := of_decide_eq_false hc12; omega
    rw [hi', List.take_length] at hall
    rw [hE, if_neg (by rw [hc11]; simp), if_pos hall])
end Go.Proofs.YtgpmjggdloldnaaGreatDoor

namespace Go.Sx
open Go
section
variable {E : World} {h : Ghost} {S : Frag} {w : World}
theorem Heap.grow (H : Heap E h S w) (os : Array Obj) : Heap E h S (Go.Sort.grow w os) := by
  have up : ∀ b x, w.heap[b]? = some x → (w.heap ++ os)[b]? = some x := fun b x e => by
    rw [Array.getElem?_append_left (Array.getElem?_eq_some_iff.1 e).1]; exact e
  exact ⟨H.os, H.tape, H.output, H.drawn, fun b x e => up b x (H.imm b x e), fun p hp => up _ _ (H.own p hp), H.fresh, H.nodup⟩
theorem Heap.ahead (H : Heap E h S w) (n : Nat) : Heap E h S (Go.Sort.ahead w n) := ⟨H.os, H.tape, H.output, Nat.le_trans H.drawn (Nat.le_add_right _ _), H.imm, H.own, H.fresh, H.nodup⟩
theorem Heap.putRow {α : Type} [Inhabited α] {enc : α → Value} {b : Nat} {T : TypeId} {d d' : List α} {sp : List Value} (H : Heap E h ((b, cells (d.map enc ++ sp) T) :: S) w) (hl : d'.length = d.length) :
    Heap E h ((b, cells (d'.map enc ++ sp) T) :: S) (Go.Sort.putRow enc w b 0 d'.toArray) := by
  have hb := H.own _ List.mem_cons_self
  have hlt := H.lt List.mem_cons_self
  refine H.set _ ?_ rfl rfl rfl
  unfold Go.Sort.putRow Go.Sort.mapBlock
  apply Array.ext_getElem?
  intro j
  by_cases hj : b = j
  · subst hj
    simp only [Array.getElem?_modify, if_true, Array.getElem?_setIfInBounds_self]
    simp only at hb hlt
    rw [hb, if_pos hlt]
    simp only [Option.map_some, cells, Go.Sort.onCells]
    congr 2
    apply Array.ext_getElem?
    intro k
    unfold Go.Sort.putCells
    simp only [Array.getElem?_mapIdx, Nat.zero_le, Nat.zero_add, true_and, List.size_toArray, List.getElem?_toArray]
    rcases Nat.lt_or_ge k d'.length with hk | hk
    · rw [List.getElem?_append_left (by rw [List.length_map]; omega), List.getElem?_append_left (by rw [List.length_map]; omega)]
      simp [hk, List.getElem?_eq_getElem (show k < d.length by omega)]
    · rw [List.getElem?_append_right (by rw [List.length_map]; omega), List.getElem?_append_right (by rw [List.length_map]; omega)]
      simp only [List.length_map, hl]
      cases hh : sp[k - d.length]? with
      | none => rfl
      | some x => simp only [Option.map_some]; rw [if_neg (by omega)]
  · rw [Array.getElem?_setIfInBounds_ne hj, Array.getElem?_modify, if_neg hj]
theorem Heap.holds {α : Type} [Inhabited α] {enc : α → Value} {b : Nat} {T : TypeId} {d : List α} {sp : List Value} (H : Heap E h ((b, cells (d.map enc ++ sp) T) :: S) w) : Go.Sort.Holds enc w b 0 d.toArray := fun j hj => by
  refine ⟨?_, H.ofrozen _⟩
  simp only [List.size_toArray] at hj
  rw [H.ocell, Nat.zero_add, List.getElem?_append_left (by simpa using hj)]
  simp [hj]
end
end Go.Sx
namespace Go.Proofs.YtgpmjggdloldnaaGreatDoor
open Go Go.Sx
set_option maxRecDepth 100000
def bytesOf (s : ByteArray) : List UInt8 := s.data.toList
def strOf (l : List UInt8) : ByteArray := ⟨l.toArray⟩
theorem strOf_bytesOf (s : ByteArray) : strOf (bytesOf s) = s := rfl
theorem map_strE (l : List ByteArray) : l.flatMap strE = (l.map bytesOf).map encStr := by
  induction l with
  | nil => rfl
  | cons s l ih => simp only [List.flatMap_cons, List.map_cons, strE, ih]; rfl
/-- sorted by bytes -/
def sortS (l : List ByteArray) : List ByteArray := ((l.map bytesOf).mergeSort fun x y => decide (x ≤ y)).map strOf
def compactS (l : List ByteArray) : List ByteArray := (Lib.compact (l.map bytesOf)).map strOf
theorem map_bytesOf_strOf (l : List (List UInt8)) : (l.map strOf).map bytesOf = l := by
  rw [List.map_map]; conv => rhs; rw [← List.map_id l]
  exact List.map_congr_left fun _ _ => rfl
theorem SortS_spec {F : Frag} {v : Value} {l : List ByteArray} (h : Ghost) (hr : Row F v 9 1 l.length (l.flatMap strE)) (hs : l.length < 4611686018427387904) :
    Sx.Spec Tryz.prog 72 [v] h [F] fun u h' F' => u = .tuple #[] ∧ h' = h ∧ ∃ F1, F' = [F1] ∧ Row F1 v 9 1 l.length ((sortS l).flatMap strE) := by
  refine ⟨cl72, fun E R w A => ?_⟩
  rcases hr.2 with ⟨rfl, rfl, h0⟩ | ⟨b, cap, sp, rfl, rfl, hc, hl⟩
  · have hl0 : l = [] := List.eq_nil_of_length_eq_zero h0
    subst hl0
    refine (Tryz.slices_Sort_string_none none 0 w).mono ?_
    rintro e w' ⟨rfl, rfl⟩
    exact ⟨_, h, [[]], rfl, Ghost.le.refl _, A, rfl, rfl, [], rfl, by simpa [sortS] using Row.nil 9 1⟩
  · have A' : Heap E h ((b, cells ((l.map bytesOf).map encStr ++ sp) 9) :: R.flatten) w := by rw [← map_strE]; exact A
    have hlen : (l.map bytesOf).length = l.length := by simp
    have := Tryz.slices_Sort_string b 0 cap (l.map bytesOf) w A'.holds (A'.lt List.mem_cons_self) (by omega)
    rw [hlen] at this
    refine this.mono ?_
    rintro e w' ⟨rfl, n, os, rfl⟩
    have hlen2 : ((l.map bytesOf).mergeSort fun x y => decide (x ≤ y)).length = (l.map bytesOf).length := List.length_mergeSort _
    have hB := ((A'.ahead n).putRow hlen2).grow os
    have e1 : ((sortS l).flatMap strE) = ((l.map bytesOf).mergeSort fun x y => decide (x ≤ y)).map encStr := by rw [map_strE, sortS, map_bytesOf_strOf]
    refine ⟨_, h, [[(b, cells (((sortS l).flatMap strE) ++ sp) 9)]], rfl, Ghost.le.refl _, by rw [e1]; exact hB, rfl, rfl, _, rfl, ?_, .inr ⟨b, cap, sp, rfl, rfl, hc, ?_⟩⟩
    · rw [e1, List.length_map, hlen2, hlen]; omega
    · rw [← hl, List.length_append, List.length_append, e1, List.length_map, hlen2, hlen, map_strE, List.length_map, hlen]
theorem CompactS_spec {F : Frag} {v : Value} {l : List ByteArray} (h : Ghost) (hr : Row F v 9 1 l.length (l.flatMap strE)) (hs : l.length ≤ 9223372036854775807) :
    Sx.Spec Tryz.prog 73 [v] h [F] fun u h' F' => h' = h ∧ ∃ F1, F' = [F1] ∧ Row F1 u 9 1 (compactS l).length ((compactS l).flatMap strE) := by
  refine ⟨cl73, fun E R w A => ?_⟩
  rcases hr.2 with ⟨rfl, rfl, h0⟩ | ⟨b, cap, sp, rfl, rfl, hc, hl⟩
  · have hl0 : l = [] := List.eq_nil_of_length_eq_zero h0
    subst hl0
    refine (Tryz.slices_Compact_string_empty none 0 w).mono ?_
    rintro e w' ⟨rfl, rfl⟩
    exact ⟨_, h, [[]], rfl, Ghost.le.refl _, A, rfl, [], rfl, Row.nil _ _⟩
  · have A' : Heap E h ((b, cells ((l.map bytesOf).map encStr ++ sp) 9) :: R.flatten) w := by rw [← map_strE]; exact A
    have hlen : (l.map bytesOf).length = l.length := by simp
    have := Tryz.slices_Compact_string b 0 cap (l.map bytesOf) w A'.holds (by omega) (by omega)
    rw [hlen] at this
    refine this.mono ?_
    rintro e w' ⟨rfl, n, rfl⟩
    have hle := Lib.compact_length_le (l.map bytesOf)
    have hlen2 : (Lib.compact (l.map bytesOf) ++ List.replicate (l.length - (Lib.compact (l.map bytesOf)).length) []).length = (l.map bytesOf).length := by
      rw [List.length_append, List.length_replicate]; omega
    have hB := (A'.ahead n).putRow hlen2
    have e0 : (compactS l).length = (Lib.compact (l.map bytesOf)).length := by rw [compactS, List.length_map]
    have e1 : ((compactS l).flatMap strE) = (Lib.compact (l.map bytesOf)).map encStr := by rw [map_strE, compactS, map_bytesOf_strOf]
    rw [List.map_append, List.append_assoc, ← e1] at hB
    refine ⟨_, h, [[(b, cells (((compactS l).flatMap strE) ++ ((List.replicate (l.length - (Lib.compact (l.map bytesOf)).length) []).map encStr ++ sp)) 9)]], rfl, Ghost.le.refl _, hB, rfl, _, rfl, ?_, .inr ⟨b, cap, _, rfl, by rw [e0], by omega, ?_⟩⟩
    · rw [e1, List.length_map, e0]; omega
    · rw [← hl]
      simp only [List.length_append, List.length_map, List.length_replicate, e1]
      rw [map_strE, List.length_map, hlen]; omega

theorem one_strE (s : ByteArray) : ∀ u ∈ strE s, Sx.one u := fun u hu => by
  simp only [strE, List.mem_singleton] at hu; subst hu; rfl
theorem compactS_le (l : List ByteArray) : (compactS l).length ≤ l.length := by
  have := Lib.compact_length_le (l.map bytesOf); simpa [compactS] using this
theorem sortS_length (l : List ByteArray) : (sortS l).length = l.length := by simp [sortS]
theorem filter_take_no {α : Type} {l : List α} {p : α → Bool} {i : Nat} {x : α} (hx : l[i]? = some x) (h : p x = false) : (l.take (i + 1)).filter p = (l.take i).filter p := by
  rw [List.take_add_one, hx, List.filter_append]; simp [h]
theorem filter_take_yes {α : Type} {l : List α} {p : α → Bool} {i : Nat} {x : α} (hx : l[i]? = some x) (h : p x = true) : (l.take (i + 1)).filter p = (l.take i).filter p ++ [x] := by
  rw [List.take_add_one, hx, List.filter_append]; simp [h]
/-- slices of atoms -/
def Atoms (h : Ghost) (v : Value) (l : List Atom) : Prop := Sl h (fun x vs => vs = Atom.enc x) 6 v l
theorem Atoms.mono {h h' : Ghost} {v : Value} {l : List Atom} (H : Atoms h v l) (hl : h.le h') : Atoms h' v l := Sl.mono H hl fun _ _ _ e => e
/-- the variables of an atom, as they come up -/
def Atom.vars (a : Atom) : List ByteArray := [a.x, a.y].filter looksB
def varsRaw (l : List Atom) : List ByteArray := l.flatMap Atom.vars
def varsOf (l : List Atom) : List ByteArray := compactS (sortS (varsRaw l))
theorem vars_le (a : Atom) : a.vars.length ≤ 2 := List.length_filter_le _ _
theorem varsRaw_le (l : List Atom) : (varsRaw l).length ≤ l.length * 2 := by
  induction l with
  | nil => simp [varsRaw]
  | cons a l ih => simp only [varsRaw, List.flatMap_cons, List.length_append, List.length_cons]; have := vars_le a; unfold varsRaw at ih; omega
theorem Variables_spec (v : Value) (l : List Atom) (h : Ghost) (hv : Atoms h v l) (hl : l.length ≤ 1000000) :
    SpecP Tryz.prog 49 [.agg #[v]] h fun u h' => Strs h' u (varsOf l) := by
  obtain ⟨ao, cap, rfl, hcap⟩ := hv.shape
  refine SpecP.enter cl49 Tryz.func49 rfl Tryz.ntmps49 rfl fun E R => ?_
  refine Wc.seq ?_
  refine Wc.region ?_
  refine Wl.box rfl (by rfl) rfl (fun b1 => ?_)
  refine Wl.assign rfl rfl ?_
  refine Wl.nil ?_
  refine Wx.then_code ?_
  refine Wc.seq ?_
  refine Wc.seq ?_
  refine Wc.region ?_
  refine Wl.field fd24_0 rfl rfl ?_
  refine Wl.loadO ty22 rfl (by repeat (first | exact .here | apply Has.there)) rfl rfl ?_
  refine Wl.slLen Tryz.underlying22 rfl rfl ?_
  refine Wl.move rfl rfl ?_
  refine Wl.nil ?_
  refine Wx.then_code ?_
  refine Wc.block ?_
  refine Wc.addNil ?_
  refine Wc.loop (ι := Nat × Value × Frag) (fun x => x.1 ≤ l.length ∧ Row x.2.2 x.2.1 9 1 (varsRaw (l.take x.1)).length ((varsRaw (l.take x.1)).flatMap strE)) (fun x => [(2, x.2.1), (8, .slice ao l.length cap), (9, .int .i64 l.length), (10, .int .i64 x.1)]) (fun _ => _) (fun x => x.2.2 :: _) (fun x => l.length - x.1) (0, .slice none 0 0, [])
    ⟨Nat.zero_le _, Row.nil _ _⟩ (.cons rfl (.cons rfl (.cons rfl (.cons rfl (.nil _))))) rfl rfl fun ⟨i, u, F⟩ ⟨hi, hrow⟩ => ?_
  dsimp only at hi hrow
  refine Wc.seq ?_
  refine Wc.region ?_
  refine Wl.iLss rfl rfl rfl ?_
  refine Wl.nil ?_
  refine Wx.then_code ?_
  refine Wc.seq ?_
  refine Wc.condS rfl (fun hc1 => ?_) (fun hc1 => ?_)
  refine Wc.skip ?_
  refine Wx.then_code ?_
  refine Wc.seq ?_
  refine Wc.block ?_
  refine Wc.seq ?_
  refine Wc.region ?_
  have hlt : i < l.length := by simpa using hc1
  have hx := List.getElem?_eq_getElem hlt
  refine Wl.elemF sl22 rfl hv rfl rfl hx rfl fun b o hseg => ?_
  refine Wl.loadGA ty37 rfl hseg rfl rfl ?_
  refine Wl.alloc ty37 rfl rfl (fun b2 => ?_)
  refine Wl.storeA ty37 rfl rfl (by rfl) (by repeat (first | exact .here | apply Upd.there)) (by rfl) (by rfl) (by rfl) ?_
  refine Wl.nil ?_
  refine Wx.then_code ?_
  refine Wc.seq ?_
  refine Wc.region ?_
  refine Wl.field fd37_2 rfl rfl ?_
  refine Wl.loadO ty9 rfl (by repeat (first | exact .here | apply Has.there)) rfl rfl ?_
  refine Wl.field fd37_3 rfl rfl ?_
  refine Wl.loadO ty9 rfl (by repeat (first | exact .here | apply Has.there)) rfl rfl ?_
  refine Wl.build bd78 rfl (by repeat (first | rfl | exact .nil | exact .here | apply SetL.there | apply SetLs.cons | apply FillR.cons)) rfl ?_
  refine Wl.move rfl rfl ?_
  refine Wl.nil ?_
  refine Wx.then_code ?_
  refine Wc.block ?_
  refine Wc.drop ?_
  refine Wc.loop (ι := Nat × Value × Frag) (fun x => x.1 ≤ 2 ∧ Row x.2.2 x.2.1 9 1 (varsRaw (l.take i) ++ ([l[i].x, l[i].y].take x.1).filter looksB).length ((varsRaw (l.take i) ++ ([l[i].x, l[i].y].take x.1).filter looksB).flatMap strE))
    (fun x => [(2, x.2.1), (8, .slice ao l.length cap), (9, .int .i64 l.length), (10, .int .i64 i), (18, .agg #[.string l[i].x, .string l[i].y]), (19, .int .i64 x.1)]) (fun _ => _) (fun x => x.2.2 :: _) (fun x => 2 - x.1) (0, u, F)
    ⟨Nat.zero_le _, by simpa using hrow⟩ (.cons rfl (.cons rfl (.cons rfl (.cons rfl (.cons rfl (.cons rfl (.nil _))))))) rfl rfl fun ⟨j, u, F⟩ ⟨hj, hrow⟩ => ?_
  dsimp only at hj hrow
  refine Wc.seq ?_
  refine Wc.region ?_
  refine Wl.iLss rfl rfl rfl ?_
  refine Wl.nil ?_
  refine Wx.then_code ?_
  refine Wc.seq ?_
  refine Wc.condS rfl (fun hc2 => ?_) (fun hc2 => ?_)
  refine Wc.skip ?_
  refine Wx.then_code ?_
  refine Wc.seq ?_
  refine Wc.block ?_
  refine Wc.seq ?_
  refine Wc.region ?_
  have hlt2 : j < 2 := by have := of_decide_eq_true hc2; dsimp only at this; omega
  have hy2 : [l[i].x, l[i].y][j]? = some ([l[i].x, l[i].y][j]) := List.getElem?_eq_getElem hlt2
  refine Wl.index1 ar78 rfl rfl rfl hlt2 (show [Value.string l[i].x, .string l[i].y][j]? = some (.string ([l[i].x, l[i].y][j])) by (rcases (show j = 0 ∨ j = 1 by omega) with rfl | rfl <;> rfl)) rfl ?_
  refine Wl.assign rfl rfl ?_
  refine Wl.nil ?_
  refine Wx.then_code ?_
  refine Wc.seq ?_
  refine Wc.region ?_
  refine Wl.move rfl rfl ?_
  refine Wl.callV rfl rfl rfl (looksVariable_spec _ h) ?_
  refine Wl.nil ?_
  refine Wx.then_code ?_
  refine Wc.condS rfl (fun hc3 => ?_) (fun hc3 => ?_)
  refine Wc.region ?_
  refine Wl.move rfl rfl ?_
  refine Wl.move rfl rfl ?_
  refine Wl.buildSlice sl25 rfl rfl rfl (by repeat (first | rfl | exact .nil | apply Cellss.cons)) rfl rfl rfl (fun b3 => ?_)
  · refine Wl.append [_] _ (strE [l[i].x, l[i].y][j]) sl25 rfl rfl rfl hrow rfl rfl (srcO rfl .here (fun j u hj => by rw [Nat.zero_add]; exact hj)) (one_strE _) ?_ ?_ fun u2 F2 hrow2 => ?_
    · have := varsRaw_le (l.take i); have h2 := List.length_filter_le looksB (List.take j [l[i].x, l[i].y]); simp at this h2 ⊢; omega
    · have := varsRaw_le (l.take i); have h2 := List.length_filter_le looksB (List.take j [l[i].x, l[i].y]); simp at this h2 ⊢; omega
    refine Wl.assign rfl rfl ?_
    refine Wl.nil ?_
    refine Wx.block_normal ?_
    refine Wx.then_code ?_
    refine Wc.region ?_
    refine Wl.inc rfl rfl (by first | assumption | omega | (have hx := of_decide_eq_true hc3; omega) | (have hx := of_decide_eq_true hc2; omega) | (have hx := of_decide_eq_true hc1; omega)) ?_
    refine Wl.move rfl rfl ?_
    refine Wl.nil ?_
    · refine Wx.again (j + 1, u2, F2) ⟨hlt2, ?_⟩ (by dsimp only; omega) (.cons rfl (.cons rfl (.cons rfl (.cons rfl (.cons rfl (.cons rfl (.nil _))))))) rfl (.skip .refl)
      rw [List.take_add_one, hy2, List.filter_append, List.flatMap_append, ← List.append_assoc] ; simpa [hc3, List.flatMap_append, Nat.add_assoc] using hrow2
  refine Wc.skip ?_
  refine Wx.block_normal ?_
  refine Wx.then_code ?_
  refine Wc.region ?_
  refine Wl.inc rfl rfl (by first | assumption | omega | (have hx := of_decide_eq_true hc3; omega) | (have hx := of_decide_eq_true hc2; omega) | (have hx := of_decide_eq_true hc1; omega)) ?_
  refine Wl.move rfl rfl ?_
  refine Wl.nil ?_
  · refine Wx.again (j + 1, u, F) ⟨hlt2, ?_⟩ (by dsimp only; omega) (.cons rfl (.cons rfl (.cons rfl (.cons rfl (.cons rfl (.cons rfl (.nil _))))))) rfl .refl
    rw [filter_take_no hy2 hc3]; exact hrow
  refine Wc.exit ?_
  refine Wx.then_exit ?_
  refine Wx.then_exit ?_
  refine Wx.block_exit ?_
  refine Wx.block_normal ?_
  refine Wx.then_code ?_
  refine Wc.region ?_
  refine Wl.inc rfl rfl (by first | assumption | omega | (have hx := of_decide_eq_true hc2; omega) | (have hx := of_decide_eq_true hc1; omega)) ?_
  refine Wl.move rfl rfl ?_
  refine Wl.nil ?_
  · refine Wx.again (i + 1, u, F) ⟨hlt, ?_⟩ (by dsimp only; omega) (.cons rfl (.cons rfl (.cons rfl (.cons rfl (.nil _))))) rfl .refl
    have hj2 : j = 2 := by have := of_decide_eq_false hc2; dsimp only at this; omega
    subst hj2
    rw [List.take_add_one, hx, varsRaw, List.flatMap_append]
    simpa [Atom.vars, varsRaw] using hrow
  refine Wc.exit ?_
  refine Wx.then_exit ?_
  refine Wx.then_exit ?_
  refine Wx.block_exit ?_
  refine Wx.then_code ?_
  refine Wc.seq ?_
  refine Wc.region ?_
  refine Wl.move rfl rfl ?_
  have hi2 : i = l.length := by have := of_decide_eq_false hc1; dsimp only at this; omega
  subst hi2
  rw [List.take_length] at hrow
  have hle := varsRaw_le l
  have hle2 := compactS_le (sortS (varsRaw l))
  have hle3 := sortS_length (varsRaw l)
  refine Wl.call (F := [F]) (G := _) rfl rfl rfl rfl (SortS_spec h hrow (by omega)) (.refl _) fun _ h1 F' hl1 ⟨rfl, hh, F1, hF1, hrow1⟩ => ?_
  subst hh hF1
  refine Wl.nil ?_
  refine Wx.then_code ?_
  refine Wc.seq ?_
  refine Wc.region ?_
  refine Wl.move rfl rfl ?_
  refine Wl.call (F := [F1]) (G := _) rfl rfl rfl rfl (CompactS_spec h1 (l := sortS (varsRaw l)) (by rw [hle3]; exact hrow1) (by omega)) (.refl _) fun v2 h2 F' hl2 ⟨hh, F2, hF2, hrow2⟩ => ?_
  subst hh hF2
  refine Wl.assign rfl rfl ?_
  refine Wl.nil ?_
  refine Wx.then_code ?_
  refine Wc.ret ?_
  refine endP (L := [_, _]) .ret (.inl rfl) rfl rfl (Ghost.le.refl _) fun hL _ => ?_
  exact Row.sl (enc := strE) (fun _ => rfl) hrow2 rfl fun p hp => hL p (List.mem_append_left _ hp)
end Go.Proofs.YtgpmjggdloldnaaGreatDoor

namespace Go.Proofs.YtgpmjggdloldnaaGreatDoor
open Go Go.Sx
set_option maxRecDepth 100000
/-- slices of parts -/
def Parts (h : Ghost) (v : Value) (l : List (List Atom)) : Prop := Sl h (fun p vs => ∃ u, vs = [u] ∧ Atoms h u p) 1 v l
theorem Parts.mono {h h' : Ghost} {v : Value} {l : List (List Atom)} (H : Parts h v l) (hl : h.le h') : Parts h' v l := Sl.mono H hl fun _ _ _ ⟨u, e, r⟩ => ⟨u, e, r.mono hl⟩
def partBad (p : List Atom) : Bool := decide ((p.length : Int) < 1) || decide ((12 : Int) < p.length)
def shapeBad (told : List ByteArray) (l : List (List Atom)) : Bool := decide ((l.length : Int) < 1) || decide ((4 : Int) < l.length) || decide ((3 : Int) < told.length)
def shapeE (told : List ByteArray) (l : List (List Atom)) : Int := if shapeBad told l then 210 else if l.all (!partBad ·) then 0 else 210
theorem checkShape_spec (tv pv : Value) (told : List ByteArray) (l : List (List Atom)) (h : Ghost) (ht : Strs h tv told) (hp : Parts h pv l) (hl : l.length ≤ 1000000) :
    SpecV Tryz.prog 46 [.agg #[tv, pv]] h (.int .i64 (shapeE told l)) := by
  obtain ⟨ta, tc, rfl, htc⟩ := ht.shape
  obtain ⟨ao, cap, rfl, hcap⟩ := hp.shape
  refine SpecP.enter cl46 Tryz.func46 rfl Tryz.ntmps46 rfl fun E R => ?_
  refine Wc.seq ?_
  refine Wc.region ?_
  refine Wl.box rfl (by rfl) rfl (fun b1 => ?_)
  refine Wl.assign rfl rfl ?_
  refine Wl.nil ?_
  refine Wx.then_code ?_
  refine Wc.seq ?_
  refine Wc.seq ?_
  refine Wc.region ?_
  refine Wl.field fd41_1 rfl rfl ?_
  refine Wl.loadO ty39 rfl (by repeat (first | exact .here | apply Has.there)) rfl rfl ?_
  refine Wl.slLen Tryz.underlying39 rfl rfl ?_
  refine Wl.iLss rfl rfl rfl ?_
  refine Wl.move rfl rfl ?_
  apply Wl.orB (l1 := [_, _, _, _, _]) (i := 9) (d := 14)
  · rfl
  · intro hg1
    refine Wl.guardNo rfl rfl rfl rfl ?_
    refine Wl.guardNo rfl rfl rfl rfl ?_
    refine Wl.guardNo rfl rfl rfl rfl ?_
    refine Wl.guardNo rfl rfl rfl rfl ?_
    refine Wl.pickT rfl rfl rfl ?_
    refine Wl.nil ?_
    exact Wx.reach (.cons rfl (.skip rfl (.skip rfl (.skip rfl (.skip rfl (.skip rfl (.same rfl (by rw [hg1]) (.refl _))))))))
  · intro hg1
    refine Wl.guardYes rfl rfl ?_
    refine Wl.field fd41_1 rfl rfl ?_
    refine Wl.guardYes rfl rfl ?_
    refine Wl.loadO ty39 rfl (by repeat (first | exact .here | apply Has.there)) rfl rfl ?_
    refine Wl.guardYes rfl rfl ?_
    refine Wl.slLen Tryz.underlying39 rfl rfl ?_
    refine Wl.guardYes rfl rfl ?_
    refine Wl.iGtr rfl rfl rfl ?_
    refine Wl.pickF rfl rfl rfl ?_
    refine Wl.nil ?_
    exact Wx.reach (.cons rfl (.skip rfl (.skip rfl (.skip rfl (.skip rfl (.skip rfl (.same rfl (by rw [hg1]) (.refl _))))))))
  refine Wl.move rfl rfl ?_
  apply Wl.orB (l1 := [_, _, _, _, _]) (i := 15) (d := 20)
  · rfl
  · intro hg2
    refine Wl.guardNo rfl rfl rfl rfl ?_
    refine Wl.guardNo rfl rfl rfl rfl ?_
    refine Wl.guardNo rfl rfl rfl rfl ?_
    refine Wl.guardNo rfl rfl rfl rfl ?_
    refine Wl.pickT rfl rfl rfl ?_
    refine Wl.nil ?_
    exact Wx.reach (.cons rfl (.skip rfl (.skip rfl (.skip rfl (.skip rfl (.skip rfl (.same rfl (by rw [hg2]) (.refl _))))))))
  · intro hg2
    refine Wl.guardYes rfl rfl ?_
    refine Wl.field fd41_0 rfl rfl ?_
    refine Wl.guardYes rfl rfl ?_
    refine Wl.loadO ty25 rfl (by repeat (first | exact .here | apply Has.there)) rfl rfl ?_
    refine Wl.guardYes rfl rfl ?_
    refine Wl.slLen Tryz.underlying25 rfl rfl ?_
    refine Wl.guardYes rfl rfl ?_
    refine Wl.iGtr rfl rfl rfl ?_
    refine Wl.pickF rfl rfl rfl ?_
    refine Wl.nil ?_
    exact Wx.reach (.cons rfl (.skip rfl (.skip rfl (.skip rfl (.skip rfl (.skip rfl (.same rfl (by rw [hg2]) (.refl _))))))))
  refine Wl.nil ?_
  refine Wx.then_code ?_
  refine Wc.condS rfl (fun hc3 => ?_) (fun hc3 => ?_)
  refine Wc.seq ?_
  refine Wc.region ?_
  refine Wl.assign rfl rfl ?_
  refine Wl.nil ?_
  refine Wx.then_code ?_
  refine Wc.ret ?_
  refine Wx.then_ret ?_
  · exact endV .ret (.inl rfl) rfl rfl [_] (Ghost.le.refl _) (by rw [shapeE, if_pos (show shapeBad told l = true from hc3)])
  refine Wc.skip ?_
  refine Wx.then_code ?_
  refine Wc.seq ?_
  refine Wc.seq ?_
  refine Wc.region ?_
  refine Wl.field fd41_1 rfl rfl ?_
  refine Wl.loadO ty39 rfl (by repeat (first | exact .here | apply Has.there)) rfl rfl ?_
  refine Wl.slLen Tryz.underlying39 rfl rfl ?_
  refine Wl.move rfl rfl ?_
  refine Wl.nil ?_
  refine Wx.then_code ?_
  refine Wc.block ?_
  have hB : shapeBad told l = false := hc3
  refine Wc.loop (ι := Nat) (fun i => i ≤ l.length ∧ (l.take i).all (!partBad ·) = true) (fun i => [(22, .slice ao l.length cap), (23, .int .i64 l.length), (24, .int .i64 i)]) (fun _ => _) (fun _ => _) (fun i => l.length - i) 0
    ⟨Nat.zero_le _, rfl⟩ (.cons rfl (.cons rfl (.cons rfl (.nil _)))) rfl rfl fun i ⟨hi, hall⟩ => ?_
  refine Wc.seq ?_
  refine Wc.region ?_
  refine Wl.iLss rfl rfl rfl ?_
  refine Wl.nil ?_
  refine Wx.then_code ?_
  refine Wc.seq ?_
  refine Wc.condS rfl (fun hc4 => ?_) (fun hc4 => ?_)
  refine Wc.skip ?_
  refine Wx.then_code ?_
  refine Wc.seq ?_
  refine Wc.block ?_
  refine Wc.seq ?_
  refine Wc.region ?_
  have hlt : i < l.length := by have := of_decide_eq_true hc4; omega
  have hx := List.getElem?_eq_getElem hlt
  refine Wl.elemS sl39 rfl hp rfl rfl hx rfl fun b o vs ⟨u, hu, hau⟩ hk hseg => ?_
  subst hu
  obtain ⟨uo, uc, rfl, huc⟩ := hau.shape
  refine Wl.loadGA ty24 rfl hseg rfl rfl ?_
  refine Wl.alloc ty24 rfl rfl (fun b2 => ?_)
  refine Wl.storeA ty24 rfl rfl (by rfl) (by repeat (first | exact .here | apply Upd.there)) (by rfl) (by rfl) (by rfl) ?_
  refine Wl.nil ?_
  refine Wx.then_code ?_
  refine Wc.seq ?_
  refine Wc.region ?_
  refine Wl.field fd24_0 rfl rfl ?_
  refine Wl.loadO ty22 rfl (by repeat (first | exact .here | apply Has.there)) rfl rfl ?_
  refine Wl.slLen Tryz.underlying22 rfl rfl ?_
  refine Wl.iLss rfl rfl rfl ?_
  refine Wl.move rfl rfl ?_
  apply Wl.orB (l1 := [_, _, _, _, _]) (i := 32) (d := 37)
  · rfl
  · intro hg5
    refine Wl.guardNo rfl rfl rfl rfl ?_
    refine Wl.guardNo rfl rfl rfl rfl ?_
    refine Wl.guardNo rfl rfl rfl rfl ?_
    refine Wl.guardNo rfl rfl rfl rfl ?_
    refine Wl.pickT rfl rfl rfl ?_
    refine Wl.nil ?_
    exact Wx.reach (.cons rfl (.skip rfl (.skip rfl (.skip rfl (.skip rfl (.skip rfl (.same rfl (by rw [hg5]) (.refl _))))))))
  · intro hg5
    refine Wl.guardYes rfl rfl ?_
    refine Wl.field fd24_0 rfl rfl ?_
    refine Wl.guardYes rfl rfl ?_
    refine Wl.loadO ty22 rfl (by repeat (first | exact .here | apply Has.there)) rfl rfl ?_
    refine Wl.guardYes rfl rfl ?_
    refine Wl.slLen Tryz.underlying22 rfl rfl ?_
    refine Wl.guardYes rfl rfl ?_
    refine Wl.iGtr rfl rfl rfl ?_
    refine Wl.pickF rfl rfl rfl ?_
    refine Wl.nil ?_
    exact Wx.reach (.cons rfl (.skip rfl (.skip rfl (.skip rfl (.skip rfl (.skip rfl (.same rfl (by rw [hg5]) (.refl _))))))))
  refine Wl.nil ?_
  refine Wx.then_code ?_
  refine Wc.condS rfl (fun hc6 => ?_) (fun hc6 => ?_)
  refine Wc.seq ?_
  refine Wc.region ?_
  refine Wl.assign rfl rfl ?_
  refine Wl.nil ?_
  refine Wx.then_code ?_
  refine Wc.ret ?_
  refine Wx.block_ret ?_
  refine Wx.then_ret ?_
  refine Wx.then_ret ?_
  refine Wx.block_ret ?_
  refine Wx.then_ret ?_
  · have hb : partBad l[i] = true := hc6
    exact endV .ret (.inl rfl) rfl rfl [_, _] (Ghost.le.refl _) (by
      rw [shapeE, if_neg (by rw [hB]; simp), if_neg]
      exact not_all hx (by rw [hb]; rfl))
  refine Wc.skip ?_
  refine Wx.block_normal ?_
  refine Wx.then_code ?_
  refine Wc.region ?_
  refine Wl.inc rfl rfl (by first | assumption | omega | (have hx := of_decide_eq_true hc6; omega) | (have hx := of_decide_eq_true hc4; omega) | (have hx := of_decide_eq_true hc3; omega)) ?_
  refine Wl.move rfl rfl ?_
  refine Wl.nil ?_
  · have hb : partBad l[i] = false := hc6
    exact Wx.again (i + 1) ⟨hlt, all_take_succ hx hall (by rw [hb]; rfl)⟩ (by omega) (.cons rfl (.cons rfl (.cons rfl (.nil _)))) rfl (.skip .refl)
  refine Wc.exit ?_
  refine Wx.then_exit ?_
  refine Wx.then_exit ?_
  refine Wx.block_exit ?_
  refine Wx.then_code ?_
  refine Wc.seq ?_
  refine Wc.region ?_
  refine Wl.assign rfl rfl ?_
  refine Wl.nil ?_
  refine Wx.then_code ?_
  refine Wc.ret ?_
  exact endV .ret (.inl rfl) rfl rfl [_] (Ghost.le.refl _) (by
    have hi' : i = l.length := by have := of_decide_eq_false hc4; omega
    rw [hi', List.take_length] at hall
    rw [shapeE, if_neg (by rw [hB]; simp), if_pos hall])
theorem Contains_spec (v : Value) (l : List ByteArray) (x : ByteArray) (h : Ghost) (hv : Strs h v l) (hl : l.length ≤ 9223372036854775807) :
    SpecV Tryz.prog 36 [v, .string x] h (.bool (Lib.containsS l x)) := by
  obtain ⟨ao, cap, rfl, hcap, r⟩ := hv
  rcases r with rfl | ⟨b, o, rfl, r⟩
  · exact SpecV.of_same cl36 fun w => (Tryz.slices_Contains_string_empty ao cap x w).mono fun _ _ ⟨e, e'⟩ => ⟨by rw [e]; rfl, e'⟩
  · refine SpecV.of_same' cl36 fun E S w A => (Tryz.slices_Contains_string b o l.length cap l x w (Nat.le_refl _) hl ?_).mono fun _ _ ⟨e, e'⟩ => ⟨by rw [e, List.take_length], e'⟩
    intro j hj
    obtain ⟨vs, rfl, -, hs⟩ := r j l[j] (List.getElem?_eq_getElem hj)
    have := A.cell (hs 0 _ rfl)
    simpa [hj] using this
def partsV (l : List (List Atom)) : List (List ByteArray) := l.map varsOf
/-- the error of the told variables -/
def toldOk (told : List ByteArray) (l : List (List Atom)) (i : Nat) : Bool := !Lib.containsS (told.take i) (told.getD i ByteArray.empty) && l.all fun p => Lib.containsS (varsOf p) (told.getD i ByteArray.empty)
def toldE (told : List ByteArray) (l : List (List Atom)) : Int := if told.all variableB then if (List.range told.length).all (toldOk told l) then 0 else 210 else 20
theorem checkTold_spec (tv pv : Value) (told : List ByteArray) (l : List (List Atom)) (h : Ghost) (ht : Strs h tv told) (hp : Parts h pv l) (hl : l.length ≤ 1000000) (hlt : told.length ≤ 1000000) (hla : ∀ p ∈ l, p.length ≤ 1000000) :
    SpecV Tryz.prog 48 [.agg #[tv, pv]] h (.int .i64 (toldE told l)) := by
  obtain ⟨ta, tc, rfl, htc⟩ := ht.shape
  obtain ⟨ao, cap, rfl, hcap⟩ := hp.shape
  refine SpecP.enter cl48 Tryz.func48 rfl Tryz.ntmps48 rfl fun E R => ?_
  refine Wc.seq ?_
  refine Wc.region ?_
  refine Wl.box rfl (by rfl) rfl (fun b1 => ?_)
  refine Wl.assign rfl rfl ?_
  refine Wl.nil ?_
  refine Wx.then_code ?_
  refine Wc.seq ?_
  refine Wc.seq ?_
  refine Wc.region ?_
  refine Wl.field fd41_0 rfl rfl ?_
  refine Wl.loadO ty25 rfl (by repeat (first | exact .here | apply Has.there)) rfl rfl ?_
  refine Wl.slLen Tryz.underlying25 rfl rfl ?_
  refine Wl.move rfl rfl ?_
  refine Wl.nil ?_
  refine Wx.then_code ?_
  refine Wc.block ?_
  refine Wc.loop (ι := Nat) (fun i => i ≤ told.length ∧ (told.take i).all variableB = true) (fun i => [(1, .pointer (some ⟨b1, 0, none⟩)), (10, .slice ta told.length tc), (11, .int .i64 told.length), (12, .int .i64 i)]) (fun _ => _) (fun _ => _) (fun i => told.length - i) 0
    ⟨Nat.zero_le _, rfl⟩ (.cons rfl (.cons rfl (.cons rfl (.cons rfl (.nil _))))) rfl rfl fun i ⟨hi, hall⟩ => ?_
  refine Wc.seq ?_
  refine Wc.region ?_
  refine Wl.iLss rfl rfl rfl ?_
  refine Wl.nil ?_
  refine Wx.then_code ?_
  refine Wc.seq ?_
  refine Wc.condS rfl (fun hc1 => ?_) (fun hc1 => ?_)
  refine Wc.skip ?_
  refine Wx.then_code ?_
  refine Wc.seq ?_
  refine Wc.block ?_
  refine Wc.seq ?_
  refine Wc.region ?_
  have hlt1 : i < told.length := by have := of_decide_eq_true hc1; omega
  have hx := List.getElem?_eq_getElem hlt1
  refine Wl.elemF sl25 rfl ht rfl rfl hx rfl fun b o hseg => ?_
  refine Wl.loadG1 ty9 rfl hseg rfl ?_
  refine Wl.assign rfl rfl ?_
  refine Wl.nil ?_
  refine Wx.then_code ?_
  refine Wc.seq ?_
  refine Wc.region ?_
  refine Wl.move rfl rfl ?_
  refine Wl.callV rfl rfl rfl (isVariable_spec _ h) ?_
  refine Wl.not rfl rfl ?_
  refine Wl.nil ?_
  refine Wx.then_code ?_
  refine Wc.condS rfl (fun hc2 => ?_) (fun hc2 => ?_)
  refine Wc.seq ?_
  refine Wc.region ?_
  refine Wl.assign rfl rfl ?_
  refine Wl.nil ?_
  refine Wx.then_code ?_
  refine Wc.ret ?_
  refine Wx.block_ret ?_
  refine Wx.then_ret ?_
  refine Wx.then_ret ?_
  refine Wx.block_ret ?_
  refine Wx.then_ret ?_
  · exact endV .ret (.inl rfl) rfl rfl [_] (Ghost.le.refl _) (by rw [toldE, if_neg (not_all hx (by simpa using hc2))])
  refine Wc.skip ?_
  refine Wx.block_normal ?_
  refine Wx.then_code ?_
  refine Wc.region ?_
  refine Wl.inc rfl rfl (by first | assumption | omega | (have hx := of_decide_eq_true hc2; omega) | (have hx := of_decide_eq_true hc1; omega)) ?_
  refine Wl.move rfl rfl ?_
  refine Wl.nil ?_
  · exact Wx.again (i + 1) ⟨hlt1, all_take_succ hx hall (by simpa using hc2)⟩ (by omega) (.cons rfl (.cons rfl (.cons rfl (.cons rfl (.nil _))))) rfl .refl
  refine Wc.exit ?_
  refine Wx.then_exit ?_
  refine Wx.then_exit ?_
  refine Wx.block_exit ?_
  refine Wx.then_code ?_
  refine Wc.seq ?_
  refine Wc.seq ?_
  refine Wc.region ?_
  refine Wl.field fd41_0 rfl rfl ?_
  refine Wl.loadO ty25 rfl (by repeat (first | exact .here | apply Has.there)) rfl rfl ?_
  refine Wl.slLen Tryz.underlying25 rfl rfl ?_
  refine Wl.move rfl rfl ?_
  refine Wl.nil ?_
  refine Wx.then_code ?_
  refine Wc.block ?_
  have hV : told.all variableB = true := by
    have hi' : i = told.length := by have := of_decide_eq_false hc1; omega
    rw [hi', List.take_length] at hall; exact hall
  refine Wc.loop (ι := Nat × Ghost) (fun x => x.1 ≤ told.length ∧ h.le x.2 ∧ (List.range x.1).all (toldOk told l) = true) (fun x => [(1, .pointer (some ⟨b1, 0, none⟩)), (21, .slice ta told.length tc), (22, .int .i64 told.length), (23, .int .i64 x.1)]) (fun x => x.2) (fun _ => _) (fun x => told.length - x.1) (0, h)
    ⟨Nat.zero_le _, Ghost.le.refl _, rfl⟩ (.cons rfl (.cons rfl (.cons rfl (.cons rfl (.nil _))))) rfl rfl fun ⟨i, g⟩ ⟨hi, hg, hall⟩ => ?_
  dsimp only at hi hg hall
  refine Wc.seq ?_
  refine Wc.region ?_
  refine Wl.iLss rfl rfl rfl ?_
  refine Wl.nil ?_
  refine Wx.then_code ?_
  refine Wc.seq ?_
  refine Wc.condS rfl (fun hc3 => ?_) (fun hc3 => ?_)
  refine Wc.skip ?_
  refine Wx.then_code ?_
  refine Wc.seq ?_
  refine Wc.block ?_
  refine Wc.seq ?_
  refine Wc.region ?_
  refine Wl.move rfl rfl ?_
  have hlt1 : i < told.length := by have := of_decide_eq_true hc3; dsimp only at this; omega
  have hx := List.getElem?_eq_getElem hlt1
  refine Wl.elemF sl25 rfl (ht.mono hg) rfl rfl hx rfl fun b o hseg => ?_
  refine Wl.loadG1 ty9 rfl hseg rfl ?_
  refine Wl.assign rfl rfl ?_
  refine Wl.assign rfl rfl ?_
  refine Wl.nil ?_
  refine Wx.then_code ?_
  refine Wc.seq ?_
  refine Wc.seq ?_
  refine Wc.region ?_
  refine Wl.field fd41_0 rfl rfl ?_
  refine Wl.loadO ty25 rfl (by repeat (first | exact .here | apply Has.there)) rfl rfl ?_
  refine Wl.move rfl rfl ?_
  refine Wl.sliceHi sl25 rfl rfl rfl (Nat.le_trans hi htc) rfl ?_
  refine Wl.move rfl rfl ?_
  refine Wl.callV rfl rfl rfl (Contains_spec _ (told.take i) _ g (Sl.take (ht.mono hg) hi) (by rw [List.length_take]; omega)) ?_
  have hD : told.getD i ByteArray.empty = told[i] := by simp [hlt1]
  refine Wl.nil ?_
  refine Wx.then_code ?_
  refine Wc.condS rfl (fun hc4 => ?_) (fun hc4 => ?_)
  refine Wc.seq ?_
  refine Wc.region ?_
  refine Wl.assign rfl rfl ?_
  refine Wl.nil ?_
  refine Wx.then_code ?_
  refine Wc.ret ?_
  refine Wx.then_ret ?_
  refine Wx.block_ret ?_
  refine Wx.then_ret ?_
  refine Wx.then_ret ?_
  refine Wx.block_ret ?_
  refine Wx.then_ret ?_
  · exact endV .ret (.inl rfl) rfl rfl [_] hg (by
      rw [toldE, if_pos hV, if_neg]
      refine not_all (i := i) (x := i) (by simp [hlt1]) ?_
      rw [toldOk, hD, show Lib.containsS (List.take i told) told[i] = true from hc4]; rfl)
  refine Wc.skip ?_
  refine Wx.then_code ?_
  refine Wc.seq ?_
  refine Wc.region ?_
  refine Wl.field fd41_1 rfl rfl ?_
  refine Wl.loadO ty39 rfl (by repeat (first | exact .here | apply Has.there)) rfl rfl ?_
  refine Wl.slLen Tryz.underlying39 rfl rfl ?_
  refine Wl.move rfl rfl ?_
  refine Wl.nil ?_
  refine Wx.then_code ?_
  refine Wc.block ?_
  refine Wc.loop (ι := Nat × Ghost) (fun x => x.1 ≤ l.length ∧ h.le x.2 ∧ (l.take x.1).all (fun p => Lib.containsS (varsOf p) told[i]) = true) (fun x => [(1, .pointer (some ⟨b1, 0, none⟩)), (6, .string told[i]), (21, .slice ta told.length tc), (22, .int .i64 told.length), (23, .int .i64 i), (35, .slice ao l.length cap), (36, .int .i64 l.length), (37, .int .i64 x.1)]) (fun x => x.2) (fun _ => _) (fun x => l.length - x.1) (0, g)
    ⟨Nat.zero_le _, hg, rfl⟩ (.cons rfl (.cons rfl (.cons rfl (.cons rfl (.cons rfl (.cons rfl (.cons rfl (.cons rfl (.nil _))))))))) rfl rfl fun ⟨j, g1⟩ ⟨hj, hg1, hall1⟩ => ?_
  dsimp only at hj hg1 hall1
  refine Wc.seq ?_
  refine Wc.region ?_
  refine Wl.iLss rfl rfl rfl ?_
  refine Wl.nil ?_
  refine Wx.then_code ?_
  refine Wc.seq ?_
  refine Wc.condS rfl (fun hc5 => ?_) (fun hc5 => ?_)
  refine Wc.skip ?_
  refine Wx.then_code ?_
  refine Wc.seq ?_
  refine Wc.block ?_
  refine Wc.seq ?_
  refine Wc.region ?_
  have hlt2 : j < l.length := by have := of_decide_eq_true hc5; dsimp only at this; omega
  have hx2 := List.getElem?_eq_getElem hlt2
  refine Wl.elemS sl39 rfl (hp.mono hg1) rfl rfl hx2 rfl fun b o vs ⟨u, hu, hau⟩ hk hseg => ?_
  subst hu
  obtain ⟨uo, uc, rfl, huc⟩ := hau.shape
  refine Wl.loadGA ty24 rfl hseg rfl rfl ?_
  refine Wl.alloc ty24 rfl rfl (fun b2 => ?_)
  refine Wl.storeA ty24 rfl rfl (by rfl) (by repeat (first | exact .here | apply Upd.there)) (by rfl) (by rfl) (by rfl) ?_
  refine Wl.nil ?_
  refine Wx.then_code ?_
  refine Wc.seq ?_
  refine Wc.region ?_
  refine Wl.loadOA ty24 rfl (by repeat (first | exact .here | apply Has.there)) rfl rfl ?_
  refine Wl.callP rfl rfl rfl (Variables_spec _ l[j] g1 hau (hla _ (List.getElem_mem hlt2))) fun v g2 hg2 hv => ?_
  refine Wl.move rfl rfl ?_
  refine Wl.callV rfl rfl rfl (Contains_spec _ (varsOf l[j]) told[i] g2 hv ?_) ?_
  · have h1 := varsRaw_le l[j]; have h2 := compactS_le (sortS (varsRaw l[j])); have h3 := sortS_length (varsRaw l[j]); have := hla _ (List.getElem_mem hlt2); unfold varsOf; omega
  refine Wl.not rfl rfl ?_
  refine Wl.nil ?_
  refine Wx.then_code ?_
  refine Wc.condS rfl (fun hc6 => ?_) (fun hc6 => ?_)
  refine Wc.seq ?_
  refine Wc.region ?_
  refine Wl.assign rfl rfl ?_
  refine Wl.nil ?_
  refine Wx.then_code ?_
  refine Wc.ret ?_
  refine Wx.block_ret ?_
  refine Wx.then_ret ?_
  refine Wx.then_ret ?_
  refine Wx.block_ret ?_
  refine Wx.block_ret ?_
  refine Wx.then_ret ?_
  refine Wx.then_ret ?_
  refine Wx.block_ret ?_
  refine Wx.then_ret ?_
  · exact endV .ret (.inl rfl) rfl rfl [_, _] (hg1.trans hg2) (by
      rw [toldE, if_pos hV, if_neg]
      refine not_all (i := i) (x := i) (by simp [hlt1]) ?_
      rw [toldOk, hD, Bool.and_eq_false_iff]
      refine .inr (Bool.eq_false_iff.2 (not_all hx2 (by simpa using hc6))))
  refine Wc.skip ?_
  refine Wx.block_normal ?_
  refine Wx.then_code ?_
  refine Wc.region ?_
  refine Wl.inc rfl rfl (by first | assumption | omega | (have hx := of_decide_eq_true hc6; omega) | (have hx := of_decide_eq_true hc5; omega) | (have hx := of_decide_eq_true hc4; omega) | (have hx := of_decide_eq_true hc3; omega)) ?_
  refine Wl.move rfl rfl ?_
  refine Wl.nil ?_
  · exact Wx.again (j + 1, g2) ⟨hlt2, hg1.trans hg2, all_take_succ hx2 hall1 (by simpa using hc6)⟩ (by dsimp only; omega) (.cons rfl (.cons rfl (.cons rfl (.cons rfl (.cons rfl (.cons rfl (.cons rfl (.cons rfl (.nil _))))))))) rfl (.skip .refl)
  refine Wc.exit ?_
  refine Wx.then_exit ?_
  refine Wx.then_exit ?_
  refine Wx.block_exit ?_
  refine Wx.block_normal ?_
  refine Wx.then_code ?_
  refine Wc.region ?_
  refine Wl.inc rfl rfl (by first | assumption | omega | (have hx := of_decide_eq_true hc5; omega) | (have hx := of_decide_eq_true hc4; omega) | (have hx := of_decide_eq_true hc3; omega) | (have hx := of_decide_eq_true hc1; omega)) ?_
  refine Wl.move rfl rfl ?_
  refine Wl.nil ?_
  · refine Wx.again (i + 1, g1) ⟨hlt1, hg1, ?_⟩ (by dsimp only; omega) (.cons rfl (.cons rfl (.cons rfl (.cons rfl (.nil _))))) rfl .refl
    have hj' : j = l.length := by have := of_decide_eq_false hc5; dsimp only at this; omega
    rw [hj', List.take_length] at hall1
    rw [List.range_succ, List.all_append, hall]
    simp only [List.all_cons, List.all_nil, Bool.and_true, Bool.true_and]
    rw [toldOk, hD, hall1, show Lib.containsS (List.take i told) told[i] = false from hc4]; rfl
  refine Wc.exit ?_
  refine Wx.then_exit ?_
  refine Wx.then_exit ?_
  refine Wx.block_exit ?_
  refine Wx.then_code ?_
  refine Wc.seq ?_
  refine Wc.region ?_
  refine Wl.assign rfl rfl ?_
  refine Wl.nil ?_
  refine Wx.then_code ?_
  refine Wc.ret ?_
  exact endV .ret (.inl rfl) rfl rfl [_] hg (by
    have hi' : i = told.length := by have := of_decide_eq_false hc3; dsimp only at this; omega
    rw [toldE, if_pos hV, if_pos (by rw [← hi']; exact hall)])
end Go.Proofs.YtgpmjggdloldnaaGreatDoor

namespace Go.Proofs.YtgpmjggdloldnaaGreatDoor
open Go Go.Sx
set_option maxRecDepth 100000
theorem kstr : KeyOK Tryz.prog 9 Value.string := .string Tryz.underlying9
theorem closure_spec (role : ByteArray) (h : Ghost) (F : Frag) (b : Nat) (el : Value → Value) (hF : Mp F b Value.string el fun _ => none) :
    Sx.Spec Tryz.prog 99 [.string role, .map (some b)] h [F] fun _ _ _ => True := by
  refine Spec.enter cl99 Tryz.func99 rfl Tryz.ntmps99 rfl fun E R => ?_
  refine Wc.seq ?_
  refine Wc.region ?_
  refine Wl.assign rfl rfl ?_
  refine Wl.nil ?_
  refine Wx.then_code ?_
  refine Wc.seq ?_
  refine Wc.region ?_
  refine Wl.makeMap rfl (fun b1 => ?_)
  refine Wl.move rfl rfl ?_
  refine Wl.insert [] _ role true rfl Tryz.underlying145 kstr rfl rfl rfl rfl Mp.empty fun F1 hF1 => ?_
  refine Wl.move rfl rfl ?_
  refine Wl.assign rfl rfl ?_
  refine Wl.nil ?_
  refine Wx.then_code ?_
  refine Wc.seq ?_
  refine Wc.seq ?_
  refine Wc.region ?_
  refine Wl.move rfl rfl ?_
  refine Wl.buildSlice sl25 rfl rfl rfl (by repeat (first | rfl | exact .nil | apply Cellss.cons)) rfl rfl rfl (fun b2 => ?_)
  refine Wl.assign rfl rfl ?_
  refine Wl.nil ?_
  refine Wx.then_code ?_
  refine Wc.block ?_
  refine Wc.loop (ι := Nat × Option Addr × Nat) (fun x => x.1 = 0 ∨ (x.1 = 1 ∧ x.2.1 = some ⟨b2, 0, none⟩)) (fun x => [(1, .map (some b)), (5, .map (some b1)), (6, .slice x.2.1 x.1 x.2.2)]) (fun _ => _) (fun _ => _) (fun x => x.1) (1, _, _)
    (.inr ⟨rfl, rfl⟩) (.cons rfl (.cons rfl (.cons rfl (.nil _)))) rfl rfl fun ⟨n, q, c⟩ hn => ?_
  dsimp only at hn
  refine Wc.seq ?_
  refine Wc.seq ?_
  refine Wc.region ?_
  refine Wl.move rfl rfl ?_
  refine Wl.slLen Tryz.underlying25 rfl rfl ?_
  refine Wl.iGtr rfl rfl rfl ?_
  refine Wl.nil ?_
  refine Wx.then_code ?_
  refine Wc.condS rfl (fun hc1 => ?_) (fun hc1 => ?_)
  refine Wc.skip ?_
  refine Wx.then_code ?_
  refine Wc.block ?_
  refine Wc.seq ?_
  refine Wc.region ?_
  refine Wl.move rfl rfl ?_
  have hn1 : n = 1 ∧ q = some ⟨b2, 0, none⟩ := by
    have := of_decide_eq_true hc1
    rcases hn with hn | hn
    · dsimp only at this; omega
    · exact hn
  obtain ⟨rfl, rfl⟩ := hn1
  refine Wl.elem (j := 0) sl25 rfl rfl rfl (Nat.lt_succ_self 0) rfl ?_
  refine Wl.loadO ty9 rfl (by repeat (first | exact .here | apply Has.there)) rfl rfl ?_
  refine Wl.assign rfl rfl ?_
  refine Wl.nil ?_
  refine Wx.then_code ?_
  refine Wc.seq ?_
  refine Wc.region ?_
  refine Wl.move rfl rfl ?_
  refine Wl.sliceLo (lo := 1) sl25 rfl rfl rfl (Nat.le_refl _) rfl ?_
  refine Wl.assign rfl rfl ?_
  refine Wl.nil ?_
  refine Wx.then_code ?_
  refine Wc.seq ?_
  refine Wc.region ?_
  refine Wl.move rfl rfl ?_
  refine Wl.move rfl rfl ?_
  refine Wl.lookup [_, _] _ role Tryz.underlying144 kstr ty25.zero rfl rfl rfl hF rfl ?_
  refine Wl.slLen Tryz.underlying25 rfl rfl ?_
  refine Wl.move rfl rfl ?_
  refine Wl.nil ?_
  refine Wx.then_code ?_
  refine Wc.block ?_
  refine Wc.loop (ι := Unit) (fun _ => True) (fun x => [(1, .map (some b)), (5, .map (some b1)), (6, .slice (if c = 1 then some ⟨b2, 0, none⟩ else (some ⟨b2, 0, none⟩ : Option Addr).map (·.add (1 * 1))) 0 (c - 1)), (25, .slice none 0 0), (26, .int .i64 0), (27, .int .i64 0)]) (fun _ => _) (fun _ => _) (fun x => 0) ()
    trivial (.cons rfl (.cons rfl (.cons rfl (.cons rfl (.cons rfl (.cons rfl (.nil _))))))) rfl rfl fun _ _ => ?_
  refine Wc.seq ?_
  refine Wc.region ?_
  refine Wl.iLss rfl rfl rfl ?_
  refine Wl.nil ?_
  refine Wx.then_code ?_
  refine Wc.seq ?_
  refine Wc.condS rfl (fun hc2 => ?_) (fun hc2 => ?_)
  refine Wc.skip ?_
  refine Wx.then_code ?_
  refine Wc.seq ?_
  refine Wc.block ?_
  refine Wc.seq ?_
  refine Wc.region ?_
  · exact absurd hc2 (by decide)
  refine Wc.exit ?_
  refine Wx.then_exit ?_
  refine Wx.then_exit ?_
  refine Wx.block_exit ?_
  refine Wx.block_normal ?_
  · exact Wx.again (0, _, _) (.inl rfl) (Nat.zero_lt_one) (.cons rfl (.cons rfl (.cons rfl (.nil _)))) rfl .refl
  refine Wc.exit ?_
  refine Wx.then_exit ?_
  refine Wx.then_exit ?_
  refine Wx.block_exit ?_
  refine Wx.then_code ?_
  refine Wc.seq ?_
  refine Wc.region ?_
  refine Wl.move rfl rfl ?_
  refine Wl.assign rfl rfl ?_
  refine Wl.nil ?_
  refine Wx.then_code ?_
  refine Wc.ret ?_
  · exact Fin.slots (L := [_, _, _]) .ret (.inl rfl) (run_tmp rfl rfl) (Ghost.le.refl _) fun _ _ => trivial
/-- no axiom is broken where there is none -/
theorem check_nil (h : Ghost) (c : Nat) : SpecV Tryz.prog 121 [.slice none 0 c] h (.int .i64 0) := by
  refine SpecP.enter cl121 Tryz.func121 rfl Tryz.ntmps121 rfl fun E R => ?_
  refine Wc.seq ?_
  refine Wc.region ?_
  refine Wl.assign rfl rfl ?_
  refine Wl.nil ?_
  refine Wx.then_code ?_
  refine Wc.seq ?_
  refine Wc.seq ?_
  refine Wc.region ?_
  refine Wl.move rfl rfl ?_
  refine Wl.slLen Tryz.underlying83 rfl rfl ?_
  refine Wl.move rfl rfl ?_
  refine Wl.nil ?_
  refine Wx.then_code ?_
  refine Wc.block ?_
  refine Wc.loop (ι := Unit) (fun _ => True) (fun _ => [(6, .slice none 0 c), (7, .int .i64 0), (8, .int .i64 0)]) (fun _ => _) (fun _ => _) (fun x => 0) () trivial (.cons rfl (.cons rfl (.cons rfl (.nil _)))) rfl rfl fun _ _ => ?_
  refine Wc.seq ?_
  refine Wc.region ?_
  refine Wl.iLss rfl rfl rfl ?_
  refine Wl.nil ?_
  refine Wx.then_code ?_
  refine Wc.seq ?_
  refine Wc.condS rfl (fun hc1 => ?_) (fun hc1 => ?_)
  refine Wc.skip ?_
  refine Wx.then_code ?_
  refine Wc.seq ?_
  refine Wc.block ?_
  refine Wc.seq ?_
  refine Wc.region ?_
  · exact absurd hc1 (by decide)
  refine Wc.exit ?_
  refine Wx.then_exit ?_
  refine Wx.then_exit ?_
  refine Wx.block_exit ?_
  refine Wx.then_code ?_
  refine Wc.seq ?_
  refine Wc.region ?_
  refine Wl.assign rfl rfl ?_
  refine Wl.nil ?_
  refine Wx.then_code ?_
  refine Wc.ret ?_
  exact endV .ret (.inl rfl) rfl rfl [] (Ghost.le.refl _) rfl
theorem checkAll_nil (s : ByteArray) (h : Ghost) (c : Nat) (v : Value) (hv : Strs h v [s]) (g : Gl h) : SpecV Tryz.prog 98 [.slice none 0 c, v] h (.int .i64 (if nameB s then 0 else 20)) := by
  obtain ⟨ao, cap, rfl, hcap⟩ := hv.shape
  refine SpecP.enter cl98 Tryz.func98 rfl Tryz.ntmps98 rfl fun E R => ?_
  refine Wc.seq ?_
  refine Wc.region ?_
  refine Wl.assign rfl rfl ?_
  refine Wl.nil ?_
  refine Wx.then_code ?_
  refine Wc.seq ?_
  refine Wc.seq ?_
  refine Wc.region ?_
  refine Wl.move rfl rfl ?_
  refine Wl.callV rfl rfl rfl (check_nil h c) ?_
  refine Wl.assign rfl rfl ?_
  refine Wl.nil ?_
  refine Wx.then_code ?_
  refine Wc.seq ?_
  refine Wc.region ?_
  refine Wl.move rfl rfl ?_
  refine Wl.iNeq rfl rfl rfl ?_
  refine Wl.nil ?_
  refine Wx.then_code ?_
  refine Wc.condS rfl (fun hc1 => ?_) (fun hc1 => ?_)
  refine Wc.seq ?_
  refine Wc.region ?_
  refine Wl.move rfl rfl ?_
  refine Wl.assign rfl rfl ?_
  refine Wl.nil ?_
  refine Wx.then_code ?_
  refine Wc.ret ?_
  refine Wx.then_ret ?_
  · exact absurd hc1 (by decide)
  refine Wc.skip ?_
  refine Wx.then_code ?_
  refine Wc.seq ?_
  refine Wc.seq ?_
  refine Wc.region ?_
  refine Wl.move rfl rfl ?_
  refine Wl.slLen Tryz.underlying25 rfl rfl ?_
  refine Wl.move rfl rfl ?_
  refine Wl.nil ?_
  refine Wx.then_code ?_
  refine Wc.block ?_
  refine Wc.loop (ι := Nat) (fun i => i ≤ 1 ∧ (i = 1 → nameB s = true)) (fun i => [(14, .slice ao 1 cap), (15, .int .i64 1), (16, .int .i64 i)]) (fun _ => _) (fun _ => _) (fun x => 1 - x) 0 ⟨by omega, by omega⟩ (.cons rfl (.cons rfl (.cons rfl (.nil _)))) rfl rfl fun i ⟨hi, hn⟩ => ?_
  refine Wc.seq ?_
  refine Wc.region ?_
  refine Wl.iLss rfl rfl rfl ?_
  refine Wl.nil ?_
  refine Wx.then_code ?_
  refine Wc.seq ?_
  refine Wc.condS rfl (fun hc2 => ?_) (fun hc2 => ?_)
  refine Wc.skip ?_
  refine Wx.then_code ?_
  refine Wc.seq ?_
  refine Wc.block ?_
  refine Wc.seq ?_
  refine Wc.region ?_
  have hi0 : i = 0 := by have := of_decide_eq_true hc2; omega
  subst hi0
  refine Wl.elemF (i := 0) sl25 rfl hv rfl rfl (List.getElem?_cons_zero) rfl fun b o hseg => ?_
  refine Wl.loadG1 ty9 rfl hseg rfl ?_
  refine Wl.assign rfl rfl ?_
  refine Wl.nil ?_
  refine Wx.then_code ?_
  refine Wc.seq ?_
  refine Wc.region ?_
  refine Wl.move rfl rfl ?_
  refine Wl.callV rfl rfl rfl (CheckName_spec s h g) ?_
  refine Wl.assign rfl rfl ?_
  refine Wl.nil ?_
  refine Wx.then_code ?_
  refine Wc.seq ?_
  refine Wc.region ?_
  refine Wl.move rfl rfl ?_
  refine Wl.iNeq rfl rfl rfl ?_
  refine Wl.nil ?_
  refine Wx.then_code ?_
  refine Wc.condS rfl (fun hc3 => ?_) (fun hc3 => ?_)
  refine Wc.seq ?_
  refine Wc.region ?_
  refine Wl.assign rfl rfl ?_
  refine Wl.nil ?_
  refine Wx.then_code ?_
  refine Wc.ret ?_
  refine Wx.block_ret ?_
  refine Wx.then_ret ?_
  refine Wx.then_ret ?_
  refine Wx.block_ret ?_
  refine Wx.then_ret ?_
  · exact endV .ret (.inl rfl) rfl rfl [] (Ghost.le.refl _) (by unfold errI at hc3; cases hb : nameB s <;> simp [hb] at hc3 ⊢)
  refine Wc.skip ?_
  refine Wx.block_normal ?_
  refine Wx.then_code ?_
  refine Wc.region ?_
  refine Wl.inc rfl rfl (by first | assumption | omega | (have hx := of_decide_eq_true hc3; omega) | (have hx := of_decide_eq_true hc2; omega) | (have hx := of_decide_eq_true hc1; omega)) ?_
  refine Wl.move rfl rfl ?_
  refine Wl.nil ?_
  · exact Wx.again 1 ⟨by omega, fun _ => by unfold errI at hc3; cases hb : nameB s <;> simp [hb] at hc3 ⊢⟩ (by omega) (.cons rfl (.cons rfl (.cons rfl (.nil _)))) rfl .refl
  refine Wc.exit ?_
  refine Wx.then_exit ?_
  refine Wx.then_exit ?_
  refine Wx.block_exit ?_
  refine Wx.then_code ?_
  refine Wc.seq ?_
  refine Wc.region ?_
  refine Wl.assign rfl rfl ?_
  refine Wl.nil ?_
  refine Wx.then_code ?_
  refine Wc.ret ?_
  have hi1 : i = 1 := by have := of_decide_eq_false hc2; omega
  exact endV .ret (.inl rfl) rfl rfl [] (Ghost.le.refl _) (by simp [hn hi1])
theorem Simple_nil (s : ByteArray) (h : Ghost) (c : Nat) (g : Gl h) : SpecV Tryz.prog 76 [.slice none 0 c, .string s] h (.tuple #[.bool (nameB s), .int .i64 (if nameB s then 0 else 20)]) := by
  refine SpecP.enter cl76 Tryz.func76 rfl Tryz.ntmps76 rfl fun E R => ?_
  refine Wc.seq ?_
  refine Wc.region ?_
  refine Wl.assign rfl rfl ?_
  refine Wl.assign rfl rfl ?_
  refine Wl.nil ?_
  refine Wx.then_code ?_
  refine Wc.seq ?_
  refine Wc.seq ?_
  refine Wc.region ?_
  refine Wl.move rfl rfl ?_
  refine Wl.move rfl rfl ?_
  refine Wl.buildSlice sl25 rfl rfl rfl (by repeat (first | rfl | exact .nil | apply Cellss.cons)) rfl rfl rfl (fun b1 => ?_)
  refine Wl.freeze fun hF => ?_
  refine Wl.callV rfl rfl rfl (checkAll_nil s _ c _ (Strs.of_row (l := [s]) (hF _ List.mem_cons_self) (Nat.le_refl _)) (g.mono (Ghost.le_ext _ _))) ?_
  refine Wl.assign rfl rfl ?_
  refine Wl.nil ?_
  refine Wx.then_code ?_
  refine Wc.seq ?_
  refine Wc.region ?_
  refine Wl.move rfl rfl ?_
  refine Wl.iNeq rfl rfl rfl ?_
  refine Wl.nil ?_
  refine Wx.then_code ?_
  refine Wc.condS rfl (fun hc1 => ?_) (fun hc1 => ?_)
  refine Wc.seq ?_
  refine Wc.region ?_
  refine Wl.move rfl rfl ?_
  refine Wl.assign rfl rfl ?_
  refine Wl.assign rfl rfl ?_
  refine Wl.nil ?_
  refine Wx.then_code ?_
  refine Wc.ret ?_
  refine Wx.then_ret ?_
  · refine Fin.slots (L := []) .ret (.inl rfl) (run_tmp2 rfl rfl rfl) (Ghost.le_ext _ _) fun _ _ => ⟨rfl, ?_⟩
    cases hb : nameB s <;> simp [hb] at hc1 ⊢
  refine Wc.skip ?_
  refine Wx.then_code ?_
  refine Wc.seq ?_
  refine Wc.region ?_
  refine Wl.makeMap rfl (fun b2 => ?_)
  refine Wl.assign rfl rfl ?_
  refine Wl.nil ?_
  refine Wx.then_code ?_
  refine Wc.seq ?_
  refine Wc.seq ?_
  refine Wc.region ?_
  refine Wl.move rfl rfl ?_
  refine Wl.slLen Tryz.underlying83 rfl rfl ?_
  refine Wl.move rfl rfl ?_
  refine Wl.nil ?_
  refine Wx.then_code ?_
  refine Wc.block ?_
  refine Wc.loop (ι := Unit) (fun _ => True) (fun _ => [(0, .slice none 0 c), (1, .string s), (7, .map (some b2)), (21, .slice none 0 c), (22, .int .i64 0), (23, .int .i64 0)]) (fun _ => _) (fun _ => _) (fun x => 0) () trivial (.cons rfl (.cons rfl (.cons rfl (.cons rfl (.cons rfl (.cons rfl (.nil _))))))) rfl rfl fun _ _ => ?_
  refine Wc.seq ?_
  refine Wc.region ?_
  refine Wl.iLss rfl rfl rfl ?_
  refine Wl.nil ?_
  refine Wx.then_code ?_
  refine Wc.seq ?_
  refine Wc.condS rfl (fun hc2 => ?_) (fun hc2 => ?_)
  refine Wc.skip ?_
  refine Wx.then_code ?_
  refine Wc.seq ?_
  refine Wc.block ?_
  refine Wc.seq ?_
  refine Wc.region ?_
  · exact absurd hc2 (by decide)
  refine Wc.exit ?_
  refine Wx.then_exit ?_
  refine Wx.then_exit ?_
  refine Wx.block_exit ?_
  refine Wx.then_code ?_
  refine Wc.seq ?_
  refine Wc.region ?_
  refine Wl.move rfl rfl ?_
  refine Wl.move rfl rfl ?_
  refine Wl.call (F := [_]) (G := _) rfl rfl rfl rfl (closure_spec s _ _ b2 (fun x : Value => x) Mp.empty) (.refl _) fun v h' F' hl _ => ?_
  refine Wl.assign rfl rfl ?_
  refine Wl.nil ?_
  refine Wx.then_code ?_
  refine Wc.seq ?_
  refine Wc.seq ?_
  refine Wc.region ?_
  refine Wl.move rfl rfl ?_
  refine Wl.slLen Tryz.underlying83 rfl rfl ?_
  refine Wl.move rfl rfl ?_
  refine Wl.nil ?_
  refine Wx.then_code ?_
  refine Wc.block ?_
  refine Wc.loop (ι := Unit) (fun _ => True) (fun _ => [(47, .slice none 0 c), (48, .int .i64 0), (49, .int .i64 0)]) (fun _ => _) (fun _ => _) (fun x => 0) () trivial (.cons rfl (.cons rfl (.cons rfl (.nil _)))) rfl rfl fun _ _ => ?_
  refine Wc.seq ?_
  refine Wc.region ?_
  refine Wl.iLss rfl rfl rfl ?_
  refine Wl.nil ?_
  refine Wx.then_code ?_
  refine Wc.seq ?_
  refine Wc.condS rfl (fun hc3 => ?_) (fun hc3 => ?_)
  refine Wc.skip ?_
  refine Wx.then_code ?_
  refine Wc.seq ?_
  refine Wc.block ?_
  refine Wc.seq ?_
  refine Wc.region ?_
  · exact absurd hc3 (by decide)
  refine Wc.exit ?_
  refine Wx.then_exit ?_
  refine Wx.then_exit ?_
  refine Wx.block_exit ?_
  refine Wx.then_code ?_
  refine Wc.seq ?_
  refine Wc.region ?_
  refine Wl.assign rfl rfl ?_
  refine Wl.assign rfl rfl ?_
  refine Wl.nil ?_
  refine Wx.then_code ?_
  refine Wc.ret ?_
  · refine Fin.slots (L := F') .ret (.inl rfl) (run_tmp2 rfl rfl rfl) ((Ghost.le_ext _ _).trans hl) fun _ _ => ⟨rfl, ?_⟩
    cases hb : nameB s <;> simp [hb] at hc1 ⊢
end Go.Proofs.YtgpmjggdloldnaaGreatDoor

namespace Go.Proofs.YtgpmjggdloldnaaGreatDoor
open Go Go.Sx
set_option maxRecDepth 100000
def hiddenB (told : List ByteArray) (s : ByteArray) : Bool := looksB s && !Lib.containsS told s
theorem checkRoles1_spec (s : ByteArray) (h : Ghost) (tv pv : Value) (told : List ByteArray) (b : Nat) (ht : Strs h tv told) (hlt : told.length ≤ 1000000) :
    SpecK Tryz.prog 75 [.string s, .pointer (some ⟨b, 0, none⟩)] h [[(b, cells [tv, pv] 41)]] (.bool (hiddenB told s)) := by
  refine Spec.enter cl75 Tryz.func75 rfl Tryz.ntmps75 rfl fun E R => ?_
  obtain ⟨ta, tc, rfl, htc⟩ := ht.shape
  refine Wc.seq ?_
  refine Wc.region ?_
  refine Wl.assign rfl rfl ?_
  refine Wl.nil ?_
  refine Wx.then_code ?_
  refine Wc.seq ?_
  refine Wc.region ?_
  refine Wl.move rfl rfl ?_
  refine Wl.callV rfl rfl rfl (looksVariable_spec s h) ?_
  refine Wl.move rfl rfl ?_
  apply Wl.andB (l1 := [_, _, _, _, _, _]) (i := 6) (d := 12)
  · rfl
  · intro hg1
    refine Wl.guardYes rfl rfl ?_
    refine Wl.field fd41_0 rfl rfl ?_
    refine Wl.guardYes rfl rfl ?_
    refine Wl.loadO ty25 rfl .here rfl rfl ?_
    refine Wl.guardYes rfl rfl ?_
    refine Wl.move rfl rfl ?_
    refine Wl.guardYes rfl rfl ?_
    refine Wl.callV rfl rfl rfl (Contains_spec _ told s h ht (by omega)) ?_
    refine Wl.guardYes rfl rfl ?_
    refine Wl.not rfl rfl ?_
    refine Wl.pickT rfl rfl rfl ?_
    refine Wl.nil ?_
    exact Wx.reach (.cons rfl (.skip rfl (.skip rfl (.skip rfl (.skip rfl (.skip rfl (.skip rfl (.same rfl (by rw [hg1]) (.refl _)))))))))
  · intro hg1
    refine Wl.guardNo rfl rfl rfl rfl ?_
    refine Wl.guardNo rfl rfl rfl rfl ?_
    refine Wl.guardNo rfl rfl rfl rfl ?_
    refine Wl.guardNo rfl rfl rfl rfl ?_
    refine Wl.guardNo rfl rfl rfl rfl ?_
    refine Wl.pickF rfl rfl rfl ?_
    refine Wl.nil ?_
    exact Wx.reach (.cons rfl (.skip rfl (.skip rfl (.skip rfl (.skip rfl (.skip rfl (.skip rfl (.same rfl (by rw [hg1]) (.refl _)))))))))
  refine Wl.assign rfl rfl ?_
  refine Wl.nil ?_
  refine Wx.then_code ?_
  refine Wc.ret ?_
  exact endK .ret (.inl rfl) rfl rfl [] (Ghost.le.refl _) rfl
theorem checkRoles_spec (tv pv : Value) (told : List ByteArray) (l : List (List Atom)) (h : Ghost) (c : Nat) (ht : Strs h tv told) (hp : Parts h pv l) (hl : l.length ≤ 1000000) (hlt : told.length ≤ 1000000) (hla : ∀ p ∈ l, p.length ≤ 1000000) (g : Gl h)
    (hn : ∀ p ∈ l, ∀ a ∈ p, nameB a.name = true) :
    SpecV Tryz.prog 50 [.agg #[tv, pv], .slice none 0 c] h (.int .i64 0) := by
  obtain ⟨ta, tc, rfl, htc⟩ := ht.shape
  obtain ⟨ao, cap, rfl, hcap⟩ := hp.shape
  refine SpecP.enter cl50 Tryz.func50 rfl Tryz.ntmps50 rfl fun E R => ?_
  refine Wc.seq ?_
  refine Wc.region ?_
  refine Wl.box rfl (by rfl) rfl (fun b1 => ?_)
  refine Wl.assign rfl rfl ?_
  refine Wl.nil ?_
  refine Wx.then_code ?_
  refine Wc.seq ?_
  refine Wc.seq ?_
  refine Wc.region ?_
  refine Wl.move rfl rfl ?_
  refine Wl.slLen Tryz.underlying83 rfl rfl ?_
  refine Wl.move rfl rfl ?_
  refine Wl.nil ?_
  refine Wx.then_code ?_
  refine Wc.block ?_
  refine Wc.loop (ι := Unit) (fun _ => True) (fun _ => [(1, .slice none 0 c), (2, .pointer (some ⟨b1, 0, none⟩)), (14, .slice none 0 c), (15, .int .i64 0), (16, .int .i64 0)]) (fun _ => _) (fun _ => _) (fun x => 0) () trivial (.cons rfl (.cons rfl (.cons rfl (.cons rfl (.cons rfl (.nil _)))))) rfl rfl fun _ _ => ?_
  refine Wc.seq ?_
  refine Wc.region ?_
  refine Wl.iLss rfl rfl rfl ?_
  refine Wl.nil ?_
  refine Wx.then_code ?_
  refine Wc.seq ?_
  refine Wc.condS rfl (fun hc1 => ?_) (fun hc1 => ?_)
  refine Wc.skip ?_
  refine Wx.then_code ?_
  refine Wc.seq ?_
  refine Wc.block ?_
  refine Wc.seq ?_
  refine Wc.region ?_
  · exact absurd hc1 (by decide)
  refine Wc.exit ?_
  refine Wx.then_exit ?_
  refine Wx.then_exit ?_
  refine Wx.block_exit ?_
  refine Wx.then_code ?_
  refine Wc.seq ?_
  refine Wc.seq ?_
  refine Wc.region ?_
  refine Wl.field fd41_1 rfl rfl ?_
  refine Wl.loadO ty39 rfl (by repeat (first | exact .here | apply Has.there)) rfl rfl ?_
  refine Wl.slLen Tryz.underlying39 rfl rfl ?_
  refine Wl.move rfl rfl ?_
  refine Wl.nil ?_
  refine Wx.then_code ?_
  refine Wc.block ?_
  refine Wc.loop (ι := Nat) (fun i => i ≤ l.length) (fun i => [(1, .slice none 0 c), (2, .pointer (some ⟨b1, 0, none⟩)), (27, .slice ao l.length cap), (28, .int .i64 l.length), (29, .int .i64 i)]) (fun _ => _) (fun _ => _) (fun i => l.length - i) 0
    (Nat.zero_le _) (.cons rfl (.cons rfl (.cons rfl (.cons rfl (.cons rfl (.nil _)))))) rfl rfl fun i hi => ?_
  refine Wc.seq ?_
  refine Wc.region ?_
  refine Wl.iLss rfl rfl rfl ?_
  refine Wl.nil ?_
  refine Wx.then_code ?_
  refine Wc.seq ?_
  refine Wc.condS rfl (fun hc2 => ?_) (fun hc2 => ?_)
  refine Wc.skip ?_
  refine Wx.then_code ?_
  refine Wc.seq ?_
  refine Wc.block ?_
  refine Wc.seq ?_
  refine Wc.region ?_
  have hlt1 : i < l.length := by have := of_decide_eq_true hc2; omega
  have hx := List.getElem?_eq_getElem hlt1
  refine Wl.elemS sl39 rfl hp rfl rfl hx rfl fun b o vs ⟨u, hu, hau⟩ hk hseg => ?_
  subst hu
  obtain ⟨uo, uc, rfl, huc⟩ := hau.shape
  refine Wl.loadGA ty24 rfl hseg rfl rfl ?_
  refine Wl.alloc ty24 rfl rfl (fun b2 => ?_)
  refine Wl.storeA ty24 rfl rfl (by rfl) (by repeat (first | exact .here | apply Upd.there)) (by rfl) (by rfl) (by rfl) ?_
  refine Wl.nil ?_
  refine Wx.then_code ?_
  refine Wc.seq ?_
  refine Wc.region ?_
  refine Wl.field fd24_0 rfl rfl ?_
  refine Wl.loadO ty22 rfl (by repeat (first | exact .here | apply Has.there)) rfl rfl ?_
  refine Wl.slLen Tryz.underlying22 rfl rfl ?_
  refine Wl.move rfl rfl ?_
  refine Wl.nil ?_
  refine Wx.then_code ?_
  refine Wc.block ?_
  refine Wc.loop (ι := Nat) (fun j => j ≤ l[i].length) (fun j => [(1, .slice none 0 c), (2, .pointer (some ⟨b1, 0, none⟩)), (27, .slice ao l.length cap), (28, .int .i64 l.length), (29, .int .i64 i), (34, .slice uo l[i].length uc), (35, .int .i64 l[i].length), (36, .int .i64 j)]) (fun _ => _) (fun _ => _) (fun j => l[i].length - j) 0
    (Nat.zero_le _) (.cons rfl (.cons rfl (.cons rfl (.cons rfl (.cons rfl (.cons rfl (.cons rfl (.cons rfl (.nil _))))))))) rfl rfl fun j hj => ?_
  have hli := hla _ (List.getElem_mem hlt1)
  refine Wc.seq ?_
  refine Wc.region ?_
  refine Wl.iLss rfl rfl rfl ?_
  refine Wl.nil ?_
  refine Wx.then_code ?_
  refine Wc.seq ?_
  refine Wc.condS rfl (fun hc3 => ?_) (fun hc3 => ?_)
  refine Wc.skip ?_
  refine Wx.then_code ?_
  refine Wc.seq ?_
  refine Wc.block ?_
  refine Wc.seq ?_
  refine Wc.region ?_
  have hlt2 : j < l[i].length := by have := of_decide_eq_true hc3; omega
  have hx2 := List.getElem?_eq_getElem hlt2
  refine Wl.elemF sl22 rfl hau rfl rfl hx2 rfl fun b o hseg => ?_
  refine Wl.loadGA ty37 rfl hseg rfl rfl ?_
  refine Wl.alloc ty37 rfl rfl (fun b3 => ?_)
  refine Wl.storeA ty37 rfl rfl (by rfl) (by repeat (first | exact .here | apply Upd.there)) (by rfl) (by rfl) (by rfl) ?_
  refine Wl.nil ?_
  refine Wx.then_code ?_
  refine Wc.seq ?_
  refine Wc.region ?_
  refine Wl.makeFunc rfl rfl rfl ?_
  refine Wl.assign rfl rfl ?_
  refine Wl.nil ?_
  refine Wx.then_code ?_
  refine Wc.seq ?_
  refine Wc.seq ?_
  refine Wc.region ?_
  refine Wl.field fd37_0 rfl rfl ?_
  refine Wl.loadO ty3 rfl (by repeat (first | exact .here | apply Has.there)) rfl rfl ?_
  refine Wl.iNeq rfl rfl rfl ?_
  refine Wl.move rfl rfl ?_
  apply Wl.orB (l1 := [_, _, _, _, _, _, _, _, _, _, _, _, _]) (i := 44) (d := 57)
  · rfl
  · intro hg4
    refine Wl.guardNo rfl rfl rfl rfl ?_
    refine Wl.guardNo rfl rfl rfl rfl ?_
    refine Wl.guardNo rfl rfl rfl rfl ?_
    refine Wl.guardNo rfl rfl rfl rfl ?_
    refine Wl.guardNo rfl rfl rfl rfl ?_
    refine Wl.guardNo rfl rfl rfl rfl ?_
    refine Wl.guardUndef rfl rfl rfl ?_
    refine Wl.guardUndef rfl rfl rfl ?_
    refine Wl.guardUndef rfl rfl rfl ?_
    refine Wl.guardUndef rfl rfl rfl ?_
    refine Wl.guardUndef rfl rfl rfl ?_
    refine Wl.guardNo rfl rfl rfl rfl ?_
    refine Wl.pickT rfl rfl rfl ?_
    refine Wl.nil ?_
    exact Wx.reach (.cons rfl (.skip rfl (.skip rfl (.skip rfl (.skip rfl (.skip rfl (.skip rfl (.skip rfl (.skip rfl (.skip rfl (.skip rfl (.skip rfl (.skip rfl (.skip rfl (.same rfl (by rw [hg4]) (.refl _))))))))))))))))
  · intro hg4
    refine Wl.guardYes rfl rfl ?_
    refine Wl.move rfl rfl ?_
    refine Wl.guardYes rfl rfl ?_
    refine Wl.field fd37_2 rfl rfl ?_
    refine Wl.guardYes rfl rfl ?_
    refine Wl.loadO ty9 rfl (by repeat (first | exact .here | apply Has.there)) rfl rfl ?_
    refine Wl.guardYes rfl rfl ?_
    refine Wl.callK [_, _] _ rfl rfl rfl (checkRoles1_spec l[i][j].x h _ _ told b1 ht hlt) rfl ?_
    refine Wl.guardYes rfl rfl ?_
    refine Wl.not rfl rfl ?_
    refine Wl.guardYes rfl rfl ?_
    refine Wl.move rfl rfl ?_
    apply Wl.andB (l1 := [_, _, _, _, _, _]) (i := 50) (d := 56)
    · rfl
    · intro hg5
      refine Wl.guardYes rfl rfl ?_
      refine Wl.move rfl rfl ?_
      refine Wl.guardYes rfl rfl ?_
      refine Wl.field fd37_3 rfl rfl ?_
      refine Wl.guardYes rfl rfl ?_
      refine Wl.loadO ty9 rfl (by repeat (first | exact .here | apply Has.there)) rfl rfl ?_
      refine Wl.guardYes rfl rfl ?_
      refine Wl.callK [_, _] _ rfl rfl rfl (checkRoles1_spec l[i][j].y h _ _ told b1 ht hlt) rfl ?_
      refine Wl.guardYes rfl rfl ?_
      refine Wl.not rfl rfl ?_
      refine Wl.guardYes rfl rfl ?_
      refine Wl.pickT rfl rfl rfl ?_
      refine Wl.nil ?_
      exact Wx.reach (.cons rfl (.skip rfl (.skip rfl (.skip rfl (.skip rfl (.skip rfl (.skip rfl (.same rfl (by rw [hg5]) (.refl _)))))))))
    · intro hg5
      refine Wl.guardNo rfl rfl rfl rfl ?_
      refine Wl.guardNo rfl rfl rfl rfl ?_
      refine Wl.guardNo rfl rfl rfl rfl ?_
      refine Wl.guardNo rfl rfl rfl rfl ?_
      refine Wl.guardNo rfl rfl rfl rfl ?_
      refine Wl.guardYes rfl rfl ?_
      refine Wl.pickF rfl rfl rfl ?_
      refine Wl.nil ?_
      exact Wx.reach (.cons rfl (.skip rfl (.skip rfl (.skip rfl (.skip rfl (.skip rfl (.skip rfl (.same rfl (by rw [hg5]) (.refl _)))))))))
    refine Wl.pickF rfl rfl rfl ?_
    refine Wl.nil ?_
    exact Wx.reach (.cons rfl (.skip rfl (.skip rfl (.skip rfl (.skip rfl (.skip rfl (.skip rfl (.skip rfl (.skip rfl (.same rfl (by rw [hg4]) (.refl _)))))))))))
  refine Wl.nil ?_
  refine Wx.then_code ?_
  refine Wc.condS rfl (fun hc6 => ?_) (fun hc6 => ?_)
  refine Wc.exit ?_
  refine Wx.then_exit ?_
  refine Wx.block_exit ?_
  refine Wx.then_code ?_
  refine Wc.region ?_
  refine Wl.inc rfl rfl (by first | assumption | omega | (have hx := of_decide_eq_true hc6; omega) | (have hx := of_decide_eq_true hc3; omega) | (have hx := of_decide_eq_true hc2; omega) | (have hx := of_decide_eq_true hc1; omega)) ?_
  refine Wl.move rfl rfl ?_
  refine Wl.nil ?_
  · exact Wx.again (j + 1) hlt2 (by omega) (.cons rfl (.cons rfl (.cons rfl (.cons rfl (.cons rfl (.cons rfl (.cons rfl (.cons rfl (.nil _))))))))) rfl (.skip .refl)
  refine Wc.skip ?_
  refine Wx.then_code ?_
  refine Wc.seq ?_
  refine Wc.region ?_
  refine Wl.move rfl rfl ?_
  refine Wl.field fd37_1 rfl rfl ?_
  refine Wl.loadO ty9 rfl (by repeat (first | exact .here | apply Has.there)) rfl rfl ?_
  refine Wl.callV rfl rfl rfl (Simple_nil l[i][j].name h c g) ?_
  have hN : nameB l[i][j].name = true := hn _ (List.getElem_mem hlt1) _ (List.getElem_mem hlt2)
  rw [hN]
  refine Wl.move rfl rfl ?_
  refine Wl.extract rfl rfl rfl ?_
  refine Wl.extract rfl rfl rfl ?_
  refine Wl.assign rfl rfl ?_
  refine Wl.assign rfl rfl ?_
  refine Wl.nil ?_
  refine Wx.then_code ?_
  refine Wc.seq ?_
  refine Wc.seq ?_
  refine Wc.region ?_
  refine Wl.move rfl rfl ?_
  refine Wl.iNeq rfl rfl rfl ?_
  refine Wl.nil ?_
  refine Wx.then_code ?_
  refine Wc.condS rfl (fun hc7 => ?_) (fun hc7 => ?_)
  refine Wc.seq ?_
  refine Wc.region ?_
  refine Wl.move rfl rfl ?_
  refine Wl.assign rfl rfl ?_
  refine Wl.nil ?_
  refine Wx.then_code ?_
  refine Wc.ret ?_
  refine Wx.then_ret ?_
  refine Wx.block_ret ?_
  refine Wx.then_ret ?_
  refine Wx.then_ret ?_
  refine Wx.block_ret ?_
  refine Wx.block_ret ?_
  refine Wx.then_ret ?_
  refine Wx.then_ret ?_
  refine Wx.block_ret ?_
  refine Wx.then_ret ?_
  · simp at hc7
  refine Wc.skip ?_
  refine Wx.then_code ?_
  refine Wc.seq ?_
  refine Wc.region ?_
  refine Wl.move rfl rfl ?_
  refine Wl.not rfl rfl ?_
  refine Wl.nil ?_
  refine Wx.then_code ?_
  refine Wc.condS rfl (fun hc8 => ?_) (fun hc8 => ?_)
  refine Wc.seq ?_
  refine Wc.region ?_
  refine Wl.assign rfl rfl ?_
  refine Wl.nil ?_
  refine Wx.then_code ?_
  refine Wc.ret ?_
  refine Wx.block_ret ?_
  refine Wx.then_ret ?_
  refine Wx.then_ret ?_
  refine Wx.block_ret ?_
  refine Wx.block_ret ?_
  refine Wx.then_ret ?_
  refine Wx.then_ret ?_
  refine Wx.block_ret ?_
  refine Wx.then_ret ?_
  · simp at hc8
  refine Wc.skip ?_
  refine Wx.block_normal ?_
  refine Wx.then_code ?_
  refine Wc.region ?_
  refine Wl.inc rfl rfl (by first | assumption | omega | (have hx := of_decide_eq_true hc8; omega) | (have hx := of_decide_eq_true hc7; omega) | (have hx := of_decide_eq_true hc6; omega) | (have hx := of_decide_eq_true hc3; omega)) ?_
  refine Wl.move rfl rfl ?_
  refine Wl.nil ?_
  · exact Wx.again (j + 1) hlt2 (by omega) (.cons rfl (.cons rfl (.cons rfl (.cons rfl (.cons rfl (.cons rfl (.cons rfl (.cons rfl (.nil _))))))))) rfl (.skip .refl)
  refine Wc.exit ?_
  refine Wx.then_exit ?_
  refine Wx.then_exit ?_
  refine Wx.block_exit ?_
  refine Wx.block_normal ?_
  refine Wx.then_code ?_
  refine Wc.region ?_
  refine Wl.inc rfl rfl (by first | assumption | omega | (have hx := of_decide_eq_true hc3; omega) | (have hx := of_decide_eq_true hc2; omega) | (have hx := of_decide_eq_true hc1; omega)) ?_
  refine Wl.move rfl rfl ?_
  refine Wl.nil ?_
  · exact Wx.again (i + 1) hlt1 (by omega) (.cons rfl (.cons rfl (.cons rfl (.cons rfl (.cons rfl (.nil _)))))) rfl (.skip .refl)
  refine Wc.exit ?_
  refine Wx.then_exit ?_
  refine Wx.then_exit ?_
  refine Wx.block_exit ?_
  refine Wx.then_code ?_
  refine Wc.seq ?_
  refine Wc.region ?_
  refine Wl.assign rfl rfl ?_
  refine Wl.nil ?_
  refine Wx.then_code ?_
  refine Wc.ret ?_
  exact endV .ret (.inl rfl) rfl rfl [_] (Ghost.le.refl _) rfl
def varsFew (p : List Atom) : Bool := decide ((varsOf p).length ≤ 8)
/-- the error of a query -/
def queryE (told : List ByteArray) (l : List (List Atom)) : Int :=
  if shapeE told l ≠ 0 then shapeE told l else
  match l.flatten.find? (fun a => atomE a != 0) with
  | some a => atomE a
  | none => if toldE told l ≠ 0 then toldE told l else if l.all varsFew then 0 else 210
theorem atomE_name {a : Atom} (h : atomE a = 0) : nameB a.name = true := by
  unfold atomE at h
  split at h
  · cases h
  split at h
  · cases h
  split at h
  · cases h
  split at h
  · cases h
  · rename_i h1
    simp [individualB] at h1
    exact h1.1
theorem find_at {α : Type} {f : α → Bool} {l : List α} {i : Nat} {x : α} (h : (l.take i).all (fun a => !f a) = true) (hx : l[i]? = some x) (hf : f x = true) : l.find? f = some x := by
  have hl : i < l.length := (List.getElem?_eq_some_iff.1 hx).1
  have hd : l = l.take i ++ x :: l.drop (i + 1) := by
    conv => lhs; rw [← List.take_append_drop i l]
    rw [List.drop_eq_getElem_cons hl, (List.getElem?_eq_some_iff.1 hx).2]
  rw [hd, List.find?_append, List.find?_eq_none.2 (fun a ha => by have := List.all_eq_true.1 h a ha; simpa using this)]
  simp [hf]
theorem find_in {f : Atom → Bool} {l : List (List Atom)} {i j : Nat} {p : List Atom} {x : Atom} (h : (l.take i).all (fun p => p.all fun a => !f a) = true) (hp : l[i]? = some p) (h2 : (p.take j).all (fun a => !f a) = true) (hx : p[j]? = some x) (hf : f x = true) :
    l.flatten.find? f = some x := by
  have hl : i < l.length := (List.getElem?_eq_some_iff.1 hp).1
  have hd : l = l.take i ++ p :: l.drop (i + 1) := by
    conv => lhs; rw [← List.take_append_drop i l]
    rw [List.drop_eq_getElem_cons hl, (List.getElem?_eq_some_iff.1 hp).2]
  rw [hd, List.flatten_append, List.find?_append, List.find?_eq_none.2 (fun a ha => by
    obtain ⟨q, hq, ha⟩ := List.mem_flatten.1 ha
    have := List.all_eq_true.1 (List.all_eq_true.1 h q hq) a ha; simpa using this)]
  simp only [List.flatten_cons, List.find?_append, find_at h2 hx hf]; simp
theorem find_none {f : Atom → Bool} {l : List (List Atom)} (h : l.all (fun p => p.all fun a => !f a) = true) : l.flatten.find? f = none :=
  List.find?_eq_none.2 (fun a ha => by
    obtain ⟨q, hq, ha⟩ := List.mem_flatten.1 ha
    have := List.all_eq_true.1 (List.all_eq_true.1 h q hq) a ha; simpa using this)
def atomsOk (p : List Atom) : Bool := p.all fun a => !(atomE a != 0)
theorem varsOf_le (p : List Atom) : (varsOf p).length ≤ p.length * 2 := by
  have h1 := varsRaw_le p; have h2 := compactS_le (sortS (varsRaw p)); have h3 := sortS_length (varsRaw p); unfold varsOf; omega
theorem Check_spec (tv pv : Value) (told : List ByteArray) (l : List (List Atom)) (h : Ghost) (c : Nat) (ht : Strs h tv told) (hp : Parts h pv l) (hl : l.length ≤ 1000000) (hlt : told.length ≤ 1000000) (hla : ∀ p ∈ l, p.length ≤ 1000000) (g : Gl h) :
    SpecV Tryz.prog 26 [.agg #[tv, pv], .slice none 0 c] h (.int .i64 (queryE told l)) := by
  obtain ⟨ta, tc, rfl, htc⟩ := ht.shape
  obtain ⟨ao, cap, rfl, hcap⟩ := hp.shape
  refine SpecP.enter cl26 Tryz.func26 rfl Tryz.ntmps26 rfl fun E R => ?_
  refine Wc.seq ?_
  refine Wc.region ?_
  refine Wl.box rfl (by rfl) rfl (fun b1 => ?_)
  refine Wl.assign rfl rfl ?_
  refine Wl.nil ?_
  refine Wx.then_code ?_
  refine Wc.seq ?_
  refine Wc.seq ?_
  refine Wc.region ?_
  refine Wl.loadOA ty41 rfl (by repeat (first | exact .here | apply Has.there)) rfl rfl ?_
  refine Wl.callV rfl rfl rfl (checkShape_spec _ _ told l h ht hp hl) ?_
  refine Wl.assign rfl rfl ?_
  refine Wl.nil ?_
  refine Wx.then_code ?_
  refine Wc.seq ?_
  refine Wc.region ?_
  refine Wl.move rfl rfl ?_
  refine Wl.iNeq rfl rfl rfl ?_
  refine Wl.nil ?_
  refine Wx.then_code ?_
  refine Wc.condS rfl (fun hc1 => ?_) (fun hc1 => ?_)
  refine Wc.seq ?_
  refine Wc.region ?_
  refine Wl.move rfl rfl ?_
  refine Wl.assign rfl rfl ?_
  refine Wl.nil ?_
  refine Wx.then_code ?_
  refine Wc.ret ?_
  refine Wx.then_ret ?_
  · exact endV .ret (.inl rfl) rfl rfl [_] (Ghost.le.refl _) (by rw [queryE, if_pos (by simpa using hc1)])
  refine Wc.skip ?_
  refine Wx.then_code ?_
  refine Wc.seq ?_
  refine Wc.seq ?_
  refine Wc.region ?_
  refine Wl.field fd41_1 rfl rfl ?_
  refine Wl.loadO ty39 rfl (by repeat (first | exact .here | apply Has.there)) rfl rfl ?_
  refine Wl.slLen Tryz.underlying39 rfl rfl ?_
  refine Wl.move rfl rfl ?_
  refine Wl.nil ?_
  refine Wx.then_code ?_
  refine Wc.block ?_
  have hq : queryE told l = match l.flatten.find? (fun a => atomE a != 0) with
    | some a => atomE a
    | none => if toldE told l ≠ 0 then toldE told l else if l.all varsFew then 0 else 210 := by rw [queryE, if_neg (by simpa using hc1)]
  refine Wc.loop (ι := Nat) (fun i => i ≤ l.length ∧ (l.take i).all atomsOk = true) (fun i => [(1, .slice none 0 c), (2, .pointer (some ⟨b1, 0, none⟩)), (17, .slice ao l.length cap), (18, .int .i64 l.length), (19, .int .i64 i)]) (fun _ => _) (fun _ => _) (fun i => l.length - i) 0
    ⟨Nat.zero_le _, rfl⟩ (.cons rfl (.cons rfl (.cons rfl (.cons rfl (.cons rfl (.nil _)))))) rfl rfl fun i ⟨hi, hall⟩ => ?_
  refine Wc.seq ?_
  refine Wc.region ?_
  refine Wl.iLss rfl rfl rfl ?_
  refine Wl.nil ?_
  refine Wx.then_code ?_
  refine Wc.seq ?_
  refine Wc.condS rfl (fun hc2 => ?_) (fun hc2 => ?_)
  refine Wc.skip ?_
  refine Wx.then_code ?_
  refine Wc.seq ?_
  refine Wc.block ?_
  refine Wc.seq ?_
  refine Wc.region ?_
  have hlt1 : i < l.length := by have := of_decide_eq_true hc2; omega
  have hx := List.getElem?_eq_getElem hlt1
  refine Wl.elemS sl39 rfl hp rfl rfl hx rfl fun b o vs ⟨u, hu, hau⟩ hk hseg => ?_
  subst hu
  obtain ⟨uo, uc, rfl, huc⟩ := hau.shape
  refine Wl.loadGA ty24 rfl hseg rfl rfl ?_
  refine Wl.alloc ty24 rfl rfl (fun b2 => ?_)
  refine Wl.storeA ty24 rfl rfl (by rfl) (by repeat (first | exact .here | apply Upd.there)) (by rfl) (by rfl) (by rfl) ?_
  refine Wl.nil ?_
  refine Wx.then_code ?_
  refine Wc.seq ?_
  refine Wc.region ?_
  refine Wl.field fd24_0 rfl rfl ?_
  refine Wl.loadO ty22 rfl (by repeat (first | exact .here | apply Has.there)) rfl rfl ?_
  refine Wl.slLen Tryz.underlying22 rfl rfl ?_
  refine Wl.move rfl rfl ?_
  refine Wl.nil ?_
  refine Wx.then_code ?_
  refine Wc.block ?_
  refine Wc.loop (ι := Nat) (fun j => j ≤ l[i].length ∧ atomsOk (l[i].take j) = true) (fun j => [(1, .slice none 0 c), (2, .pointer (some ⟨b1, 0, none⟩)), (17, .slice ao l.length cap), (18, .int .i64 l.length), (19, .int .i64 i), (24, .slice uo l[i].length uc), (25, .int .i64 l[i].length), (26, .int .i64 j)]) (fun _ => _) (fun _ => _) (fun j => l[i].length - j) 0
    ⟨Nat.zero_le _, rfl⟩ (.cons rfl (.cons rfl (.cons rfl (.cons rfl (.cons rfl (.cons rfl (.cons rfl (.cons rfl (.nil _))))))))) rfl rfl fun j ⟨hj, hall2⟩ => ?_
  have hli := hla _ (List.getElem_mem hlt1)
  refine Wc.seq ?_
  refine Wc.region ?_
  refine Wl.iLss rfl rfl rfl ?_
  refine Wl.nil ?_
  refine Wx.then_code ?_
  refine Wc.seq ?_
  refine Wc.condS rfl (fun hc3 => ?_) (fun hc3 => ?_)
  refine Wc.skip ?_
  refine Wx.then_code ?_
  refine Wc.seq ?_
  refine Wc.block ?_
  refine Wc.seq ?_
  refine Wc.region ?_
  have hlt2 : j < l[i].length := by have := of_decide_eq_true hc3; omega
  have hx2 := List.getElem?_eq_getElem hlt2
  refine Wl.elemF sl22 rfl hau rfl rfl hx2 rfl fun b o hseg => ?_
  refine Wl.loadGA ty37 rfl hseg rfl rfl ?_
  refine Wl.alloc ty37 rfl rfl (fun b3 => ?_)
  refine Wl.storeA ty37 rfl rfl (by rfl) (by repeat (first | exact .here | apply Upd.there)) (by rfl) (by rfl) (by rfl) ?_
  refine Wl.nil ?_
  refine Wx.then_code ?_
  refine Wc.seq ?_
  refine Wc.region ?_
  refine Wl.loadOA ty37 rfl (by repeat (first | exact .here | apply Has.there)) rfl rfl ?_
  refine Wl.callV rfl rfl rfl (checkAtom_spec l[i][j] h g) ?_
  refine Wl.assign rfl rfl ?_
  refine Wl.nil ?_
  refine Wx.then_code ?_
  refine Wc.seq ?_
  refine Wc.region ?_
  refine Wl.move rfl rfl ?_
  refine Wl.iNeq rfl rfl rfl ?_
  refine Wl.nil ?_
  refine Wx.then_code ?_
  refine Wc.condS rfl (fun hc4 => ?_) (fun hc4 => ?_)
  refine Wc.seq ?_
  refine Wc.region ?_
  refine Wl.move rfl rfl ?_
  refine Wl.assign rfl rfl ?_
  refine Wl.nil ?_
  refine Wx.then_code ?_
  refine Wc.ret ?_
  refine Wx.block_ret ?_
  refine Wx.then_ret ?_
  refine Wx.then_ret ?_
  refine Wx.block_ret ?_
  refine Wx.block_ret ?_
  refine Wx.then_ret ?_
  refine Wx.then_ret ?_
  refine Wx.block_ret ?_
  refine Wx.then_ret ?_
  · exact endV .ret (.inl rfl) rfl rfl [_, _, _] (Ghost.le.refl _) (by rw [hq, find_in hall hx hall2 hx2 (by simpa using hc4)])
  refine Wc.skip ?_
  refine Wx.block_normal ?_
  refine Wx.then_code ?_
  refine Wc.region ?_
  refine Wl.inc rfl rfl (by first | assumption | omega | (have hx := of_decide_eq_true hc4; omega) | (have hx := of_decide_eq_true hc3; omega) | (have hx := of_decide_eq_true hc2; omega) | (have hx := of_decide_eq_true hc1; omega)) ?_
  refine Wl.move rfl rfl ?_
  refine Wl.nil ?_
  · exact Wx.again (j + 1) ⟨hlt2, all_take_succ hx2 hall2 (by simpa using hc4)⟩ (by omega) (.cons rfl (.cons rfl (.cons rfl (.cons rfl (.cons rfl (.cons rfl (.cons rfl (.cons rfl (.nil _))))))))) rfl (.skip .refl)
  refine Wc.exit ?_
  refine Wx.then_exit ?_
  refine Wx.then_exit ?_
  refine Wx.block_exit ?_
  refine Wx.block_normal ?_
  refine Wx.then_code ?_
  refine Wc.region ?_
  refine Wl.inc rfl rfl (by first | assumption | omega | (have hx := of_decide_eq_true hc3; omega) | (have hx := of_decide_eq_true hc2; omega) | (have hx := of_decide_eq_true hc1; omega)) ?_
  refine Wl.move rfl rfl ?_
  refine Wl.nil ?_
  · refine Wx.again (i + 1) ⟨hlt1, all_take_succ hx hall ?_⟩ (by omega) (.cons rfl (.cons rfl (.cons rfl (.cons rfl (.cons rfl (.nil _)))))) rfl (.skip .refl)
    have hj' : j = l[i].length := by have := of_decide_eq_false hc3; omega
    rw [hj', List.take_length] at hall2; exact hall2
  refine Wc.exit ?_
  refine Wx.then_exit ?_
  refine Wx.then_exit ?_
  refine Wx.block_exit ?_
  refine Wx.then_code ?_
  refine Wc.seq ?_
  refine Wc.seq ?_
  refine Wc.region ?_
  refine Wl.loadOA ty41 rfl (by repeat (first | exact .here | apply Has.there)) rfl rfl ?_
  have hall' : l.all atomsOk = true := by
    have hi' : i = l.length := by have := of_decide_eq_false hc2; omega
    rw [hi', List.take_length] at hall; exact hall
  rw [find_none hall'] at hq
  refine Wl.callV rfl rfl rfl (checkTold_spec _ _ told l h ht hp hl hlt hla) ?_
  refine Wl.assign rfl rfl ?_
  refine Wl.nil ?_
  refine Wx.then_code ?_
  refine Wc.seq ?_
  refine Wc.region ?_
  refine Wl.move rfl rfl ?_
  refine Wl.iNeq rfl rfl rfl ?_
  refine Wl.nil ?_
  refine Wx.then_code ?_
  refine Wc.condS rfl (fun hc5 => ?_) (fun hc5 => ?_)
  refine Wc.seq ?_
  refine Wc.region ?_
  refine Wl.move rfl rfl ?_
  refine Wl.assign rfl rfl ?_
  refine Wl.nil ?_
  refine Wx.then_code ?_
  refine Wc.ret ?_
  refine Wx.then_ret ?_
  · exact endV .ret (.inl rfl) rfl rfl [_] (Ghost.le.refl _) (by rw [hq]; simp only; rw [if_pos (by simpa using hc5)])
  refine Wc.skip ?_
  refine Wx.then_code ?_
  refine Wc.seq ?_
  refine Wc.seq ?_
  refine Wc.region ?_
  refine Wl.field fd41_1 rfl rfl ?_
  refine Wl.loadO ty39 rfl (by repeat (first | exact .here | apply Has.there)) rfl rfl ?_
  refine Wl.slLen Tryz.underlying39 rfl rfl ?_
  refine Wl.move rfl rfl ?_
  refine Wl.nil ?_
  refine Wx.then_code ?_
  refine Wc.block ?_
  simp only [if_neg (show ¬ toldE told l ≠ 0 by simpa using hc5)] at hq
  refine Wc.loop (ι := Nat × Ghost) (fun x => x.1 ≤ l.length ∧ h.le x.2 ∧ (l.take x.1).all varsFew = true) (fun x => [(1, .slice none 0 c), (2, .pointer (some ⟨b1, 0, none⟩)), (43, .slice ao l.length cap), (44, .int .i64 l.length), (45, .int .i64 x.1)]) (fun x => x.2) (fun _ => _) (fun x => l.length - x.1) (0, h)
    ⟨Nat.zero_le _, Ghost.le.refl _, rfl⟩ (.cons rfl (.cons rfl (.cons rfl (.cons rfl (.cons rfl (.nil _)))))) rfl rfl fun ⟨i, h1⟩ ⟨hi, hh1, hall⟩ => ?_
  dsimp only at hi hh1 hall
  refine Wc.seq ?_
  refine Wc.region ?_
  refine Wl.iLss rfl rfl rfl ?_
  refine Wl.nil ?_
  refine Wx.then_code ?_
  refine Wc.seq ?_
  refine Wc.condS rfl (fun hc6 => ?_) (fun hc6 => ?_)
  refine Wc.skip ?_
  refine Wx.then_code ?_
  refine Wc.seq ?_
  refine Wc.block ?_
  refine Wc.seq ?_
  refine Wc.region ?_
  have hlt1 : i < l.length := by have := of_decide_eq_true hc6; dsimp only at this; omega
  have hx := List.getElem?_eq_getElem hlt1
  have hli := hla _ (List.getElem_mem hlt1)
  refine Wl.elemS sl39 rfl (hp.mono hh1) rfl rfl hx rfl fun b o vs ⟨u, hu, hau⟩ hk hseg => ?_
  subst hu
  obtain ⟨uo, uc, rfl, huc⟩ := hau.shape
  refine Wl.loadGA ty24 rfl hseg rfl rfl ?_
  refine Wl.alloc ty24 rfl rfl (fun b4 => ?_)
  refine Wl.storeA ty24 rfl rfl (by rfl) (by repeat (first | exact .here | apply Upd.there)) (by rfl) (by rfl) (by rfl) ?_
  refine Wl.nil ?_
  refine Wx.then_code ?_
  refine Wc.seq ?_
  refine Wc.region ?_
  refine Wl.loadOA ty24 rfl (by repeat (first | exact .here | apply Has.there)) rfl rfl ?_
  refine Wl.callP rfl rfl rfl (Variables_spec _ l[i] h1 hau hli) fun v h2 hh2 hv => ?_
  obtain ⟨vo, vc, rfl, hvc⟩ := hv.shape
  refine Wl.slLen Tryz.underlying25 rfl rfl ?_
  refine Wl.iGtr rfl rfl rfl ?_
  refine Wl.nil ?_
  refine Wx.then_code ?_
  refine Wc.condS rfl (fun hc7 => ?_) (fun hc7 => ?_)
  refine Wc.seq ?_
  refine Wc.region ?_
  refine Wl.assign rfl rfl ?_
  refine Wl.nil ?_
  refine Wx.then_code ?_
  refine Wc.ret ?_
  refine Wx.block_ret ?_
  refine Wx.then_ret ?_
  refine Wx.then_ret ?_
  refine Wx.block_ret ?_
  refine Wx.then_ret ?_
  · have hb : varsFew l[i] = false := by have := of_decide_eq_true hc7; simp [varsFew]; omega
    exact endV .ret (.inl rfl) rfl rfl [_, _] (hh1.trans hh2) (by rw [hq, if_neg (not_all hx hb)])
  refine Wc.skip ?_
  refine Wx.block_normal ?_
  refine Wx.then_code ?_
  refine Wc.region ?_
  refine Wl.inc rfl rfl (by first | assumption | omega | (have hx := of_decide_eq_true hc7; omega) | (have hx := of_decide_eq_true hc6; omega) | (have hx := of_decide_eq_true hc5; omega) | (have hx := of_decide_eq_true hc2; omega)) ?_
  refine Wl.move rfl rfl ?_
  refine Wl.nil ?_
  · have hb : varsFew l[i] = true := by have := of_decide_eq_false hc7; simp [varsFew]; omega
    exact Wx.again (i + 1, h2) ⟨hlt1, hh1.trans hh2, all_take_succ hx hall hb⟩ (by dsimp only; omega) (.cons rfl (.cons rfl (.cons rfl (.cons rfl (.cons rfl (.nil _)))))) rfl (.skip .refl)
  refine Wc.exit ?_
  refine Wx.then_exit ?_
  refine Wx.then_exit ?_
  refine Wx.block_exit ?_
  refine Wx.then_code ?_
  refine Wc.seq ?_
  refine Wc.region ?_
  refine Wl.loadOA ty41 rfl (by repeat (first | exact .here | apply Has.there)) rfl rfl ?_
  refine Wl.move rfl rfl ?_
  refine Wl.callV rfl rfl rfl (checkRoles_spec _ _ told l h1 c (ht.mono hh1) (hp.mono hh1) hl hlt hla (g.mono hh1) (fun p hp a ha => atomE_name ?_)) ?_
  · have := List.all_eq_true.1 (List.all_eq_true.1 hall' p hp) a ha; simpa using this
  refine Wl.assign rfl rfl ?_
  refine Wl.nil ?_
  refine Wx.then_code ?_
  refine Wc.ret ?_
  exact endV .ret (.inl rfl) rfl rfl [_] hh1 (by
    have hi' : i = l.length := by have := of_decide_eq_false hc6; dsimp only at this; omega
    rw [hi', List.take_length] at hall
    rw [hq, if_pos hall])
end Go.Proofs.YtgpmjggdloldnaaGreatDoor
