/- lex.cutLeft: a text without the first bytes that are among a set of ASCII: two ranges over strings, one in the other. -/
import Derived.Test.YtcgdncpioafbdaaGreatDoorProg
import Derived.WalkKit
import Derived.WalkSpells
import Derived.WalkSmall
import Derived.Lib.OthersKept
import Derived.Laws.RangeAny
import Derived.LoopTactic
import Derived.Outline
import Derived.Lib.Hide
import Derived.Lib.Strings
import Derived.Lib.IndexBytes
namespace Go.Proofs.YtcgdncpioafbdaaGreatDoor.Q
open Go Go.RowKit

theorem width_pos (s : ByteArray) (pos : Nat) (h : pos < s.size) : 1 ≤ (Utf8.decode s pos).2 := by
  by_cases ha : (s[pos]'h).toNat < 128
  · rw [decode_ascii s pos h ha]
    exact Nat.le_refl _
  · exact (decode_high s pos h (by omega)).2

/-- Is a number among the first bytes of a set? -/
def anyTo (set : ByteArray) (p : Nat) (c : Int) : Bool := (set.data.toList.take p).any fun x => (x.toNat : Int) == c
theorem anyTo_zero (set : ByteArray) (c : Int) : anyTo set 0 c = false := by simp [anyTo]
theorem anyTo_succ (set : ByteArray) (p : Nat) (c : Int) (h : p < set.size) : anyTo set (p + 1) c = (anyTo set p c || (c == ((set[p]'h).toNat : Int))) := by
  unfold anyTo
  rw [List.take_succ_eq_append_getElem (by simpa using h)]
  simp only [List.any_append, List.any_cons, List.any_nil, Bool.or_false]
  congr 1
  rw [Bool.eq_iff_iff]
  simp
  exact eq_comm
theorem anyTo_all (set : ByteArray) (c : Int) : anyTo set set.size c = set.data.toList.any fun x => (x.toNat : Int) == c := by
  unfold anyTo
  rw [List.take_of_length_le (by simp)]

def AsciiSet (set : ByteArray) : Prop := ∀ (p : Nat) (h : p < set.size), (set[p]'h).toNat < 128
theorem asciiSet_of {set : ByteArray} (h : set.data.toList.all (fun x => x.toNat < 128) = true) : AsciiSet set := by
  intro p hp
  have := List.all_eq_true.1 h (set[p]'hp) (by
    rw [List.mem_iff_getElem?]
    exact ⟨p, by simp [List.getElem?_eq_getElem (show p < set.data.toList.length by simpa using hp)]; rfl⟩)
  simpa using this

/-- How it was: the first bytes up to pos are all in the set. -/
def inTo (s set : ByteArray) (pos : Nat) : Prop := pos ≤ s.size ∧ ∀ x ∈ s.data.toList.take pos, set.data.toList.contains x = true

theorem any_byte {s set : ByteArray} (hset : AsciiSet set) (pos : Nat) (h : pos < s.size) :
    (set.data.toList.any fun x => (x.toNat : Int) == ((Utf8.decode s pos).1 : Int)) = set.data.toList.contains (s[pos]'h) := by
  by_cases ha : (s[pos]'h).toNat < 128
  · rw [decode_ascii s pos h ha]
    rw [Bool.eq_iff_iff]
    simp only [List.any_eq_true, List.contains_iff_mem, beq_iff_eq]
    constructor
    · rintro ⟨x, hx, e⟩
      have : x = s[pos] := UInt8.toNat_inj.1 (by omega)
      exact this ▸ hx
    · intro hx
      exact ⟨_, hx, rfl⟩
  · have hd := (decode_high s pos h (by omega)).1
    have h1 : (set.data.toList.any fun x => (x.toNat : Int) == ((Utf8.decode s pos).1 : Int)) = false := by
      rw [List.any_eq_false]
      intro x hx
      obtain ⟨j, hj⟩ := List.mem_iff_getElem?.1 hx
      obtain ⟨hjl, hjx⟩ := List.getElem?_eq_some_iff.1 hj
      have := hset j (by simpa using hjl)
      have e : set[j]'(by simpa using hjl) = x := hjx
      rw [e] at this
      simp
      omega
    have h2 : set.data.toList.contains (s[pos]'h) = false := by
      rw [Bool.eq_false_iff]
      intro hx
      rw [List.contains_iff_mem] at hx
      obtain ⟨j, hj⟩ := List.mem_iff_getElem?.1 hx
      obtain ⟨hjl, hjx⟩ := List.getElem?_eq_some_iff.1 hj
      have := hset j (by simpa using hjl)
      have e : set[j]'(by simpa using hjl) = s[pos] := hjx
      rw [e] at this
      omega
    rw [h1, h2]

theorem in_ascii {s set : ByteArray} (hset : AsciiSet set) (pos : Nat) (h : pos < s.size) (hc : set.data.toList.contains (s[pos]'h) = true) : (Utf8.decode s pos).2 = 1 := by
  have ha : (s[pos]'h).toNat < 128 := by
    rw [List.contains_iff_mem] at hc
    obtain ⟨j, hj⟩ := List.mem_iff_getElem?.1 hc
    obtain ⟨hjl, hjx⟩ := List.getElem?_eq_some_iff.1 hj
    have := hset j (by simpa using hjl)
    have e : set[j]'(by simpa using hjl) = s[pos] := hjx
    rw [e] at this
    exact this
  rw [decode_ascii s pos h ha]

theorem inTo_step {s set : ByteArray} {pos : Nat} (hi : inTo s set pos) (h : pos < s.size) (hc : set.data.toList.contains (s[pos]'h) = true) : inTo s set (pos + 1) := by
  refine ⟨by omega, fun x hx => ?_⟩
  rw [List.take_succ_eq_append_getElem (by simpa using h)] at hx
  rcases List.mem_append.1 hx with hx | hx
  · exact hi.2 x hx
  · have e : x = s.data.toList[pos]'(by simpa using h) := List.mem_singleton.1 hx
    rw [e]; exact hc

theorem dropWhile_at {α} (p : α → Bool) (l : List α) (n : Nat) (h : ∀ x ∈ l.take n, p x = true) (h2 : ∀ (hn : n < l.length), p (l[n]'hn) = false) : l.dropWhile p = l.drop n := by
  induction l generalizing n with
  | nil => simp
  | cons c r ih =>
    cases n with
    | zero =>
      have := h2 (by simp)
      simp at this
      simp [List.dropWhile, this]
    | succ n =>
      have hc : p c = true := h c (by simp)
      simp only [List.dropWhile, hc, List.drop_succ_cons]
      exact ih n (fun x hx => h x (by simp [hx])) (fun hn => by have := h2 (by simp; omega); simpa using this)

/-- A text without the first bytes that are among a set. -/
def cutSet (s set : ByteArray) : ByteArray := ⟨(s.data.toList.dropWhile (set.data.toList.contains ·)).toArray⟩
theorem ba_ext {a b : ByteArray} (h : a.data.toList = b.data.toList) : a = b := by
  cases a; cases b; simp at h; simpa using h
theorem cutSet_at {s set : ByteArray} {pos : Nat} (hi : inTo s set pos) (h : pos < s.size) (hc : set.data.toList.contains (s[pos]'h) = false) : cutSet s set = s.extract pos s.size := by
  apply ba_ext
  rw [Lib.extract_to_end]
  unfold cutSet
  simp only
  rw [dropWhile_at _ _ pos hi.2 (fun hn => hc)]
theorem cutSet_end {s set : ByteArray} {pos : Nat} (hi : inTo s set pos) (h : ¬ pos < s.size) : cutSet s set = ⟨#[]⟩ := by
  apply ba_ext
  unfold cutSet
  simp only
  rw [dropWhile_at _ _ pos hi.2 (fun hn => absurd (by simpa using hn) h)]
  simp
  have := hi.1
  have e : s.data.size = s.size := rfl
  omega

def CutRel (s set : ByteArray) (w wr : World) : Prop := ∃ pos, wr.heap[w.heap.size]? = some (.stringIter s pos) ∧ Below w.heap.size w wr ∧ inTo s set pos
def CutEnd (s set : ByteArray) (w : World) (e : Ending) (w' : World) : Prop := e = .returned (.string (cutSet s set)) ∧ Below w.heap.size w w'

set_option maxHeartbeats 4000000 in
set_option maxRecDepth 1000000 in
theorem cut_walk (s set : ByteArray) (hs : s.size ≤ 9223372036854775807) (hset : AsciiSet set) (w : World) :
    Calls Tryz.prog 203 #[.string s, .string set] w (CutEnd s set w) := by
  go_enter Tryz.func203, Tryz.ntmps203
  go_wp2
  go_loopw [7] (fun _ wr => CutRel s set w wr) (fun _ wr => s.size - wr.iterPos w.heap.size)
  case atStart =>
    refine ⟨0, ?_, (Below.refl _ w).alloc (Nat.le_refl _) _, Nat.zero_le _, by simp⟩
    exact World.iter_heap w s 0
  case round =>
    obtain ⟨pos, hit, hbw, hin⟩ := hrel
    by_cases hp : pos < s.size
    · have hnx : ∀ ty, (Instr.next (.pointer (some ⟨w.heap.size, 0, none⟩)) true ty).run Tryz.prog wr = _ := fun ty => Lib.run_next_any_at wr w.heap.size s pos ty hit hp
      have hit2 := Lib.iterAt_heap wr w.heap.size s pos (pos + (Utf8.decode s pos).2) hit
      have hbw2 := Lib.below_iterAt hbw (k := w.heap.size) (Nat.le_refl _) s (pos + (Utf8.decode s pos).2)
      have hsz2 : w.heap.size < (wr.iterAt w.heap.size s (pos + (Utf8.decode s pos).2)).heap.size := (Array.getElem?_eq_some_iff.1 hit2).1
      have hany := Lib.hid (any_byte hset pos hp)
      have hwid := Lib.hid (in_ascii hset pos hp)
      go_wp2
      have hpos : Hid (wr.iterPos w.heap.size = pos) := Lib.hid (by unfold World.iterPos; rw [hit])
      clear hnx hit hbw
      generalize (wr.iterAt w.heap.size s (pos + (Utf8.decode s pos).2)) = wo at *
      generalize (Utf8.decode s pos).1 = c at *
      go_loopw [7] (fun b w2 => ∃ p, p ≤ set.size ∧ w2 = wo.iter set p ∧ b = .bool (anyTo set p c)) (fun _ w2 => set.size - w2.iterPos wo.heap.size)
      case atStart => exact ⟨0, Nat.zero_le _, rfl, by rw [anyTo_zero]⟩
      case round =>
        obtain ⟨p, hpl, rfl, rfl⟩ := hrel
        by_cases hps : p < set.size
        · have ha := hset p hps
          have hnx : ∀ ty, (Instr.next (.pointer (some ⟨wo.heap.size, 0, none⟩)) true ty).run Tryz.prog (wo.iter set p) = _ := fun ty => run_next_ascii wo set p ty hps ha
          have hst := Lib.hid (anyTo_succ set p c hps)
          go_wp2
          all_goals go_roundw
          case rel => exact ⟨p + 1, by omega, rfl, by rw [hst.out]; simp [*]⟩
          case measure => simp; omega
          case rel => exact ⟨p + 1, by omega, rfl, by rw [hst.out]; simp [*]⟩
          case measure => simp; omega
        · have hnx : ∀ ty, (Instr.next (.pointer (some ⟨wo.heap.size, 0, none⟩)) true ty).run Tryz.prog (wo.iter set p) = _ := fun ty => run_next_end wo set p ty hps
          obtain rfl : p = set.size := by omega
          have hb3 : Below w.heap.size w (wo.iter set set.size) := hbw2.alloc (Nat.le_of_lt hsz2) _
          have hit3 : (wo.iter set set.size).heap[w.heap.size]? = some (.stringIter s (pos + (Utf8.decode s pos).2)) := (Lib.alloc_old wo _ w.heap.size hsz2).trans hit2
          have hall := Lib.hid (anyTo_all set (c : Int))
          have hin' := Lib.hid hin
          clear hin hbw2 hit2 hsz2
          have hend := fun h0 => cutSet_at hin'.out hp h0
          have hstep := fun h0 => inTo_step hin'.out hp h0
          cases hb : anyTo set set.size (c : Int) with
          | false =>
            have hc : set.data.toList.contains (s[pos]'hp) = false := by rw [← hany.out, ← hall.out]; exact hb
            have he := Lib.hid (hend hc)
            clear hend hstep
            go_wp2
            go_ret
            exact ⟨by rw [he.out]; rfl, hb3⟩
          | true =>
            have hc : set.data.toList.contains (s[pos]'hp) = true := by rw [← hany.out, ← hall.out]; exact hb
            have hw1 := hwid.out hc
            rw [hw1] at hit3
            have hs1 := hstep hc
            have hR : Hid (CutRel s set w (wo.iter set set.size)) := Lib.hid ⟨pos + 1, hit3, hb3, hs1⟩
            have hM : Hid (s.size - (wo.iter set set.size).iterPos w.heap.size < s.size - wr.iterPos w.heap.size) := Lib.hid (by
              have e1 : (wo.iter set set.size).iterPos w.heap.size = pos + 1 := by unfold World.iterPos; rw [hit3]
              rw [e1, hpos.out]; omega)
            clear hend hstep hw1 hit3 hb3 hs1 hc
            go_wp2
            exact ⟨hR.out, hM.out⟩
    · have hnx : ∀ ty, (Instr.next (.pointer (some ⟨w.heap.size, 0, none⟩)) true ty).run Tryz.prog wr = _ := fun ty => Lib.run_next_end_at wr w.heap.size s pos ty hit hp
      have he := Lib.hid (cutSet_end hin hp)
      go_wp2
      go_ret
      exact ⟨by rw [he.out]; rfl, hbw⟩

end Go.Proofs.YtcgdncpioafbdaaGreatDoor.Q
