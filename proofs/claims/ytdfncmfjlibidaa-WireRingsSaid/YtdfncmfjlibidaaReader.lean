/- Contracts of bytes.Clone and of the reader's methods. -/
import Derived.Test.YtdfncmfjlibidaaChecked
import Derived.Test.YtdfncmfjlibidaaLib
import Derived.WalkLawsBesides
import Derived.WalkSpells
import Derived.Handy
import Derived.Deep.QuietTactic
import Derived.BigQuiet
namespace Go.Proofs.Ytdfncmfjlibidaa
set_option linter.unusedVariables false
open Go.ChangeShapes Go.WideShapes Go.ChangeAt Go.RowKit

theorem eltB : Elt Try.prog 57 5 1 1 (.int .u8 0) := ⟨Try.underlying57, by kernel_rfl, rfl, by decide, by simp [Value.cells, Value.oneCell']⟩

/-- Bytes as cells. -/
def bc (l : List UInt8) : List Value := l.map fun b => .int .u8 (b.toNat : Int)
@[simp] theorem bc_length (l : List UInt8) : (bc l).length = l.length := by simp [bc]
@[simp] theorem bc_append (l r : List UInt8) : bc (l ++ r) = bc l ++ bc r := by simp [bc]
theorem bc_one (l : List UInt8) : ∀ u ∈ bc l, u.oneCell' = true := by simp [bc, Value.oneCell']

theorem nilB (w : World) (a : Option Addr) (n c n' c' : Nat) : (binOp .eql 57 (.slice a n c) (.slice none n' c')).run Try.prog w = .ok (.bool a.isNone) w :=
  Lib.run_eql_slice_nil w _ _ a n c n' c' Try.underlying57
attribute [local go_sem] nilB

/-- bytes.Clone -/
theorem clone_calls (v : Value) (n : Nat) (cs : List Value) (w : World) (h : Rd w 1 v n cs) (hn : n ≤ 140737488355328) :
    Calls Try.prog 54 #[v] w fun e w' => ∃ v', e = .returned v' ∧ Own w' 5 1 v' n cs ∧ Fr [] w w' ∧ (∀ k ∈ own v', w.heap.size ≤ k) ∧ (v' = .slice none 0 0 ↔ ∃ c, v = .slice none 0 c) := by
  obtain ⟨a, cap, hv, h1, h2, h3, h4⟩ := h.val
  cases a with
  | none =>
    obtain ⟨rfl, rfl⟩ := h3 rfl
    subst hv
    obtain rfl : cs = [] := List.eq_nil_of_length_eq_zero (by simpa using h.len)
    clear h h3 h4
    go_enter Try.func54, Try.ntmps54
    go_wp2
    go_ret
    exact ⟨_, rfl, Own.nil _ _ _, Fr.refl _ _, by simp [own], by simp⟩
  | some b =>
    subst hv
    have H := Lib.hid h
    clear h h3 h4
    go_enter Try.func54, Try.ntmps54
    go_wp2_with (at_builtin; refine wpList_app rfl _ _ 57 57 rfl eltB (Own.new w 5 1 0 #[] rfl (by simp) (by simp [maxLen])) rfl ((H.out.kept ((Fr.refl [] w).alloc _) (by simp)).src Try.underlying57) (by omega) (by omega) ?_; intro v' w' ho hf hw hnil)
    go_ret
    refine ⟨_, rfl, by simpa using ho, ?_, ?_, ?_⟩
    · exact ((Fr.refl [] w).alloc _).trans hf (by simp [own]; omega)
    · intro k hk
      have := hw k hk
      simp [own] at this
      omega
    · simp [hnil]

theorem bad_calls (b : Nat) (v : Value) (bad : Bool) (w : World) (h : Blk w b #[v, .bool bad] 99) :
    Calls Try.prog 35 #[.pointer (some ⟨b, 0, none⟩)] w fun e w' => e = .returned (.bool bad) ∧ w = w' := by
  have c1 : w.cell? ⟨b, 1, none⟩ = some (.bool bad) := h.cell 1
  clear h
  go_enter Try.func35, Try.ntmps35
  go_wp2
  go_ret
  exact ⟨rfl, rfl⟩

theorem left_calls (b : Nat) (s : Option Addr) (l c : Nat) (bad : Bool) (w : World) (h : Blk w b #[.slice s l c, .bool bad] 99) :
    Calls Try.prog 36 #[.pointer (some ⟨b, 0, none⟩)] w fun e w' => e = .returned (.int .i64 l) ∧ w = w' := by
  have c1 : w.cell? ⟨b, 0, none⟩ = some (.slice s l c) := h.cell 0
  clear h
  go_enter Try.func36, Try.ntmps36
  go_wp2
  go_ret
  exact ⟨rfl, rfl⟩

theorem cut_ok (r : Nat) (v : Value) (bs : List UInt8) (k : Int) (w : World) (hB : Blk w r #[v, .bool false] 99) (hO : Own w 5 1 v bs.length (bc bs)) (hr : r ∉ own v) (h0 : 0 ≤ k) (hk : k ≤ bs.length) :
    Calls Try.prog 55 #[.pointer (some ⟨r, 0, none⟩), .int .i64 k] w fun e w' => ∃ v1 v2, e = .returned v1 ∧ Blk w' r #[v2, .bool false] 99 ∧ Own w' 5 1 v2 (bs.length - k.toNat) (bc (bs.drop k.toNat)) ∧ Rd w' 1 v1 k.toNat (bc (bs.take k.toNat)) ∧ Fr [r] w w' ∧ own v2 = own v ∧ own v1 = own v := by
  obtain ⟨k, rfl⟩ := Int.eq_ofNat_of_zero_le h0
  simp only [Int.toNat_natCast]
  have hk : k ≤ bs.length := by omega
  obtain ⟨a, c, hv, hnc, hcm⟩ := hO.shape
  have core : Calls Try.prog 55 #[.pointer (some ⟨r, 0, none⟩), .int .i64 k] w fun e w' => e = .returned (takeV v k) ∧ w' = w.setCell ⟨r, 0, none⟩ (dropV v k 1) := by
    have c0 : w.cell? ⟨r, 0, none⟩ = some v := hB.cell 0
    have f0 := hB.frozen 0
    generalize hL : bs.length = L at *
    have hsm : c ≤ 9223372036854775807 := by simp only [maxLen] at hcm; omega
    clear hcm hr h0 hL
    cases a with
    | none =>
      rcases hO.val with ⟨hv', hL0⟩ | ⟨g, off, cap, arr, hv', _⟩
      · subst hv
        cases hv'
        clear hL0
        obtain rfl : k = 0 := by omega
        clear hO
        go_enter Try.func55, Try.ntmps55
        go_wp2_with (go_at_call 35; refine (bad_calls _ _ _ _ hB).mono ?_; rintro e w' ⟨rfl, rfl⟩)
        go_ret
        exact ⟨rfl, rfl⟩
      · subst hv
        cases hv'
    | some s =>
      subst hv
      clear hO
      go_enter Try.func55, Try.ntmps55
      go_wp2_with (go_at_call 35; refine (bad_calls _ _ _ _ hB).mono ?_; rintro e w' ⟨rfl, rfl⟩)
      all_goals
        go_ret
        simp [dropV, takeV, *]
  refine core.mono ?_
  rintro e w' ⟨rfl, rfl⟩
  have hf : Fr [r] w (w.setCell ⟨r, 0, none⟩ (dropV v k 1)) := (Fr.refl _ _).set (by simp) _
  refine ⟨_, _, rfl, by simpa using hB.set 0 (dropV v k 1), ?_, ?_, hf, own_dropV hO k, own_takeV hO k⟩
  · have := (hO.drop (k := k) (by omega)).kept hf (by rw [own_dropV hO]; intro x hx e; simp at e; subst e; exact hr hx)
    simpa [bc] using this
  · have := (hO.take (k := k) (by omega)).rd.kept hf (by rw [own_takeV hO]; intro x hx e; simp at e; subst e; exact hr hx)
    simpa [bc] using this

theorem cut_bad (r : Nat) (v : Value) (bad : Bool) (n : Nat) (cs : List Value) (k : Int) (w : World) (hB : Blk w r #[v, .bool bad] 99) (hO : Rd w 1 v n cs) (hk : bad = true ∨ k < 0 ∨ n < k) :
    Calls Try.prog 55 #[.pointer (some ⟨r, 0, none⟩), .int .i64 k] w fun e w' => e = .returned (.slice none 0 0) ∧ Blk w' r #[v, .bool true] 99 ∧ Fr [r] w w' := by
  have hf : Fr [r] w (w.setCell ⟨r, 1, none⟩ (.bool true)) := (Fr.refl _ _).set (by simp) _
  have hb : Blk (w.setCell ⟨r, 1, none⟩ (.bool true)) r #[v, .bool true] 99 := by simpa using hB.set 1 (.bool true)
  obtain ⟨a, c, hv, hnc, hcm⟩ := hO.shape
  subst hv
  have c0 : w.cell? ⟨r, 0, none⟩ = some (.slice a n c) := hB.cell 0
  have c1 : w.cell? ⟨r, 1, none⟩ = some (.bool bad) := hB.cell 1
  have f1 := hB.frozen 1
  clear hO hcm hnc
  have HF := Lib.hid (And.intro hb hf)
  clear hb hf
  rcases Bool.eq_false_or_eq_true bad with hbad | hbad
  · subst hbad
    clear hk
    go_enter Try.func55, Try.ntmps55
    go_wp2_with (go_at_call 35; refine (bad_calls _ _ _ _ hB).mono ?_; rintro e w' ⟨rfl, rfl⟩)
    go_ret
    exact ⟨rfl, HF.out⟩
  · subst hbad
    by_cases h0 : k < 0
    · clear hk
      go_enter Try.func55, Try.ntmps55
      go_wp2_with (go_at_call 35; refine (bad_calls _ _ _ _ hB).mono ?_; rintro e w' ⟨rfl, rfl⟩)
      go_ret
      exact ⟨rfl, HF.out⟩
    · have hk' : (n : Int) < k := by simp at hk; omega
      clear hk
      go_enter Try.func55, Try.ntmps55
      go_wp2_with (go_at_call 35; refine (bad_calls _ _ _ _ hB).mono ?_; rintro e w' ⟨rfl, rfl⟩)
      go_ret
      exact ⟨rfl, HF.out⟩

/-- bytes as a number, big-endian, in 32 bits -/
def num32 (l : List UInt8) : UInt32 := l.foldl (fun x c => x <<< 8 ||| c.toUInt32) 0
theorem num_step (x : UInt32) (c : UInt8) : bits .or .u32 ((x.toNat : Int) * 256 % 4294967296) ((c.toNat : Int) % 4294967296) = ((x <<< 8 ||| c.toUInt32).toNat : Int) := by
  have h1 : (x.toNat : Int) * (256 : Int) % (4294967296 : Int) = ((x <<< 8).toNat : Int) := by
    rw [UInt32.toNat_shiftLeft]; simp [Nat.shiftLeft_eq]
  have h2 : ((c.toNat : Int) % 4294967296) = (c.toUInt32.toNat : Int) := by
    have := c.toNat_lt; simp; omega
  rw [h1, h2, u32_or_nat _ _ (UInt32.toNat_lt _) (UInt32.toNat_lt _), UInt32.toNat_or]
theorem num32_snoc (l : List UInt8) (c : UInt8) : num32 (l ++ [c]) = num32 l <<< 8 ||| c.toUInt32 := by simp [num32]

/-- A good reader, in block r, whose bytes bs lie in the blocks O. -/
def RdrAt (w : World) (r : Nat) (O : List Nat) (bad : Bool) (bs : List UInt8) : Prop := ∃ v, Blk w r #[v, .bool bad] 99 ∧ Own w 5 1 v bs.length (bc bs) ∧ own v = O ∧ r ∉ O
def RdLeft (r : Nat) (O : List Nat) (bs : List UInt8) (w w' : World) : Prop := RdrAt w' r O false bs ∧ Fr [r] w w'

set_option maxHeartbeats 400000 in
theorem number_ok (r : Nat) (v : Value) (bs : List UInt8) (k : Int) (w : World) (hB : Blk w r #[v, .bool false] 99) (hO : Own w 5 1 v bs.length (bc bs)) (hr : r ∉ own v) (h0 : 0 ≤ k) (hk : k ≤ bs.length) :
    Calls Try.prog 62 #[.pointer (some ⟨r, 0, none⟩), .int .i64 k] w fun e w' => e = .returned (.int .u32 ((num32 (bs.take k.toNat)).toNat : Int)) ∧ RdLeft r (own v) (bs.drop k.toNat) w w' := by
  go_enter Try.func62, Try.ntmps62
  go_wp2_with fail
  refine (cut_ok r v bs k w hB hO hr h0 hk).mono ?_
  rintro e w1 ⟨v1, v2, rfl, hB1, hO1, hR1, hF1, ho2, ho1⟩
  obtain ⟨a, cap, hv1, h1, h2, h3, h4⟩ := hR1.val
  obtain ⟨k, rfl⟩ := Int.eq_ofNat_of_zero_le h0
  simp only [Int.toNat_natCast] at *
  have hkl : k ≤ bs.length := by omega
  have hsm : cap ≤ 9223372036854775807 := by simp only [maxLen] at h2; omega
  subst hv1
  clear hB hO h0 hk hR1 ho1
  have H7 := Lib.hid hr; clear hr
  have H1 := Lib.hid hB1; have H2 := Lib.hid hO1; have H3 := Lib.hid hF1; have H4 := Lib.hid ho2; have H5 := Lib.hid h3; have H6 := Lib.hid h4
  clear hB1 hO1 hF1 ho2 h3 h4 h2
  go_wp2_with fail
  go_loop [5, 7, 12] (fun x c i => ∃ j : Nat, j ≤ k ∧ i = .int .i64 j ∧ x = .int .u32 ((num32 (bs.take j)).toNat : Int)) (fun _ _ i => k - (intOf i).toNat)
  case atStart => exact ⟨0, Nat.zero_le _, rfl, rfl⟩
  case round =>
    obtain ⟨j, hj, rfl, rfl⟩ := hrel
    by_cases hlt : j < k
    · have hjl : j < bs.length := by omega
      obtain ⟨b, hb⟩ : ∃ b, a = some b := by
        cases a with
        | none => have := H5.out rfl; omega
        | some b => exact ⟨b, rfl⟩
      have hcell : w1.cell? (b.add j) = some (.int .u8 (bs[j].toNat : Int)) := H6.out b hb j _ (by simp [bc, List.getElem?_take, hlt, hjl])
      subst hb
      have HN := Lib.hid (num_step (num32 (bs.take j)) bs[j])
      go_wp2
      refine ⟨⟨j + 1, by omega, by go_num, ?_⟩, by simp [intOf]; omega⟩
      rw [HN.out, List.take_succ_eq_append_getElem hjl, num32_snoc]
    · obtain rfl : j = k := by omega
      go_wp2
      go_ret
      exact ⟨rfl, ⟨_, H1.out, by simpa using H2.out, H4.out, H7.out⟩, H3.out⟩

/-- What NewReader hands back. -/
def NewRdr (bs : List UInt8) (w : World) (e : Ending) (w' : World) : Prop :=
  ∃ r O, e = .returned (.pointer (some ⟨r, 0, none⟩)) ∧ RdrAt w' r O false bs ∧ Fr [] w w' ∧ w.heap.size ≤ r ∧ ∀ k ∈ O, w.heap.size ≤ k

theorem RdrAt.kept {w w' : World} {r : Nat} {O S : List Nat} {bad : Bool} {bs : List UInt8} (h : RdrAt w r O bad bs) (hf : Fr S w w') (hr : r ∉ S) (hO : ∀ k ∈ O, k ∉ S) : RdrAt w' r O bad bs := by
  obtain ⟨v, h1, h2, rfl, h4⟩ := h
  exact ⟨v, hf.blk h1 hr, h2.kept hf hO, rfl, h4⟩

theorem newReader_calls (v : Value) (bs : List UInt8) (w : World) (h : Rd w 1 v bs.length (bc bs)) (hn : bs.length ≤ 140737488355328) :
    Calls Try.prog 29 #[v] w (NewRdr bs w) := by
  go_enter Try.func29, Try.ntmps29
  go_wp2_with fail
  refine (clone_calls v _ _ w h hn).mono ?_
  rintro e w1 ⟨v1, rfl, ho, hf, hk, -⟩
  obtain ⟨a, cap, hv, h1, h2⟩ := ho.shape
  have H := Lib.hid (And.intro ho (And.intro hf hk))
  clear ho hf hk h
  generalize hL : bs.length = L at *
  have HL := Lib.hid hL; clear hL
  subst hv
  go_wp2_with fail
  go_ret
  obtain ⟨ho, hf, hk⟩ := H.out
  obtain rfl := HL.out
  have hn : Fr [] w1 (w1.alloc (.cells #[.slice a bs.length cap, .bool false] 99)) := (Fr.refl _ _).alloc _
  refine ⟨w1.heap.size, own (.slice a bs.length cap), rfl, ⟨_, Blk.new _ _ _, ho.kept hn (by simp), rfl, fun hc => ?_⟩, hf.trans hn (by simp), hf.size, hk⟩
  have := ho.lt _ hc
  omega

theorem number_bad (r : Nat) (O : List Nat) (bs : List UInt8) (bad : Bool) (k : Int) (w : World) (h : RdrAt w r O bad bs) (hk : bad = true ∨ k < 0 ∨ bs.length < k) :
    Calls Try.prog 62 #[.pointer (some ⟨r, 0, none⟩), .int .i64 k] w fun e w' => e = .returned (.int .u32 0) ∧ RdrAt w' r O true bs ∧ Fr [r] w w' := by
  obtain ⟨v, hB, hO, hv, hr⟩ := h
  go_enter Try.func62, Try.ntmps62
  go_wp2_with fail
  refine (cut_bad r v bad bs.length (bc bs) k w hB hO.rd hk).mono ?_
  rintro e w1 ⟨rfl, hB1, hF⟩
  have H := Lib.hid (And.intro (show RdrAt w1 r O true bs from ⟨v, hB1, hO.kept hF (by rw [hv]; intro x hx e; simp at e; subst e; exact hr hx), hv, hr⟩) hF)
  clear hB hO hv hr hk hB1 hF
  go_wp2_with fail
  refine wp_loop_rounds 1 ?_
  rw [rounds_succ]
  go_wp2
  go_ret
  exact ⟨rfl, H.out⟩

/-- U16, U32, U8: enough is there. -/
theorem u16_ok (r : Nat) (O : List Nat) (bs : List UInt8) (w : World) (h : RdrAt w r O false bs) (hk : 2 ≤ bs.length) :
    Calls Try.prog 42 #[.pointer (some ⟨r, 0, none⟩)] w fun e w' => e = .returned (.int .u16 ((num32 (bs.take 2)).toNat % 65536 : Int)) ∧ RdLeft r O (bs.drop 2) w w' := by
  obtain ⟨v, hB, hO, rfl, hr⟩ := h
  go_enter Try.func42, Try.ntmps42
  go_wp2_with fail
  refine (number_ok r v bs 2 w hB hO hr (by omega) (by omega)).mono ?_
  rintro e w1 ⟨rfl, hL⟩
  have H := Lib.hid hL
  clear hB hO hr hL
  go_wp2_with fail
  go_ret
  exact ⟨rfl, H.out⟩
end Go.Proofs.Ytdfncmfjlibidaa
