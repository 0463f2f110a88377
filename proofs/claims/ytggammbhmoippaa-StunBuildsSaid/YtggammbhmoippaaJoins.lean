/- Contracts of the reference's Join, Two, Four. -/
import Derived.Test.YtggammbhmoippaaChecked
import Derived.Test.YtggammbhmoippaaBytes
import Derived.WalkLawsBesides
import Derived.WalkSpells
import Derived.Handy
namespace Go.Proofs.Ytggammbhmoippaa.ref01
set_option linter.unusedVariables false
open Go.ChangeShapes Go.WideShapes Go.ChangeAt Go.RowKit

theorem eltB : Elt Try.prog 27 5 1 1 (.int .u8 0) := ⟨Try.underlying27, by kernel_rfl, rfl, by decide, by simp [Value.cells, Value.oneCell']⟩

/-- New bytes: a slice of one's own, in blocks that are new since w. -/
def NewB (w : World) (v : Value) (bs : List UInt8) (w' : World) : Prop := Own w' 5 1 v bs.length (bc bs) ∧ Fr [] w w' ∧ ∀ k ∈ own v, w.heap.size ≤ k

theorem two_calls (n : Int) (w : World) (h0 : 0 ≤ n) (h1 : n < 65536) :
    Calls Try.prog 30 #[.int .i64 n] w fun e w' => ∃ v, e = .returned v ∧ NewB w v (two n) w' := by
  have hnew := Own.new w 5 1 2 (bc (two n)).toArray rfl (by simpa using bc_one (two n)) (by simp [maxLen])
  have H := Lib.hid hnew
  simp only [bc_two] at H
  go_enter Try.func30, Try.ntmps30
  go_wp2_with fail
  go_ret
  refine ⟨_, rfl, ?_, (Fr.refl _ _).alloc _, by simp [own]⟩
  have e : n / 256 % 256 = n / 256 := by omega
  have := H.out
  rw [e] at this
  simpa [two, bc, b8_val, e] using this

theorem four_calls (n : Int) (w : World) (h0 : 0 ≤ n) (h1 : n < 4294967296) :
    Calls Try.prog 31 #[.int .u32 n] w fun e w' => ∃ v, e = .returned v ∧ NewB w v (four n) w' := by
  have hnew := Own.new w 5 1 4 (bc (four n)).toArray rfl (by simpa using bc_one (four n)) (by simp [maxLen])
  have H := Lib.hid hnew
  simp only [bc_four] at H
  go_enter Try.func31, Try.ntmps31
  go_wp2_with fail
  go_ret
  refine ⟨_, rfl, ?_, (Fr.refl _ _).alloc _, by simp [own]⟩
  have e : n / 16777216 % 256 = n / 16777216 := by omega
  have := H.out
  rw [e] at this
  simpa [four, bc, b8_val, e] using this

theorem flat_le (bss : List (List UInt8)) : ∀ j : Nat, (bss.take j).flatten.length ≤ bss.flatten.length := by
  intro j
  have := congrArg (fun l => l.flatten.length) (List.take_append_drop j bss)
  simp only [List.flatten_append, List.length_append] at this
  omega
set_option maxHeartbeats 400000 in
theorem join_calls (v : Value) (ss : List Value) (bss : List (List UInt8)) (w : World) (h : Rd w 1 v ss.length ss) (hl : ss.length = bss.length)
    (hs : ∀ (i : Nat) (s : Value) (b : List UInt8), ss[i]? = some s → bss[i]? = some b → Rd w 1 s b.length (bc b)) (hn : bss.flatten.length ≤ 1000000) (hm : ss.length ≤ 1000000) :
    Calls Try.prog 29 #[v] w fun e w' => ∃ v', e = .returned v' ∧ NewB w v' bss.flatten w' := by
  obtain ⟨a, cap, rfl, q1, q2, q3, q4⟩ := h.val
  have HS := Lib.hid hs; have HN := Lib.hid hn; have HL := Lib.hid hl
  have Q3 := Lib.hid q3; have Q4 := Lib.hid q4
  clear hs hn h q3 q4 hl
  go_enter Try.func29, Try.ntmps29
  go_wp2_with fail
  go_loopw [3, 7] (fun x i wr => ∃ j : Nat, j ≤ ss.length ∧ ∃ acc : List UInt8, i = .int .i64 j ∧ acc = (bss.take j).flatten ∧ NewB w x acc wr) (fun _ i _ => ss.length - (intOf i).toNat)
  case atStart => exact ⟨0, Nat.zero_le _, [], rfl, rfl, Own.nil _ _ _, Fr.refl _ _, by simp [own]⟩
  case round =>
    obtain ⟨j, hj, acc, rfl, hacc, hx⟩ := hrel
    obtain ⟨xa, xc, rfl, x1, x2⟩ := hx.1.shape
    have HA := Lib.hid hacc
    clear hacc
    by_cases hlt : j < ss.length
    · obtain ⟨b, rfl⟩ : ∃ b, a = some b := by
        cases a with
        | none => have := Q3.out rfl; omega
        | some b => exact ⟨b, rfl⟩
      have hjb : j < bss.length := by rw [← HL.out]; exact hlt
      obtain ⟨bj, hbj⟩ : ∃ bj, bss[j] = bj := ⟨_, rfl⟩
      obtain ⟨s0, hs0⟩ : ∃ s0, ss[j] = s0 := ⟨_, rfl⟩
      have hr := HS.out j s0 bj (by simp [hlt, hs0]) (by simp [hjb, hbj])
      obtain ⟨sa, sc, rfl, s1, s2⟩ := hr.shape
      have hcx : wr.cell? (b.add j) = some (.slice sa bj.length sc) := by
        have h1 := Q4.out b rfl j ss[j] (by simp [hlt])
        rw [hx.2.1.cell (World.block_lt_of_cell? w _ h1) (by simp), ← hs0]
        exact h1
      have e : (bss.take (j + 1)).flatten = acc ++ bj := by
        rw [HA.out, ← hbj, List.take_succ_eq_append_getElem hjb, List.flatten_append]; simp
      have hle := flat_le bss (j + 1)
      rw [e, List.length_append] at hle
      have hN := HN.out
      have QA := Lib.hid hx.1
      have QB := Lib.hid ((hr.kept hx.2.1 (by simp)).src (P := Try.prog) Try.underlying27)
      have QC := Lib.hid (show acc.length + bj.length ≤ maxLen by simp only [maxLen]; omega)
      have QD := Lib.hid (show (acc.length + bj.length) * 1 ≤ 140737488355328 by omega)
      have QE := Lib.hid e
      have QX := Lib.hid hx.2
      have hji : (j : Int) < ss.length := by omega
      clear hx hr e hle hN hs0 hbj x1 x2 s1 s2
      go_wp2_with (at_builtin; refine wpList_app rfl _ _ 27 27 rfl eltB QA.out rfl QB.out QC.out QD.out ?_)
      intro v' w1 ho hf hw _
      have N := Lib.hid (show NewB w v' (acc ++ bj) w1 from ⟨by simpa using ho, QX.out.1.trans hf (fun x hx h => by
          rcases h with h | h
          · cases h
          · have := QX.out.2 x h; omega), fun k hk => by
          rcases hw k hk with h | h
          · exact QX.out.2 k h
          · exact Nat.le_trans QX.out.1.size h⟩)
      clear ho hf hw hcx
      go_wp2_with fail
      exact ⟨⟨j + 1, by omega, _, by simp, QE.out.symm, N.out⟩, by simp [intOf]; omega⟩
    · obtain rfl : j = ss.length := by omega
      have N := Lib.hid hx
      clear hx
      go_wp2_with fail
      go_ret
      have := HA.out
      rw [List.take_of_length_le (by rw [HL.out]; exact Nat.le_refl _)] at this
      subst this
      exact ⟨_, rfl, N.out⟩
end Go.Proofs.Ytggammbhmoippaa.ref01
