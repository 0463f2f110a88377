/- stun.Message.good. -/
import Derived.Test.YtggammbhmoippaaStunMem
namespace Go.Proofs.Ytggammbhmoippaa
set_option linter.unusedVariables false
open Go.ChangeShapes Go.WideShapes Go.ChangeAt Go.RowKit

theorem all_take_succ {α : Type} (p : α → Bool) (l : List α) (j : Nat) (h : j < l.length) : (l.take (j + 1)).all p = ((l.take j).all p && p l[j]) := by
  rw [List.take_succ_eq_append_getElem h]; simp only [List.all_append, List.all_cons, List.all_nil, Bool.and_true]

attribute [local go_sem] msgC_0 msgC_1 msgC_14 msgC_size
set_option maxHeartbeats 800000 in
theorem good_calls (c m : Int) (f : Nat → UInt8) (s : Value) (xs : List (Int × List UInt8)) (w : World) (h : AttrsAt w s xs) :
    Calls Try.prog 32 #[.agg (msgC c m f s)] w fun e w' => e = .returned (.bool (SMsg.good ⟨c, m, idL f, xs⟩)) ∧ Fr [] w w' := by
  obtain ⟨a, cap, rfl, q1, q2, q3⟩ := h.shape
  have hsm : cap ≤ 9223372036854775807 := by simp only [maxLen] at q2; omega
  have H := Lib.hid h; have Q3 := Lib.hid q3
  clear h q3
  go_enter Try.func32, Try.ntmps32
  go_wp2_with fail
  have hB := Blk.new w (msgC c m f (.slice a xs.length cap)) 34
  have hF : Fr [] w (w.alloc (.cells (msgC c m f (.slice a xs.length cap)) 34)) := (Fr.refl _ _).alloc _
  have S := Lib.hid (And.intro hB hF)
  clear hB hF
  go_loopw [8] (fun i wr => ∃ j : Nat, j ≤ xs.length ∧ i = .int .i64 j ∧ (xs.take j).all (fun a => decide (a.2.length ≤ 512)) = true ∧ Blk wr w.heap.size (msgC c m f (.slice a xs.length cap)) 34 ∧ Fr [] w wr) (fun i _ => xs.length - (intOf i).toNat)
  case atStart => exact ⟨0, Nat.zero_le _, rfl, rfl, S.out⟩
  case round =>
    obtain ⟨j, hj, rfl, hall, hB, hF⟩ := hrel
    by_cases hlt : j < xs.length
    · obtain ⟨b, rfl⟩ : ∃ b, a = some b := by
        cases a with
        | none => have := Q3.out rfl; omega
        | some b => exact ⟨b, rfl⟩
      obtain ⟨x, hx⟩ : ∃ x, xs[j] = x := ⟨_, rfl⟩
      obtain ⟨sa, sc, g0, g1, -, g3, g4⟩ := (H.out.fr hF).get j x (by simp [hlt, hx])
      have hall' := all_take_succ (fun a : Int × List UInt8 => decide (a.2.length ≤ 512)) xs j hlt
      rw [hall, Bool.true_and, hx] at hall'
      have Z1 := Lib.hid hall'; have Z2 := Lib.hid hB; have Z3 := Lib.hid hF; have Z4 := Lib.hid hx
      clear hall' hall hB hF hx
      have hji : (j : Int) < xs.length := by omega
      by_cases hle : x.2.length ≤ 512
      · have hle' : (x.2.length : Int) ≤ 512 := by omega
        go_wp2_with fail
        refine ⟨⟨j + 1, by omega, by simp, by rw [Z1.out]; simpa using hle, Z2.out.alloc' _, Z3.out.alloc _⟩, by simp [intOf]; omega⟩
      · have hle' : (512 : Int) < (x.2.length : Int) := by omega
        go_wp2_with fail
        go_ret
        refine ⟨?_, Z3.out.alloc _⟩
        have hm : x ∈ xs := by rw [← Z4.out]; exact List.getElem_mem _
        have : xs.all (fun a => decide (a.2.length ≤ 512)) = false := by
          rw [List.all_eq_false]
          exact ⟨x, hm, by simpa using hle⟩
        simp only [SMsg.good, this, Bool.and_false]
        rfl
    · obtain rfl : j = xs.length := by omega
      have Z1 := Lib.hid hall; have Z2 := Lib.hid hF
      have c0 := hB.cell 0
      have c1 := hB.cell 1
      have c14 := hB.cell 14
      rw [msgC_0] at c0; rw [msgC_1] at c1; rw [msgC_14] at c14
      clear hall hF hB
      go_wp2_with fail
      all_goals
        go_ret
        refine ⟨?_, Z2.out⟩
        have hA := Z1.out
        rw [List.take_length] at hA
        show Ending.returned (Value.bool _) = Ending.returned (Value.bool _)
        congr 2
        simp only [SMsg.good, hA, Bool.and_true]
        simp_all <;> omega
end Go.Proofs.Ytggammbhmoippaa
