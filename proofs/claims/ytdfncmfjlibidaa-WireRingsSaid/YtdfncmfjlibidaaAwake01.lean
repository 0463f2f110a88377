/- awake of rostrumlaw01 answers true, and leaves what was there as it was. -/
import Derived.Test.YtdfncmfjlibidaaReader
namespace Go.Proofs.Ytdfncmfjlibidaa
set_option linter.unusedVariables false
open Go.ChangeShapes Go.WideShapes Go.ChangeAt Go.RowKit

theorem before16_const (w : World) : Calls Try.prog 9 #[.int .u16 65535, .int .u16 0] w fun e w' => e = .returned (.bool true) ∧ w = w' := by
  go_enter Try.func9, Try.ntmps9
  go_wp2
  go_ret
  exact ⟨rfl, rfl⟩

theorem awake_calls (w : World) : Calls Try.prog 8 #[] w fun e w' => e = .returned (.bool true) ∧ Fr [] w w' := by
  go_enter Try.func8, Try.ntmps8
  go_wp2_with fail
  have hn : Own (w.alloc (.cells #[.int .u8 1, .int .u8 2] 5)) 5 1 (.slice (some ⟨w.heap.size, 0, none⟩) 2 2) 2 (bc [1, 2]) := Own.new w _ 1 2 _ rfl (by simp [Value.oneCell']) (by simp [maxLen])
  have hf0 : Fr [] w (w.alloc (.cells #[.int .u8 1, .int .u8 2] 5)) := (Fr.refl _ _).alloc _
  refine (newReader_calls _ [1, 2] _ hn.rd (by simp)).mono ?_
  rintro e w1 ⟨r, O, rfl, hR, hF, hr, hO⟩
  have hF1 := hf0.trans (T := []) hF (by simp)
  have hr1 : w.heap.size ≤ r := by have := hf0.size; omega
  have hO1 : ∀ k ∈ O, w.heap.size ≤ k := fun k hk => by have := hO k hk; have := hf0.size; omega
  have H1 := Lib.hid hR
  have H2 := Lib.hid hF1
  have H3 := Lib.hid hO1
  clear hR hF hO hF1 hO1 hn hf0 hr
  go_wp2_with fail
  refine (before16_const _).mono ?_
  rintro e w2 ⟨rfl, rfl⟩
  go_wp2_with fail
  refine (u16_ok r O [1, 2] _ H1.out (by simp)).mono ?_
  rintro e w2 ⟨rfl, hL, hF⟩
  have H4 := Lib.hid hL
  have H5 := Lib.hid hF
  clear hL hF H1
  obtain ⟨v, hB, hO, hv, hr⟩ := H4.out
  obtain ⟨s, c, rfl, -⟩ := hO.shape
  have e2 : (num32 (List.take 2 ([1, 2] : List UInt8))).toNat = 258 := by decide
  simp only [e2]
  have H6 := Lib.hid hB
  clear hO hv hr hB e2
  go_wp2_with fail
  refine (left_calls _ _ _ _ _ _ H6.out).mono ?_
  rintro e w3 ⟨rfl, rfl⟩
  go_wp2_with fail
  refine (bad_calls _ _ _ _ H6.out).mono ?_
  rintro e w3 ⟨rfl, rfl⟩
  go_wp2_with fail
  go_ret
  exact ⟨rfl, H2.out.trans H5.out (by simp; omega)⟩
end Go.Proofs.Ytdfncmfjlibidaa
