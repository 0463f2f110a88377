/- WireSerials: the walks. -/
import Derived.Test.YtdfncmfjlibidaaAwake01
namespace Go.Proofs.Ytdfncmfjlibidaa
open Go.ChangeShapes Go.WideShapes Go.ChangeAt Go.RowKit

/-- b is behind a, of numbers below 2M -/
def bef (M a b : Int) : Bool := decide (0 < (b - a) % (2 * M)) && decide ((b - a) % (2 * M) < M)
def far (a b : Int) : Int := if (b - a) % 65536 < 32768 then (b - a) % 65536 else (b - a) % 65536 - 65536
theorem ret_bool {a b : Bool} (h : a = b) : Ending.returned (.bool a) = .returned (.bool b) := by rw [h]
theorem ret_int {k : IntKind} {a b : Int} (h : a = b) : Ending.returned (.int k a) = .returned (.int k b) := by rw [h]

theorem i16_wrap (n : Int) : IntKind.i16.wrap n = (n + 32768) % 65536 - 32768 := by simp [IntKind.wrap, IntKind.bits, IntKind.signed]; omega
theorem i32_wrap (n : Int) : IntKind.i32.wrap n = (n + 2147483648) % 4294967296 - 2147483648 := by simp [IntKind.wrap, IntKind.bits, IntKind.signed]; omega
theorem before16_calls (a b : Int) (w : World) (ha : 0 ≤ a) (ha' : a < 65536) (hb : 0 ≤ b) (hb' : b < 65536) :
    Calls Try.prog 9 #[.int .u16 a, .int .u16 b] w fun e w' => e = .returned (.bool (bef 32768 a b)) ∧ w = w' := by
  go_enter Try.func9, Try.ntmps9
  go_wp2
  go_ret
  refine ⟨ret_bool ?_, rfl⟩
  rw [Bool.eq_iff_iff]
  simp only [bef, i16_wrap, IntKind.wrap_u16, decide_eq_true_eq, Bool.and_eq_true]
  omega
theorem rbefore16_calls (a b : Int) (w : World) (ha : 0 ≤ a) (ha' : a < 65536) (hb : 0 ≤ b) (hb' : b < 65536) :
    Calls Try.prog 10 #[.int .u16 a, .int .u16 b] w fun e w' => e = .returned (.bool (bef 32768 a b)) ∧ w = w' := by
  go_enter Try.func10, Try.ntmps10
  go_wp2
  all_goals
    go_ret
    refine ⟨ret_bool ?_, rfl⟩
    rw [Bool.eq_iff_iff]
    simp only [bef, IntKind.wrap_u16, decide_eq_true_eq, Bool.and_eq_true, bne_iff_ne, reduceCtorEq, false_iff] at *
    omega
theorem far16_calls (a b : Int) (w : World) (ha : 0 ≤ a) (ha' : a < 65536) (hb : 0 ≤ b) (hb' : b < 65536) :
    Calls Try.prog 13 #[.int .u16 a, .int .u16 b] w fun e w' => e = .returned (.int .i64 (far a b)) ∧ w = w' := by
  go_enter Try.func13, Try.ntmps13
  go_wp2
  go_ret
  refine ⟨ret_int ?_, rfl⟩
  simp only [far, wrap64, i16_wrap, IntKind.wrap_u16]
  split <;> omega
theorem rfar16_calls (a b : Int) (w : World) (ha : 0 ≤ a) (ha' : a < 65536) (hb : 0 ≤ b) (hb' : b < 65536) :
    Calls Try.prog 14 #[.int .u16 a, .int .u16 b] w fun e w' => e = .returned (.int .i64 (far a b)) ∧ w = w' := by
  go_enter Try.func14, Try.ntmps14
  go_wp2
  all_goals
    go_ret
    refine ⟨ret_int ?_, rfl⟩
    simp only [far, wrap64, IntKind.wrap_u16] at *
    split <;> omega
theorem before32_calls (a b : Int) (w : World) (ha : 0 ≤ a) (ha' : a < 4294967296) (hb : 0 ≤ b) (hb' : b < 4294967296) :
    Calls Try.prog 11 #[.int .u32 a, .int .u32 b] w fun e w' => e = .returned (.bool (bef 2147483648 a b)) ∧ w = w' := by
  go_enter Try.func11, Try.ntmps11
  go_wp2
  go_ret
  refine ⟨ret_bool ?_, rfl⟩
  rw [Bool.eq_iff_iff]
  simp only [bef, wrap32, i32_wrap, IntKind.wrap_u32, decide_eq_true_eq, Bool.and_eq_true]
  omega
theorem rbefore32_calls (a b : Int) (w : World) (ha : 0 ≤ a) (ha' : a < 4294967296) (hb : 0 ≤ b) (hb' : b < 4294967296) :
    Calls Try.prog 12 #[.int .u32 a, .int .u32 b] w fun e w' => e = .returned (.bool (bef 2147483648 a b)) ∧ w = w' := by
  go_enter Try.func12, Try.ntmps12
  go_wp2
  all_goals
    go_ret
    refine ⟨ret_bool ?_, rfl⟩
    rw [Bool.eq_iff_iff]
    simp only [bef, IntKind.wrap_u32, decide_eq_true_eq, Bool.and_eq_true, bne_iff_ne, reduceCtorEq, false_iff] at *
    omega

theorem ser_back (a b : Int) (ha : 0 ≤ a) (ha' : a < 65536) (hb : 0 ≤ b) (hb' : b < 65536) : IntKind.u16.wrap (a + IntKind.u16.wrap (far a b)) = b := by
  simp only [far, IntKind.wrap_u16]
  split <;> omega
theorem ser_pos (a b : Int) : bef 32768 a b = decide (0 < far a b) := by
  rw [Bool.eq_iff_iff]
  by_cases h : (b - a) % 65536 < 32768 <;> simp [bef, far, h] <;> omega
theorem ser_turn (a b : Int) (ha : 0 ≤ a) (ha' : a < 65536) (hb : 0 ≤ b) (hb' : b < 65536) (h1 : ¬ a = b) (h2 : ¬ IntKind.u16.wrap (b - a) = 32768) (h3 : bef 32768 a b = bef 32768 b a) : False := by
  rw [Bool.eq_iff_iff] at h3
  simp only [bef, IntKind.wrap_u16, decide_eq_true_eq, Bool.and_eq_true] at *
  omega

set_option maxHeartbeats 1000000 in
theorem walk_serials (a b c d : Int) (w : World) (ha : 0 ≤ a) (ha' : a < 65536) (hb : 0 ≤ b) (hb' : b < 65536) (hc : 0 ≤ c) (hc' : c < 4294967296) (hd : 0 ≤ d) (hd' : d < 4294967296) :
    Calls Try.prog 3 #[.int .u16 a, .int .u16 b, .int .u32 c, .int .u32 d] w fun e w' => e = .returned (.bool true) ∧ Fr [] w w' := by
  go_enter Try.func3, Try.ntmps3
  go_wp2_with fail
  refine (awake_calls w).mono ?_
  rintro e w1 ⟨rfl, hF⟩
  have HF := Lib.hid hF; clear hF
  go_wp2_with fail
  refine (before16_calls a b _ ha ha' hb hb').mono ?_
  rintro e w' ⟨rfl, rfl⟩
  go_wp2_with fail
  refine (rbefore16_calls a b _ ha ha' hb hb').mono ?_
  rintro e w' ⟨rfl, rfl⟩
  go_wp2_with fail
  refine (before32_calls c d _ hc hc' hd hd').mono ?_
  rintro e w' ⟨rfl, rfl⟩
  go_wp2_with fail
  refine (rbefore32_calls c d _ hc hc' hd hd').mono ?_
  rintro e w' ⟨rfl, rfl⟩
  go_wp2_with fail
  refine (far16_calls a b _ ha ha' hb hb').mono ?_
  rintro e w' ⟨rfl, rfl⟩
  go_wp2_with fail
  refine (rfar16_calls a b _ ha ha' hb hb').mono ?_
  rintro e w' ⟨rfl, rfl⟩
  go_wp2_with fail
  refine (far16_calls a b _ ha ha' hb hb').mono ?_
  rintro e w' ⟨rfl, rfl⟩
  have hfa : -32768 ≤ far a b ∧ far a b < 32768 := by unfold far; split <;> omega
  go_wp2_with (first | (go_at_call 9; refine (before16_calls _ _ _ (by omega) (by omega) (by omega) (by omega)).mono ?_; rintro e w' ⟨rfl, rfl⟩) | (go_at_call 13; refine (far16_calls _ _ _ (by omega) (by omega) (by omega) (by omega)).mono ?_; rintro e w' ⟨rfl, rfl⟩))
  all_goals
    go_ret
    first
      | (exfalso; have L := ser_back a b ha ha' hb hb'; contradiction)
      | (exfalso; exact ser_turn a b ha ha' hb hb' (by assumption) (by assumption) (by assumption))
      | exact ⟨ret_bool (by simp [← ser_pos, *]), HF.out⟩
end Go.Proofs.Ytdfncmfjlibidaa
