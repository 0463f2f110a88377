/- Bytes in memory: lists of bytes as cells; a slice of bytes as a string. No program is named. -/
import Derived.Test.YtomplpdeeomehaaLib
import Derived.Laws.BytesArg
namespace Go.Proofs.Ytomplpdeeomehaa
set_option linter.unusedVariables false
set_option linter.unusedSimpArgs false
open Go.RowKit

/-- Bytes as cells. -/
def bc (l : List UInt8) : List Value := l.map fun b => .int .u8 (b.toNat : Int)
@[simp] theorem bc_length (l : List UInt8) : (bc l).length = l.length := by simp [bc]
@[simp] theorem bc_append (l r : List UInt8) : bc (l ++ r) = bc l ++ bc r := by simp [bc]
theorem bc_one (l : List UInt8) : ∀ u ∈ bc l, u.oneCell' = true := by simp [bc, Value.oneCell']
theorem bc_take (l : List UInt8) (k : Nat) : bc (l.take k) = (bc l).take k := by simp [bc]
theorem bc_drop (l : List UInt8) (k : Nat) : bc (l.drop k) = (bc l).drop k := by simp [bc]
theorem bc_get (l : List UInt8) (k : Nat) (h : k < l.length) : (bc l)[k]? = some (.int .u8 (l[k].toNat : Int)) := by simp [bc, h]

/-- an integer's last byte -/
def b8 (n : Int) : UInt8 := UInt8.ofNat (n % 256).toNat
theorem b8_val (n : Int) : ((b8 n).toNat : Int) = n % 256 := by
  unfold b8
  have h1 : 0 ≤ n % 256 := by omega
  have h2 : n % 256 < 256 := by omega
  have h3 : (n % 256).toNat < 256 := by omega
  rw [UInt8.toNat_ofNat_of_lt' (by simpa using h3)]
  omega
/-- two bytes of an integer -/
def two (n : Int) : List UInt8 := [b8 (n / 256), b8 n]
def four (n : Int) : List UInt8 := [b8 (n / 16777216), b8 (n / 65536), b8 (n / 256), b8 n]
theorem bc_two (n : Int) : bc (two n) = [.int .u8 (n / 256 % 256), .int .u8 (n % 256)] := by simp only [bc, two, List.map_cons, List.map_nil, b8_val]
theorem bc_four (n : Int) : bc (four n) = [.int .u8 (n / 16777216 % 256), .int .u8 (n / 65536 % 256), .int .u8 (n / 256 % 256), .int .u8 (n % 256)] := by simp only [bc, four, List.map_cons, List.map_nil, b8_val]
@[simp] theorem two_length (n : Int) : (two n).length = 2 := rfl
@[simp] theorem four_length (n : Int) : (four n).length = 4 := rfl

/-- The string of bytes. -/
def strOf (bs : List UInt8) : ByteArray := ⟨bs.toArray⟩
theorem strOf_inj {a b : List UInt8} : strOf a = strOf b ↔ a = b := by
  constructor
  · intro h
    have := congrArg (fun s : ByteArray => s.data.toList) h
    simpa [strOf] using this
  · rintro rfl; rfl
theorem run_string {P : Program} {w : World} {src dst e : TypeId} (hs : P.underlying src = some (.slice e)) (he : P.underlying e = some (.int .u8)) (hd : P.underlying dst = some .string) {v : Value} {bs : List UInt8}
    (h : Rd w 1 v bs.length (bc bs)) : (convert src dst v).run P w = .ok (.string (strOf bs)) w := by
  obtain ⟨a, cap, rfl, h1, h2, h3, h4⟩ := h.val
  cases a with
  | none =>
    have h0 := (h3 rfl).1
    obtain rfl : bs = [] := List.eq_nil_of_length_eq_zero h0
    exact run_convert_bytes_nil w src e hs he _ _ dst hd
  | some b =>
    have hl : (loadCells b bs.length).run P w = .ok (bc bs).toArray w := by
      have := run_loadCells_list (P := P) w b (bc bs) (h4 b rfl)
      simpa using this
    have e1 : bc bs = (bs.map fun x => (x.toNat : Int)).map (Value.int .u8) := by simp [bc]
    rw [e1] at hl
    rw [run_convert_bytes_string w src dst e _ _ cap hs he hd, run_bytesToString w b _ cap _ hl, foldl_push_bytes]
    congr 1
    have hid : ∀ x : UInt8, UInt8.ofNat ((x.toNat : Int).toNat) = x := fun x => by simp
    have hm : (bs.map fun x => (x.toNat : Int)).map (fun n => UInt8.ofNat n.toNat) = bs := by
      rw [List.map_map]
      exact (List.map_congr_left (fun x _ => hid x)).trans (List.map_id bs)
    rw [hm]
    simp [strOf, ByteArray.empty, ByteArray.emptyWithCapacity]
    rfl
end Go.Proofs.Ytomplpdeeomehaa
