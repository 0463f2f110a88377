/- STUN messages in memory. -/
import Derived.Test.YtggammbhmoippaaJoins
import Derived.Test.YtggammbhmoippaaStunPure
import Derived.Test.YtggammbhmoippaaWriter
namespace Go.Proofs.Ytggammbhmoippaa
set_option linter.unusedVariables false
open Go.ChangeShapes Go.WideShapes Go.ChangeAt Go.RowKit

/-- the cells of a row of attributes -/
def attrCells : List (Int × List UInt8) → List Value → List Value
  | a :: al, s :: ss => .int .u16 a.1 :: s :: attrCells al ss
  | _, _ => []
theorem attrCells_length : ∀ (al : List (Int × List UInt8)) (ss : List Value), ss.length = al.length → (attrCells al ss).length = al.length * 2
  | [], [], _ => rfl
  | _ :: al, _ :: ss, h => by simp [attrCells, attrCells_length al ss (by simpa using h)]; omega
theorem attrCells_get : ∀ (al : List (Int × List UInt8)) (ss : List Value) (i : Nat) (a : Int × List UInt8) (s : Value), al[i]? = some a → ss[i]? = some s → (attrCells al ss)[i * 2]? = some (.int .u16 a.1) ∧ (attrCells al ss)[i * 2 + 1]? = some s
  | [], _, i, a, s, h, _ => by simp at h
  | _ :: _, [], i, a, s, _, h => by simp at h
  | x :: al, y :: ss, 0, a, s, h1, h2 => by simp at h1 h2; subst h1 h2; simp [attrCells]
  | x :: al, y :: ss, i + 1, a, s, h1, h2 => by
    have := attrCells_get al ss i a s (by simpa using h1) (by simpa using h2)
    rw [show (i + 1) * 2 = i * 2 + 2 by omega]
    simpa [attrCells] using this
theorem attrCells_append : ∀ (al : List (Int × List UInt8)) (ss : List Value) (bs : List (Int × List UInt8)) (ts : List Value), ss.length = al.length → attrCells (al ++ bs) (ss ++ ts) = attrCells al ss ++ attrCells bs ts
  | [], [], _, _, _ => rfl
  | x :: al, y :: ss, bs, ts, h => by simp [attrCells, attrCells_append al ss bs ts (by simpa using h)]

/-- A row of attributes that can be read. -/
def AttrsAt (w : World) (v : Value) (al : List (Int × List UInt8)) : Prop :=
  ∃ ss : List Value, ss.length = al.length ∧ Rd w 2 v al.length (attrCells al ss) ∧ ∀ (i : Nat) (a : Int × List UInt8) (s : Value), al[i]? = some a → ss[i]? = some s → Rd w 1 s a.2.length (bc a.2)
theorem AttrsAt.fr {w w' : World} {v : Value} {al : List (Int × List UInt8)} (h : AttrsAt w v al) (hf : Fr [] w w') : AttrsAt w' v al := by
  obtain ⟨ss, h1, h2, h3⟩ := h
  exact ⟨ss, h1, h2.kept hf (by simp), fun i a s ha hs => (h3 i a s ha hs).kept hf (by simp)⟩
/-- The attribute at place i: its cells, and its bytes. -/
theorem AttrsAt.get {w : World} {b : Addr} {n cap : Nat} {al : List (Int × List UInt8)} (h : AttrsAt w (.slice (some b) n cap) al) (i : Nat) (a : Int × List UInt8) (ha : al[i]? = some a) :
    ∃ sa sc, w.cell? (b.add (i * 2)) = some (.int .u16 a.1) ∧ w.cell? ⟨(b.add (i * 2)).block, (b.add (i * 2)).off + 1, none⟩ = some (.slice sa a.2.length sc) ∧ Rd w 1 (.slice sa a.2.length sc) a.2.length (bc a.2) ∧ a.2.length ≤ sc ∧ sc ≤ maxLen := by
  obtain ⟨ss, h1, h2, h3⟩ := h
  obtain ⟨b', c', hv, _, _, _, h4⟩ := h2.val
  cases hv
  have hi : i < ss.length := by rw [h1]; exact (List.getElem?_eq_some_iff.1 ha).1
  have hs : ss[i]? = some ss[i] := by simp [hi]
  have hr := h3 i a _ ha hs
  obtain ⟨sa, sc, hsv, r1, r2⟩ := hr.shape
  obtain ⟨g1, g2⟩ := attrCells_get al ss i a _ ha hs
  rw [hsv] at hr g2
  have e : b.add (i * 2 + 1) = ⟨(b.add (i * 2)).block, (b.add (i * 2)).off + 1, none⟩ := by
    rw [← add_add b (i * 2) 1]; simp [Addr.add]
  exact ⟨sa, sc, h4 b rfl _ _ g1, by rw [← e]; exact h4 b rfl _ _ g2, hr, r1, r2⟩
theorem AttrsAt.shape {w : World} {v : Value} {al : List (Int × List UInt8)} (h : AttrsAt w v al) : ∃ a cap, v = .slice a al.length cap ∧ al.length ≤ cap ∧ cap ≤ maxLen ∧ (a = none → al.length = 0) := by
  obtain ⟨ss, h1, h2, h3⟩ := h
  obtain ⟨a, c, rfl, q1, q2, q3, _⟩ := h2.val
  exact ⟨a, c, rfl, q1, q2, fun h => (q3 h).1⟩

/-- the twelve bytes of an id -/
def idL (f : Nat → UInt8) : List UInt8 := [f 0, f 1, f 2, f 3, f 4, f 5, f 6, f 7, f 8, f 9, f 10, f 11]
@[simp] theorem idL_length (f : Nat → UInt8) : (idL f).length = 12 := rfl
/-- a message's cells -/
def msgC (c m : Int) (f : Nat → UInt8) (s : Value) : Array Value :=
  #[.int .i64 c, .int .i64 m, .int .u8 ((f 0).toNat : Int), .int .u8 ((f 1).toNat : Int), .int .u8 ((f 2).toNat : Int), .int .u8 ((f 3).toNat : Int), .int .u8 ((f 4).toNat : Int), .int .u8 ((f 5).toNat : Int), .int .u8 ((f 6).toNat : Int), .int .u8 ((f 7).toNat : Int), .int .u8 ((f 8).toNat : Int), .int .u8 ((f 9).toNat : Int), .int .u8 ((f 10).toNat : Int), .int .u8 ((f 11).toNat : Int), s]
theorem msgC_0 (c m : Int) (f : Nat → UInt8) (s : Value) : (msgC c m f s)[0]? = some (.int .i64 c) := rfl
theorem msgC_1 (c m : Int) (f : Nat → UInt8) (s : Value) : (msgC c m f s)[1]? = some (.int .i64 m) := rfl
theorem msgC_2 (c m : Int) (f : Nat → UInt8) (s : Value) : (msgC c m f s)[2]? = some (.int .u8 ((f 0).toNat : Int)) := rfl
theorem msgC_3 (c m : Int) (f : Nat → UInt8) (s : Value) : (msgC c m f s)[3]? = some (.int .u8 ((f 1).toNat : Int)) := rfl
theorem msgC_4 (c m : Int) (f : Nat → UInt8) (s : Value) : (msgC c m f s)[4]? = some (.int .u8 ((f 2).toNat : Int)) := rfl
theorem msgC_5 (c m : Int) (f : Nat → UInt8) (s : Value) : (msgC c m f s)[5]? = some (.int .u8 ((f 3).toNat : Int)) := rfl
theorem msgC_6 (c m : Int) (f : Nat → UInt8) (s : Value) : (msgC c m f s)[6]? = some (.int .u8 ((f 4).toNat : Int)) := rfl
theorem msgC_7 (c m : Int) (f : Nat → UInt8) (s : Value) : (msgC c m f s)[7]? = some (.int .u8 ((f 5).toNat : Int)) := rfl
theorem msgC_8 (c m : Int) (f : Nat → UInt8) (s : Value) : (msgC c m f s)[8]? = some (.int .u8 ((f 6).toNat : Int)) := rfl
theorem msgC_9 (c m : Int) (f : Nat → UInt8) (s : Value) : (msgC c m f s)[9]? = some (.int .u8 ((f 7).toNat : Int)) := rfl
theorem msgC_10 (c m : Int) (f : Nat → UInt8) (s : Value) : (msgC c m f s)[10]? = some (.int .u8 ((f 8).toNat : Int)) := rfl
theorem msgC_11 (c m : Int) (f : Nat → UInt8) (s : Value) : (msgC c m f s)[11]? = some (.int .u8 ((f 9).toNat : Int)) := rfl
theorem msgC_12 (c m : Int) (f : Nat → UInt8) (s : Value) : (msgC c m f s)[12]? = some (.int .u8 ((f 10).toNat : Int)) := rfl
theorem msgC_13 (c m : Int) (f : Nat → UInt8) (s : Value) : (msgC c m f s)[13]? = some (.int .u8 ((f 11).toNat : Int)) := rfl
theorem msgC_14 (c m : Int) (f : Nat → UInt8) (s : Value) : (msgC c m f s)[14]? = some s := rfl
theorem msgC_size (c m : Int) (f : Nat → UInt8) (s : Value) : (msgC c m f s).size = 15 := rfl
/-- the id of a message in block b can be read al a slice -/
theorem id_rd {w : World} {b c m : _} {f : Nat → UInt8} {s : Value} {t : TypeId} (h : Blk w b (msgC c m f s) t) : Rd w 1 (.slice (some ⟨b, 2, none⟩) 12 12) 12 (bc (idL f)) := by
  refine ⟨rfl, bc_one _, _, _, rfl, by omega, by simp [maxLen], by simp, ?_⟩
  rintro a ha j u hu
  cases ha
  rw [Addr.add_lit, h.cell]
  have hj : j < 12 := by have := (List.getElem?_eq_some_iff.1 hu).1; simpa using this
  rw [← hu]
  match j, hj with
  | 0, _ | 1, _ | 2, _ | 3, _ | 4, _ | 5, _ | 6, _ | 7, _ | 8, _ | 9, _ | 10, _ | 11, _ => rfl

/-- a cell of a slice of one's own is written -/
theorem Own.setAt {w : World} {e sz g off n cap : Nat} {cs : List Value} (h : Own w e sz (.slice (some ⟨g, off, none⟩) n cap) n cs) (i : Nat) (v : Value) (hi : i < n * sz) (hv : v.oneCell' = true) :
    Own (w.setCell ⟨g, off + i, none⟩ v) e sz (.slice (some ⟨g, off, none⟩) n cap) n (cs.set i v) := by
  refine ⟨by simpa using h.len, fun u hu => (List.mem_or_eq_of_mem_set hu).elim (h.one u) (fun e => e ▸ hv), ?_⟩
  rcases h.val with ⟨hv, _⟩ | ⟨g', off', cap', arr, hv', hb, h1, h2, h3, h4⟩
  · cases hv
  · cases hv'
    refine .inr ⟨g, off, cap, _, rfl, hb.set (off + i) v, h1, h2, by simpa using h3, ?_⟩
    have hle : n * sz ≤ cap * sz := Nat.mul_le_mul_right _ h1
    apply List.ext_getElem?
    intro j
    have hl := h.len
    rw [← h4]
    simp only [List.getElem?_take, List.getElem?_drop, Array.getElem?_toList, List.getElem?_set, Array.getElem?_setIfInBounds, List.length_take, List.length_drop, Array.length_toList]
    by_cases hj : j < n * sz
    · by_cases hij : i = j
      · subst hij
        rw [if_pos hj, if_pos rfl, if_pos (by omega), if_pos rfl, if_pos (by omega)]
      · rw [if_pos hj, if_neg (by omega), if_neg hij, if_pos hj]
    · rw [if_neg hj, if_neg (by omega), if_neg hj]

set_option maxHeartbeats 400000 in
/-- the length's two bytes are written -/
theorem size_calls (g off cap : Nat) (bs : List UInt8) (n : Int) (w : World) (hO : Own w 5 1 (.slice (some ⟨g, off, none⟩) bs.length cap) bs.length (bc bs)) (h20 : 4 ≤ bs.length) (h0 : 20 ≤ n) (h1 : n < 65536) :
    Calls Try.prog 37 #[.slice (some ⟨g, off, none⟩) bs.length cap, .int .i64 n] w fun e w' => e = .returned (.tuple #[]) ∧ Own w' 5 1 (.slice (some ⟨g, off, none⟩) bs.length cap) bs.length (bc ((bs.set 2 (b8 ((n - 20) / 256))).set 3 (b8 (n - 20)))) ∧ Fr [g] w w' := by
  have hfin := (hO.setAt 2 (.int .u8 ((n - 20) / 256)) (by omega) rfl).setAt 3 (.int .u8 ((n - 20) % 256)) (by omega) rfl
  have hfr : Fr [g] w ((w.setCell ⟨g, off + 2, none⟩ (.int .u8 ((n - 20) / 256))).setCell ⟨g, off + 3, none⟩ (.int .u8 ((n - 20) % 256))) := ((Fr.refl _ _).set (by simp) _).set (by simp) _
  have H := Lib.hid (And.intro hfin hfr)
  obtain ⟨x2, hx2⟩ : ∃ x, w.cell? ⟨g, off + 2, none⟩ = some x := ⟨_, hO.cells rfl 2 _ (bc_get bs 2 (by omega))⟩
  obtain ⟨x3, hx3⟩ : ∃ x, w.cell? ⟨g, off + 3, none⟩ = some x := ⟨_, hO.cells rfl 3 _ (bc_get bs 3 (by omega))⟩
  have hfz : ∀ i, w.frozen? ⟨g, i, none⟩ = false := by
    rcases hO.val with ⟨hv, _⟩ | ⟨g', off', cap', arr, hv', hb, _⟩
    · cases hv
    · cases hv'; exact fun i => hb.frozen i
  have f2 := hfz (off + 2)
  have f3 := hfz (off + 3)
  have e3 : (b8 ((n - 20) / 256)).toNat = (((n - 20) / 256).toNat) ∧ (b8 (n - 20)).toNat = ((n - 20) % 256).toNat := by
    have a1 := b8_val ((n - 20) / 256)
    have a2 := b8_val (n - 20)
    omega
  have HB := Lib.hid e3
  clear hfin hfr hO hfz e3
  generalize hL : bs.length = L at *
  have HL := Lib.hid hL
  clear hL
  go_enter Try.func37, Try.ntmps37
  go_wp2_with fail
  go_end0
  refine ⟨rfl, ?_⟩
  have e : bc ((bs.set 2 (b8 ((n - 20) / 256))).set 3 (b8 (n - 20))) = ((bc bs).set 2 (.int .u8 ((n - 20) / 256))).set 3 (.int .u8 ((n - 20) % 256)) := by
    have a1 := b8_val ((n - 20) / 256)
    have a2 := b8_val (n - 20)
    rw [show (n - 20) / 256 % 256 = (n - 20) / 256 from by omega] at a1
    simp only [bc, List.map_set, a1, a2]
  rw [e]
  exact H.out
end Go.Proofs.Ytggammbhmoippaa
