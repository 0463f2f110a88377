/- The ring at one element type: contracts. -/
import Derived.Test.YtdfncmfjlibidaaSlOpsI32
namespace Go.Proofs.Ytdfncmfjlibidaa.I32
set_option linter.unusedVariables false
open Go.ChangeShapes Go.WideShapes Go.ChangeAt Go.RowKit

/-- Block r is a ring: so many at most; its things' cells cs, n things; the blocks O are its list's. -/
def RingAt (w : World) (r : Nat) (O : List Nat) (most : Nat) (n : Nat) (cs : List Value) : Prop :=
  ∃ v, Blk w r #[.int .i64 (most : Int), v] 78 ∧ Own w 21 1 v n cs ∧ own v = O ∧ r ∉ O ∧ n ≤ most ∧ 1 ≤ most
theorem RingAt.kept {w w' : World} {r : Nat} {O S : List Nat} {most n : Nat} {cs : List Value} (h : RingAt w r O most n cs) (hf : Fr S w w') (hr : r ∉ S) (hO : ∀ k ∈ O, k ∉ S) : RingAt w' r O most n cs := by
  obtain ⟨v, h1, h2, rfl, h4⟩ := h
  exact ⟨v, hf.blk h1 hr, h2.kept hf hO, rfl, h4⟩
theorem RingAt.drewN {w : World} {r : Nat} {O : List Nat} {most n : Nat} {cs : List Value} (h : RingAt w r O most n cs) (k : Nat) : RingAt (w.drewN k) r O most n cs := h.kept ((Fr.refl [] _).drewN k) (by simp) (by simp)
theorem RingAt.lt {w : World} {r : Nat} {O : List Nat} {most n : Nat} {cs : List Value} (h : RingAt w r O most n cs) : r < w.heap.size ∧ ∀ k ∈ O, k < w.heap.size := by
  obtain ⟨v, h1, h2, rfl, h4⟩ := h
  exact ⟨h1.lt, h2.lt⟩

def NewRing (most : Int) (w : World) (e : Ending) (w' : World) : Prop :=
  ∃ r, e = .returned (.pointer (some ⟨r, 0, none⟩)) ∧ RingAt w' r [] (max most 1).toNat 0 [] ∧ Fr [] w w' ∧ w.heap.size ≤ r

theorem newRing_calls (most : Int) (w : World) : Calls Try.prog 15 #[.int .i64 most] w (NewRing most w) := by
  have hfin : ∀ m : Int, m = max most 1 → NewRing most w (.returned (.pointer (some ⟨w.heap.size, 0, none⟩))) (w.alloc (.cells #[.int .i64 m, .slice none 0 0] 78)) := by
    intro m hm
    refine ⟨_, rfl, ⟨_, ?_, Own.nil _ _ _, rfl, by simp, by omega, by omega⟩, (Fr.refl _ _).alloc _, Nat.le_refl _⟩
    have : ((max most 1).toNat : Int) = m := by omega
    rw [this]
    exact Blk.new _ _ _
  have H := Lib.hid hfin
  clear hfin
  by_cases h : (1 : Int) > most
  · go_enter Try.func15, Try.ntmps15
    go_wp2
    go_ret
    exact H.out _ (by omega)
  · go_enter Try.func15, Try.ntmps15
    go_wp2
    go_ret
    exact H.out _ (by omega)

theorem ringLen_calls (r : Nat) (O : List Nat) (most n : Nat) (cs : List Value) (w : World) (h : RingAt w r O most n cs) :
    Calls Try.prog 17 #[.pointer (some ⟨r, 0, none⟩)] w fun e w' => e = .returned (.int .i64 n) ∧ w = w' := by
  obtain ⟨v, hB, hO, -⟩ := h
  obtain ⟨a, c, rfl, -⟩ := hO.shape
  have c1 : w.cell? ⟨r, 1, none⟩ = some (.slice a n c) := hB.cell 1
  clear hB hO
  go_enter Try.func17, Try.ntmps17
  go_wp2
  go_ret
  exact ⟨rfl, rfl⟩

/-- a thing's value and its cells -/
def IsOld (old : Value) (c : List Value) : Prop := c = [old]
/-- What Put leaves: the thing with cells c is put behind. -/
def RingPut (r : Nat) (O : List Nat) (most n : Nat) (cs c : List Value) (zero : Value) (w : World) (e : Ending) (w' : World) : Prop :=
  ∃ O' n' cs' old b, e = .returned (.tuple #[old, .bool b]) ∧ RingAt w' r O' most n' cs' ∧ Fr (r :: O) w w' ∧ (∀ k ∈ O', k ∈ O ∨ w.heap.size ≤ k) ∧
    ((n < most ∧ b = false ∧ old = zero ∧ n' = n + 1 ∧ cs' = cs ++ c) ∨ (n = most ∧ b = true ∧ IsOld old ((cs ++ c).take 1) ∧ n' = n ∧ cs' = (cs ++ c).drop 1))

set_option maxHeartbeats 1000000 in
theorem ringPut_calls (r : Nat) (O : List Nat) (most n : Nat) (cs : List Value) (x : Int) (w : World) (h : RingAt w r O most n cs) (hn : (n + 1) * 4 ≤ 140737488355328) :
    Calls Try.prog 16 #[.pointer (some ⟨r, 0, none⟩), .int .i32 x] w (RingPut r O most n cs [.int .i32 x] (.int .i32 0) w) := by
  obtain ⟨v, hB, hO, rfl, hr, hnm, hm1⟩ := h
  obtain ⟨a, c, hv, hnc, hcm⟩ := hO.shape
  have c0 : w.cell? ⟨r, 0, none⟩ = some (.int .i64 most) := hB.cell 0
  have c1 : w.cell? ⟨r, 1, none⟩ = some v := hB.cell 1
  have f1 := hB.frozen 1
  have hlt := hB.lt
  have H1 := Lib.hid hB; have H2 := Lib.hid hO; have H3 := Lib.hid hr
  clear hB hO hr hcm
  subst hv
  have hnew := Own.new w 21 1 1 ([.int .i32 x]).toArray rfl (by simp [Value.oneCell']) (by simp [maxLen])
  have H4 := Lib.hid hnew
  have hn63 : n + 1 ≤ maxLen := by simp only [maxLen]; omega
  have H5 := Lib.hid hn
  have H6 := Lib.hid hn63
  clear hnew hn hn63
  go_enter Try.func16, Try.ntmps16
  go_wp2_with (at_builtin; refine wpList_app rfl _ _ 29 29 rfl elt (H2.out.alloc _) rfl (H4.out.rd.src Try.underlying29) H6.out H5.out ?_)
  intro v' w1 ho hf hw hnil
  obtain ⟨g, off, c', rfl, hc1, hc2⟩ := ho.pos (by omega)
  have hsm : c' ≤ 9223372036854775807 := by simp only [maxLen] at hc2; omega
  have hB1 := hf.blk (H1.out.alloc' _) H3.out
  have g0 : w1.cell? ⟨r, 0, none⟩ = some (.int .i64 most) := hB1.cell 0
  have g1 : w1.cell? ⟨r, 1, none⟩ = some (.slice a n c) := hB1.cell 1
  have gf := hB1.frozen 1
  clear c0 c1 f1 hnc hc2
  have h1 := (H4.out.kept (Fr.refl [] _) (by simp)).lt
  have hsz : (w.alloc (.cells ([.int .i32 x]).toArray 21)).heap.size = w.heap.size + 1 := by simp
  have hnr : ∀ k ∈ own (Value.slice (some ⟨g, off, none⟩) (n + 1) c'), k ∈ own (Value.slice a n c) ∨ w.heap.size ≤ k := fun k hk => (hw k hk).imp id (fun e => by omega)
  have hr' : r ∉ own (Value.slice (some ⟨g, off, none⟩) (n + 1) c') := fun e => (hnr r e).elim H3.out (fun e => by omega)
  -- the world behind the store
  have hf2 : Fr (r :: own (Value.slice a n c)) w (w1.setCell ⟨r, 1, none⟩ (.slice (some ⟨g, off, none⟩) (n + 1) c')) :=
    (((Fr.refl [] w).alloc _).trans (T := r :: own (Value.slice a n c)) hf (fun x _ hx => hx.elim (fun h => by cases h) (fun h => List.mem_cons_of_mem _ h))).set (.inl (by simp)) _
  have hB2 : Blk (w1.setCell ⟨r, 1, none⟩ (.slice (some ⟨g, off, none⟩) (n + 1) c')) r #[.int .i64 most, .slice (some ⟨g, off, none⟩) (n + 1) c'] 78 := by simpa using hB1.set 1 (.slice (some ⟨g, off, none⟩) (n + 1) c')
  have hO2 := ho.kept ((Fr.refl [r] w1).set (p := ⟨r, 1, none⟩) (by simp) (.slice (some ⟨g, off, none⟩) (n + 1) c')) (by intro k hk e; simp at e; subst e; exact hr' hk)
  have K1 := Lib.hid hf2; have K2 := Lib.hid hB2; have K3 := Lib.hid hO2; have K4 := Lib.hid hnr; have K5 := Lib.hid hr'
  clear ho hf hw hnil hB1 h1 hsz hnr hr' hf2 hB2 hO2
  generalize hw2 : w1.setCell ⟨r, 1, none⟩ (.slice (some ⟨g, off, none⟩) (n + 1) c') = w2 at K1 K2 K3
  have HW := Lib.hid hw2
  clear hw2
  have e0 : w2.cell? ⟨r, 0, none⟩ = some (.int .i64 most) := K2.out.cell 0
  have e1 : w2.cell? ⟨r, 1, none⟩ = some (.slice (some ⟨g, off, none⟩) (n + 1) c') := K2.out.cell 1
  have ef := K2.out.frozen 1
  by_cases hlt2 : n < most
  · have q1 : (n : Int) + 1 ≤ most := by omega
    have q2 : n + 1 ≤ most := by omega
    go_wp2_with fail
    rw [HW.out]
    clear g0 g1 gf
    go_quiet (fail)
    go_wp2_with fail
    go_ret2
    refine ⟨_, _, _, _, _, rfl, ⟨_, K2.out.drewN _, K3.out.drewN _, rfl, K5.out, q2, hm1⟩, K1.out.drewN _, K4.out, .inl ⟨hlt2, rfl, rfl, rfl, rfl⟩⟩
  · have q1 : ¬ (n : Int) + 1 ≤ most := by omega
    have q2 : ¬ n + 1 ≤ most := by omega
    have q3 : decide ((n : Int) + 1 ≤ most) = false := by simpa using q1
    go_wp2_with fail
    rw [HW.out]
    clear g0 g1 gf
    go_quiet (fail)
    obtain ⟨w3, hw3⟩ : ∃ w3, w2.drewN nq = w3 := ⟨_, rfl⟩
    have J1 := K1.out.drewN nq; have J2 := K2.out.drewN nq; have J3 := K3.out.drewN nq
    rw [hw3] at J1 J2 J3 ⊢
    clear K1 K2 K3 e0 e1 ef HW hw3
    have e0 : w3.cell? ⟨r, 0, none⟩ = some (.int .i64 most) := J2.cell 0
    have e1 : w3.cell? ⟨r, 1, none⟩ = some (.slice (some ⟨g, off, none⟩) (n + 1) c') := J2.cell 1
    have ef := J2.frozen 1
    have hc := J3.cells rfl
    have hl := J3.len
    obtain ⟨y0, l, hcs⟩ : ∃ y0 l, cs ++ [.int .i32 x] = y0 :: l := by
      cases h : cs ++ [.int .i32 x] with
      | nil => simp [h] at hl
      | cons y l => exact ⟨y, l, rfl⟩
    have x0 : w3.cell? ⟨g, off, none⟩ = some y0 := by have := hc 0 y0 (by rw [hcs]; rfl); simpa using this
    have L1 := Lib.hid J1; have L2 := Lib.hid J2; have L3 := Lib.hid J3; have L4 := Lib.hid hcs
    clear J1 J2 J3 hc hl hcs
    go_wp2_with fail
    refine (delete_calls g off (n + 1) c' _ 0 1 _ L3.out (by omega) (by omega) (by omega)).mono ?_
    rintro e w4 ⟨rfl, ho4, hf4⟩
    have hrg : r ≠ g := fun e => K5.out (by simp [own, e])
    have hB4 := hf4.blk L2.out (by simpa using hrg)
    have e0 : w4.cell? ⟨r, 0, none⟩ = some (.int .i64 most) := hB4.cell 0
    have e1 : w4.cell? ⟨r, 1, none⟩ = some (.slice (some ⟨g, off, none⟩) (n + 1) c') := hB4.cell 1
    have ef := hB4.frozen 1
    simp only [Nat.add_sub_cancel, Int.toNat_zero, Nat.zero_mul, List.take_zero, List.nil_append, Nat.zero_add, Nat.one_mul] at ho4 ⊢
    have M1 := Lib.hid ho4; have M2 := Lib.hid hf4; have M3 := Lib.hid hB4
    clear ho4 hf4 hB4 x0
    go_wp2_with fail
    go_ret2
    have hnm' : n = most := by omega
    have F4 : Fr (r :: own (Value.slice a n c)) w w4 := ⟨M2.out.os.trans L1.out.os, M2.out.tape.trans L1.out.tape, M2.out.output.trans L1.out.output, Nat.le_trans L1.out.size M2.out.size, fun k hk hn => by
      rw [M2.out.block k (Nat.lt_of_lt_of_le hk L1.out.size) (fun e => ?_)]
      · exact L1.out.block k hk hn
      · simp at e; subst e
        rcases K4.out k (by simp [own]) with h | h
        · exact hn (List.mem_cons_of_mem _ h)
        · omega⟩
    refine ⟨_, _, _, _, _, rfl, ⟨_, by simpa using M3.out.set 1 (.slice (some ⟨g, off, none⟩) n c'), M1.out.kept ((Fr.refl [r] w4).set (p := ⟨r, 1, none⟩) (by simp) _) (by simpa [own] using Ne.symm hrg), rfl, K5.out, hnm, hm1⟩, F4.set (.inl (by simp)) _, K4.out, .inr ⟨hnm', rfl, ?_, rfl, rfl⟩⟩
    rw [L4.out]
    simp [IsOld]
end Go.Proofs.Ytdfncmfjlibidaa.I32
