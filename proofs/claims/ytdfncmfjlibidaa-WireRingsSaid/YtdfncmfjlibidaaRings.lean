/- WireRings: the walk. -/
import Derived.Test.YtdfncmfjlibidaaRingAllI32
import Derived.Test.YtdfncmfjlibidaaAwake01
import Derived.Deep.RegionLaw
import Derived.Deep.Cut
import Derived.Deep.CutRange
import Derived.Deep.LoopGhost
import Derived.BigQuiet
namespace Go.Proofs.Ytdfncmfjlibidaa
set_option linter.unusedVariables false
open Go.ChangeShapes Go.WideShapes Go.ChangeAt Go.RowKit Go.Shelf
attribute [local go_sem] Oper.semAt_some

def i32s (l : List Int) : List Value := l.map (Value.int .i32)

/-- between two rounds: the ring holds what 'want' holds -/
def RInv (w : World) (b5 r b8 : Nat) (stop : Int) (M : Nat) (wr : World) (ws : List Int) (wv : Value) (O : List Nat) (n : Nat) (cs : List Value) : Prop :=
  Fr [] w wr ∧ Blk wr b5 #[.int .i64 stop] 3 ∧ Blk wr (b5 + 1) #[.bool false] 4 ∧ Blk wr b8 #[wv] 29 ∧ Own wr 21 1 wv ws.length (i32s ws) ∧ I32.RingAt wr r O M n cs ∧
    (∀ k ∈ O, b8 < k ∧ k ∉ own wv) ∧ (∀ k ∈ own wv, b8 < k)
@[simp] theorem i32s_length (l : List Int) : (i32s l).length = l.length := by simp [i32s]

theorem RInv.push {w : World} {b5 r b8 : Nat} {stop : Int} {M : Nat} {wr : World} {ws : List Int} {wv : Value} {O : List Nat} {n : Nat} {cs : List Value} (h : RInv w b5 r b8 stop M wr ws wv O n cs)
    (hord : w.heap.size ≤ b5 ∧ b5 + 2 ≤ r ∧ r < b8) (x : Int) {v' : Value} {w' : World} {o : Obj} (ho : Own w' 21 1 v' (ws.length + 1) (i32s ws ++ [.int .i32 x])) (hf : Fr (own wv) (wr.drew.alloc o) w')
    (hw : ∀ k ∈ own v', k ∈ own wv ∨ (wr.drew.alloc o).heap.size ≤ k) :
    RInv w b5 r b8 stop M (w'.setCell ⟨b8, 0, none⟩ v') (ws ++ [x]) v' O n cs := by
  obtain ⟨i1, i2, i3, i4, i5, i6, i7, i8⟩ := h
  have hA : Fr [] wr (wr.drew.alloc o) := (Fr.refl _ _).drew.alloc _
  have hlt := i4.lt
  have hsz : (wr.drew.alloc o).heap.size = wr.heap.size + 1 := by simp
  have hS : Fr [b8] w' (w'.setCell ⟨b8, 0, none⟩ v') := (Fr.refl _ _).set (by simp) _
  have hv' : ∀ k ∈ own v', b8 < k := fun k hk => (hw k hk).elim (i8 k) (fun e => by omega)
  have h8 : b8 ∉ own wv := fun e => by have := i8 _ e; omega
  have hO : ∀ k ∈ O, k < wr.heap.size := i6.lt.2
  have hrl := i6.lt.1
  have hw0 : w.heap.size ≤ wr.heap.size := i1.size
  have F1 : Fr (own wv) wr w' := hA.trans hf (fun k _ h => h.elim (fun h => by cases h) id)
  have F2 : Fr (b8 :: own wv) wr (w'.setCell ⟨b8, 0, none⟩ v') := F1.trans hS (fun k _ h => h.elim (fun h => List.mem_cons_of_mem _ h) (fun h => by simp at h; simp [h]))
  have ne5 : b5 ∉ b8 :: own wv := by
    intro e; rcases List.mem_cons.1 e with e | e
    · omega
    · have := i8 _ e; omega
  have ne6 : b5 + 1 ∉ b8 :: own wv := by
    intro e; rcases List.mem_cons.1 e with e | e
    · omega
    · have := i8 _ e; omega
  have ner : r ∉ b8 :: own wv := by
    intro e; rcases List.mem_cons.1 e with e | e
    · omega
    · have := i8 _ e; omega
  refine ⟨?_, F2.blk i2 ne5, F2.blk i3 ne6, ?_, ?_, i6.kept F2 ner (fun k hk e => ?_), fun k hk => ⟨(i7 k hk).1, fun e => ?_⟩, hv'⟩
  · refine i1.trans F2 (fun k hk h => h.elim id (fun h => ?_))
    rcases List.mem_cons.1 h with e | e
    · omega
    · have := i8 _ e; omega
  · exact (F1.blk i4 h8).set 0 v'
  · have := ho.kept hS (fun k hk e => by simp at e; have := hv' k hk; omega)
    simpa [i32s] using this
  · rcases List.mem_cons.1 e with e | e
    · have := (i7 k hk).1; omega
    · exact (i7 k hk).2 e
  · rcases hw k e with e | e
    · exact (i7 k hk).2 e
    · have := hO k hk; omega

theorem RInv.put {w : World} {b5 r b8 : Nat} {stop : Int} {M : Nat} {wr : World} {ws : List Int} {wv : Value} {O : List Nat} {n : Nat} {cs : List Value} (h : RInv w b5 r b8 stop M wr ws wv O n cs)
    (hord : w.heap.size ≤ b5 ∧ b5 + 2 ≤ r ∧ r < b8) {w' : World} {O' : List Nat} {n' : Nat} {cs' : List Value} (hR : I32.RingAt w' r O' M n' cs') (hf : Fr (r :: O) wr w')
    (hw : ∀ k ∈ O', k ∈ O ∨ wr.heap.size ≤ k) : RInv w b5 r b8 stop M w' ws wv O' n' cs' := by
  obtain ⟨i1, i2, i3, i4, i5, i6, i7, i8⟩ := h
  have hlt := i4.lt
  have hno : ∀ x, x ≤ b8 → x ≠ r → x ∉ r :: O := by
    intro x hx hn e; rcases List.mem_cons.1 e with e | e
    · exact hn e
    · have := (i7 _ e).1; omega
  have hnw : ∀ k ∈ own wv, k ∉ r :: O := by
    intro k hk e; rcases List.mem_cons.1 e with e | e
    · have := i8 k hk; omega
    · exact (i7 _ e).2 hk
  refine ⟨i1.trans hf (fun k hk h => h.elim id (fun h => ?_)), hf.blk i2 (hno _ (by omega) (by omega)), hf.blk i3 (hno _ (by omega) (by omega)), hf.blk i4 (hno _ (by omega) (by omega)), i5.kept hf hnw, hR, fun k hk => ?_, i8⟩
  · rcases List.mem_cons.1 h with e | e
    · omega
    · have := (i7 _ e).1; omega
  · rcases hw k hk with e | e
    · exact i7 k e
    · exact ⟨by omega, fun e' => by have := i5.lt k e'; omega⟩
theorem RInv.drewN {w : World} {b5 r b8 : Nat} {stop : Int} {M : Nat} {wr : World} {ws : List Int} {wv : Value} {O : List Nat} {n : Nat} {cs : List Value} (h : RInv w b5 r b8 stop M wr ws wv O n cs) (k : Nat) :
    RInv w b5 r b8 stop M (wr.drewN k) ws wv O n cs := by
  obtain ⟨i1, i2, i3, i4, i5, i6, i7, i8⟩ := h
  exact ⟨i1.drewN k, i2, i3, i4, i5.drewN k, i6.kept ((Fr.refl [] _).drewN k) (by simp) (by simp), i7, i8⟩
theorem RInv.tail {w : World} {b5 r b8 : Nat} {stop : Int} {M : Nat} {wr : World} {x : Int} {ws : List Int} {wv : Value} {O : List Nat} {n : Nat} {cs : List Value} (h : RInv w b5 r b8 stop M wr (x :: ws) wv O n cs)
    (hord : w.heap.size ≤ b5 ∧ b5 + 2 ≤ r ∧ r < b8) : RInv w b5 r b8 stop M (wr.setCell ⟨b8, 0, none⟩ (dropV wv 1 1)) ws (dropV wv 1 1) O n cs := by
  obtain ⟨i1, i2, i3, i4, i5, i6, i7, i8⟩ := h
  have hS : Fr [b8] wr (wr.setCell ⟨b8, 0, none⟩ (dropV wv 1 1)) := (Fr.refl _ _).set (by simp) _
  have ho := own_dropV i5 1
  refine ⟨i1.trans hS (fun k hk h => h.elim id (fun h => by simp at h; omega)), hS.blk i2 (by simp; omega), hS.blk i3 (by simp; omega), i4.set 0 _, ?_, i6.kept hS (by simp; omega) (fun k hk e => ?_), fun k hk => by rw [ho]; exact i7 k hk, fun k hk => i8 k (by rwa [ho] at hk)⟩
  · have := (i5.drop (k := 1) (by simp)).kept hS (fun k hk e => by rw [ho] at hk; simp at e; have := i8 k hk; omega)
    simpa [i32s] using this
  · simp at e; have := (i7 k hk).1; omega

/-- between two rounds of the range -/
def RJ (w : World) (b5 b8 b12 : Nat) (stop : Int) (ws : List Int) (wv : Value) (B : Nat) (i : Nat) (R : List Nat) (W : World) : Prop :=
  Fr [] w W ∧ Blk W b5 #[.int .i64 stop] 3 ∧ Blk W (b5 + 1) #[.bool false] 4 ∧ Blk W b8 #[wv] 29 ∧ Own W 21 1 wv ws.length (i32s ws) ∧ Blk W b12 #[.int .i64 (i : Int)] 3 ∧ (∀ k ∈ R, B ≤ k)
theorem RJ.st {w : World} {b5 b8 b12 : Nat} {stop : Int} {ws : List Int} {wv : Value} {B i : Nat} {R : List Nat} {W W' : World} (hB : w.heap.size ≤ B ∧ b5 + 1 < B ∧ b8 < B ∧ b12 < B ∧ ∀ k ∈ own wv, k < B)
    (h : RJ w b5 b8 b12 stop ws wv B i R W) (hf : Fr R W W') : RJ w b5 b8 b12 stop ws wv B i R W' := by
  obtain ⟨i1, i2, i3, i4, i5, i6, i7⟩ := h
  have hn : ∀ x, x < B → x ∉ R := fun x hx e => by have := i7 x e; omega
  exact ⟨i1.trans hf (fun k hk h => h.elim id (fun h => by have := i7 k h; omega)), hf.blk i2 (hn _ (by omega)), hf.blk i3 (hn _ (by omega)), hf.blk i4 (hn _ (by omega)), i5.kept hf (fun k hk => hn _ (hB.2.2.2.2 k hk)), hf.blk i6 (hn _ (by omega)), i7⟩

theorem RJ.step {w : World} {b5 b8 b12 : Nat} {stop : Int} {ws : List Int} {wv : Value} {B i : Nat} {R : List Nat} {W : World} (hB : w.heap.size ≤ B ∧ b5 + 1 < B ∧ b8 < B ∧ b12 < B ∧ ∀ k ∈ own wv, k < B)
    (hd : w.heap.size ≤ b12 ∧ b5 + 1 < b12 ∧ b8 < b12 ∧ ∀ k ∈ own wv, k < b12)
    (h : RJ w b5 b8 b12 stop ws wv B i R W) (j : Int) (hj : j = ((i + 1 : Nat) : Int)) : Same R W (W.setCell ⟨b12, 0, none⟩ (.int .i64 j)) ∧ RJ w b5 b8 b12 stop ws wv B (i + 1) R (W.setCell ⟨b12, 0, none⟩ (.int .i64 j)) := by
  subst hj
  obtain ⟨i1, i2, i3, i4, i5, i6, i7⟩ := h
  have hS : Fr [b12] W (W.setCell ⟨b12, 0, none⟩ (.int .i64 ((i + 1 : Nat) : Int))) := (Fr.refl _ _).set (by simp) _
  refine ⟨⟨by simp, fun k hk => Below.heap_setCell _ _ _ _ (by have := i7 k hk; show k ≠ b12; omega)⟩, ?_⟩
  exact ⟨i1.trans hS (fun k hk h => h.elim id (fun h => by simp at h; omega)), hS.blk i2 (by simp; omega), hS.blk i3 (by simp; omega), hS.blk i4 (by simp; omega), i5.kept hS (fun k hk e => by simp at e; have := hd.2.2.2 k hk; omega), i6.set 0 _, i7⟩

/-- the function's end: its result lies in a cell -/
theorem leaves_ring {fn : Func} {tmps : Array Value} {D b : Nat} {p : Tmp} {w W : World} (hfn : fn.results = #[.cell p 4]) (ht : tmps.getD p undef = .pointer (some ⟨b, 0, none⟩)) (hD : W.heap[D]? = some (.deferred (some [])))
    (hb : Blk W b #[.bool false] 4) (hF : Fr [] w W) (hd : w.heap.size ≤ b ∧ w.heap.size ≤ D ∧ b ≠ D) :
    LeavesInM Fence.wide 3 Try.prog fn tmps (fun e w' => e = .returned (.bool true) ∧ Fr [] w w') [{ target := .collected D, args := #[] }] .returning (W.setCell ⟨b, 0, none⟩ (.bool true)) := by
  have hS : Fr [b] W (W.setCell ⟨b, 0, none⟩ (.bool true)) := (Fr.refl _ _).set (by simp) _
  have hB : Blk (W.setCell ⟨b, 0, none⟩ (.bool true)) b #[.bool true] 4 := hb.set 0 _
  have hD' : (W.setCell ⟨b, 0, none⟩ (.bool true)).heap[D]? = some (.deferred (some [])) := (hS.block D (Array.getElem?_eq_some_iff.1 hD).1 (by simp; omega)).trans hD
  have hP : Fr [D] (W.setCell ⟨b, 0, none⟩ (.bool true)) ((W.setCell ⟨b, 0, none⟩ (.bool true)).putObj D (.deferred none)) := (Fr.refl _ _).putObj _ (by simp)
  refine leaves_one hD' (v := .bool true) ?_ ⟨rfl, (hF.trans hS (T := [b]) (fun k _ h => h.elim (fun h => by cases h) id)).trans hP (fun k hk h => by simp at h; omega)⟩
  rw [results_cell1 hfn ht]
  have hc : ((W.setCell ⟨b, 0, none⟩ (.bool true)).putObj D (.deferred none)).cell? ⟨b, 0, none⟩ = some (.bool true) := (hP.blk hB (by simp; omega)).cell 0
  simp [hc, go_sem]

set_option maxRecDepth 100000 in
set_option maxHeartbeats 4000000 in
theorem walk_rings (most stop : Int) (v : Value) (zs : List Int) (w : World) (hm : -9223372036854775808 ≤ most ∧ most ≤ 9223372036854775807) (hs : -9223372036854775808 ≤ stop ∧ stop ≤ 9223372036854775807)
    (hv : Rd w 1 v zs.length (i32s zs)) (hz : zs.length * 4 ≤ 140737488351232) :
    Calls Try.prog 4 #[.int .i64 most, v, .int .i64 stop] w fun e w' => e = .returned (.bool true) ∧ Fr [] w w' := by
  refine calls_of_wp_marks Try.func4 rfl ?_
  simp only [Try.ntmps4, List.size_toArray, List.length_cons, List.length_nil, Nat.reduceAdd, Nat.reduceSub, Array.replicate_succ, Array.replicate_zero, List.push_toArray, List.append_toArray, List.nil_append, List.cons_append]
  go_wp2_with fail
  refine (awake_calls _).mono ?_
  rintro e w1 ⟨rfl, hF1⟩
  have hsz1 : w.heap.size + 2 ≤ w1.heap.size := by have := hF1.size; simpa using this
  have h5 : Blk w1 w.heap.size #[.int .i64 stop] 3 := hF1.blk ((Blk.new w _ _).alloc' _) (by simp)
  have h6 : Blk w1 (w.heap.size + 1) #[.bool false] 4 := hF1.blk (by have := Blk.new (w.alloc (.cells #[.int .i64 stop] 3)) #[.bool false] 4; simpa using this) (by simp)
  have hF : Fr [] w w1 := (((Fr.refl [] w).alloc _).alloc _).trans hF1 (by simp)
  generalize hb5 : w.heap.size = b5 at *
  have Hb5 := Lib.hid hb5; have H5 := Lib.hid h5; have H6 := Lib.hid h6; have HF := Lib.hid hF; have HV := Lib.hid hv
  clear hb5 h5 h6 hF hF1 hv
  go_upto_if 18 with (fail)
  go_cut [0] from 19 to 20 (fun s0 wx => ∃ m0 : Int, s0 = .int .i64 m0 ∧ -9223372036854775808 ≤ m0 ∧ m0 ≤ 1000 ∧ wx = w1)
  case first =>
    by_cases hbig : 1000 < most
    · go_wp2_with fail
      go_meet
      exact ⟨_, rfl, by omega, by omega, rfl⟩
    · go_wp2_with fail
      go_meet
      exact ⟨_, rfl, by omega, by omega, rfl⟩
  case rest =>
    obtain ⟨m0, rfl, hm0, hm1, rfl⟩ := hcut
    clear hm
    go_wp2_with fail
    refine (I32.newRing_calls m0 _).mono ?_
    rintro e w2 ⟨r, rfl, hR, hF2, hr⟩
    have H5' := Lib.hid (hF2.blk H5.out (by simp)); have H6' := Lib.hid (hF2.blk H6.out (by simp)); have HF' := Lib.hid (HF.out.trans hF2 (T := []) (by simp))
    have hsz2 := hF2.size
    have HR := Lib.hid hR
    have hrl := hR.lt.1
    clear hR hF2 H5 H6 HF
    obtain ⟨M, hM⟩ : ∃ M : Nat, (max m0 1).toNat = M := ⟨_, rfl⟩
    have hmx : (if m0 < 1 then (1 : Int) else m0) = (M : Int) := by split <;> omega
    have hM1 : 1 ≤ M := by omega
    have hM2 : M ≤ 1000 := by omega
    rw [hM] at HR
    clear hM
    obtain ⟨a, cap, hv0, hlc, hcm, hnn, hcell⟩ := HV.out.val
    have hsm : cap ≤ 9223372036854775807 := by simp only [maxLen] at hcm; omega
    subst hv0
    have HN := Lib.hid hnn; have HC := Lib.hid hcell
    clear hcm hnn hcell
    go_wp2_with fail
    have e8 : ∃ b8, w2.heap.size = b8 := ⟨_, rfl⟩
    obtain ⟨b8, hb8⟩ := e8
    have hrb : w.heap.size ≤ b5 ∧ b5 + 2 ≤ r ∧ r < b8 := by have := Hb5.out; omega
    obtain ⟨w3, hw3⟩ : ∃ w3, w2.alloc (.cells #[.slice none 0 0] 29) = w3 := ⟨_, rfl⟩
    have hI0 : RInv w b5 r b8 stop M w3 [] (.slice none 0 0) [] 0 [] := by
      rw [← hw3, ← hb8]
      have hfa : Fr [] w2 (w2.alloc (.cells #[.slice none 0 0] 29)) := (Fr.refl _ _).alloc _
      exact ⟨HF'.out.trans hfa (by simp), hfa.blk H5'.out (by simp), hfa.blk H6'.out (by simp), Blk.new _ _ _, Own.nil _ _ _, HR.out.kept hfa (by simp) (by simp), by simp, by simp [own]⟩
    rw [hb8, hw3]
    have HI0 := Lib.hid hI0
    clear hI0 hw3 hb8 H5' H6' HF' HR hsz1 hsz2 hr hrl hmx hm0 hm1 Hb5
    go_loopw [27] (fun i wr => ∃ k : Nat, ∃ (ws : List Int) (wv : Value) (O : List Nat), k ≤ zs.length ∧ i = .int .i64 k ∧ RInv w b5 r b8 stop M wr ws wv O ws.length (i32s ws)) (fun i _ => zs.length - (intOf i).toNat)
    case atStart => exact ⟨0, [], _, _, Nat.zero_le _, rfl, HI0.out⟩
    case round =>
      obtain ⟨k, ws, wv, O, hk, rfl, hI⟩ := hrel
      by_cases hlt : k < zs.length
      · have HIk := Lib.hid hI
        obtain ⟨i1, i2, i3, i4, i5, i6, i7, i8⟩ := hI
        obtain ⟨b, hb⟩ : ∃ b, a = some b := by
          cases a with
          | none => have := (HN.out rfl).1; omega
          | some b => exact ⟨b, rfl⟩
        subst hb
        have hcx : wr.cell? (b.add k) = some (.int .i32 zs[k]) := by
          have h1 := HC.out b rfl k (.int .i32 zs[k]) (by simp [i32s, hlt])
          have hbl := World.block_lt_of_cell? w _ h1
          rw [i1.cell hbl (by simp)]
          exact h1
        have c8 : wr.cell? ⟨b8, 0, none⟩ = some wv := i4.cell 0
        have f8 := i4.frozen 0
        have l8 := i4.lt
        have hwM : ws.length ≤ M := by obtain ⟨_, _, _, _, _, h, _⟩ := i6; exact h
        have hkl : (k : Int) < zs.length := by omega
        have q1 := Lib.hid i1; have q2 := Lib.hid i2; have q3 := Lib.hid i3; have q4 := Lib.hid i4; have q5 := Lib.hid i5; have q6 := Lib.hid i6; have q7 := Lib.hid i7; have q8 := Lib.hid i8
        clear i1 i2 i3 i4 i5 i6 i7 i8
        have QA := Lib.hid (Own.alloc (Own.drew q5.out) (.cells #[.int .i32 zs[k]] 21))
        have QB := Lib.hid ((Own.new wr.drew 21 1 1 #[.int .i32 zs[k]] rfl (by simp [Value.oneCell']) (by simp [maxLen])).rd.src (P := Try.prog) Try.underlying29)
        have QC := Lib.hid (show ws.length + 1 ≤ maxLen by simp only [maxLen]; omega)
        have QD := Lib.hid (show (ws.length + 1) * 4 ≤ 140737488355328 by omega)
        go_upto_region 11 with fail
        go_cut [] from 28 to 77 (fun wx => ∃ wv', RInv w b5 r b8 stop M wx (ws ++ [zs[k]]) wv' O ws.length (i32s ws))
        case first =>
          have hn8 : b8 ∉ own wv := fun e => by have := q8.out _ e; omega
          have QN := Lib.hid hn8
          clear hn8
          go_region_law (refine step_app rfl _ _ 29 29 rfl I32.elt QA.out rfl QB.out QC.out QD.out ?_; intro v' w' ho hf hw hnil; obtain ⟨g', off', c', rfl, hc1, hc2⟩ := ho.pos (by omega); have hB8 := hf.blk (q4.out.drew.alloc' _) QN.out; have c8' := hB8.cell 0; have f8' := hB8.frozen 0; simp only [List.getElem?_toArray, List.getElem?_cons_zero] at c8'; have Z1 := Lib.hid ho; have Z2 := Lib.hid hf; have Z3 := Lib.hid hw; clear ho hf hw hnil hB8 hc1 hc2)
          all_goals
            go_wp2_with fail
            go_meet
            exact ⟨_, HIk.out.push hrb _ Z1.out Z2.out Z3.out⟩
        case rest =>
          obtain ⟨wv', hI⟩ := hcut
          clear HIk q1 q2 q3 q4 q5 q6 q7 q8 QA QB QC QD c8 f8 l8
          obtain ⟨i1, i2, i3, i4, i5, i6, i7, i8⟩ := hI
          have q1 := Lib.hid i1; have q2 := Lib.hid i2; have q3 := Lib.hid i3; have q4 := Lib.hid i4; have q5 := Lib.hid i5; have q6 := Lib.hid i6; have q7 := Lib.hid i7; have q8 := Lib.hid i8
          have hcx' : wc.cell? (b.add k) = some (.int .i32 zs[k]) := by
            have h1 := HC.out b rfl k (.int .i32 zs[k]) (by simp [i32s, hlt])
            have hbl := World.block_lt_of_cell? w _ h1
            rw [i1.cell hbl (by simp)]
            exact h1
          clear i1 i2 i3 i4 i5 i6 i7 i8 hcx
          go_wp2_with fail
          refine (I32.ringPut_calls r O M ws.length (i32s ws) zs[k] _ q6.out (by omega)).mono ?_
          rintro e w5 ⟨O', n', cs', old, bb, rfl, hR5, hF5, hO5, hcase⟩
          have hI5 : RInv w b5 r b8 stop M w5 (ws ++ [zs[k]]) wv' O' n' cs' := RInv.put ⟨q1.out, q2.out, q3.out, q4.out, q5.out, q6.out, q7.out, q8.out⟩ hrb hR5 hF5 hO5
          have HI5 := Lib.hid hI5
          obtain ⟨-, -, -, i4, i5, i6, -, -⟩ := hI5
          obtain ⟨g, off, c, hwv, hgc, hgm⟩ := i5.pos (by simp)
          simp only [List.length_append, List.length_cons, List.length_nil, Nat.zero_add] at hwv hgc
          have c8 : w5.cell? ⟨b8, 0, none⟩ = some wv' := i4.cell 0
          have f8 := i4.frozen 0
          have hsm2 : c ≤ 9223372036854775807 := by simp only [maxLen] at hgm; omega
          obtain ⟨y, l, hyl⟩ : ∃ y l, ws ++ [zs[k]] = y :: l := by
            cases h : ws ++ [zs[k]] with
            | nil => simp at h
            | cons y l => exact ⟨y, l, rfl⟩
          have cw : w5.cell? ⟨g, off, none⟩ = some (.int .i32 y) := by
            have := i5.cells hwv 0 (.int .i32 y) (by rw [hyl]; simp [i32s])
            simpa using this
          have HL := Lib.hid i6
          have HY := Lib.hid hyl
          have HQ := Lib.hid (And.intro hwv i4)
          clear i4 i5 i6 hyl hgm hR5 hF5 hO5 q1 q2 q3 q4 q5 q6 q7 q8 hcx'
          subst hwv
          rcases hcase with ⟨hlt2, rfl, rfl, rfl, rfl⟩ | ⟨heq, rfl, hold, rfl, rfl⟩
          · have t1 : ¬ (M : Int) < (ws.length : Int) + 1 := by omega
            go_wp2_with fail
            go_quiet ((go_at_call 17; exact Calls.quiet_of_same ((I32.ringLen_calls _ _ _ _ _ _ (HL.out.drewN _)).mono (fun _ _ h => ⟨h.1, h.2.symm⟩))))
            go_wp2_with fail
            go_roundw
            case rel => exact ⟨k + 1, ws ++ [zs[k]], _, _, by omega, by go_num, by simpa [i32s] using HI5.out.drewN nq⟩
            case measure => simp [intOf]; omega
          · obtain rfl : old = .int .i32 y := by
              have h1 := HY.out
              have h2 : i32s ws ++ [.int .i32 zs[k]] = .int .i32 y :: i32s l := by
                have := congrArg i32s h1
                simpa [i32s] using this
              rw [h2] at hold
              have h3 : [Value.int IntKind.i32 y] = [old] := by simpa [I32.IsOld] using hold
              simpa using h3.symm
            have hll : l.length = ws.length := by have := congrArg List.length HY.out; simpa using this.symm
            have hdr : List.drop 1 (i32s ws ++ [Value.int IntKind.i32 zs[k]]) = i32s l := by
              have := congrArg i32s HY.out
              have h2 : i32s ws ++ [.int .i32 zs[k]] = .int .i32 y :: i32s l := by simpa [i32s] using this
              rw [h2]; rfl
            have HT : Hid (RInv w b5 r b8 stop M (w5.setCell ⟨b8, 0, none⟩ (dropV (.slice (some ⟨g, off, none⟩) (ws.length + 1) c) 1 1)) l (dropV (.slice (some ⟨g, off, none⟩) (ws.length + 1) c) 1 1) O' ws.length (i32s l)) := by
              have := HI5.out
              rw [HY.out, hdr] at this
              exact this.tail hrb
            have hc1 : ¬ c = 1 := by omega
            have hdv : dropV (.slice (some ⟨g, off, none⟩) (ws.length + 1) c) 1 1 = .slice (some ⟨g, off + 1, none⟩) ws.length (c - 1) := by simp [dropV, hc1, Addr.add_lit]
            rw [hdv] at HT
            have t1 : (M : Int) < (ws.length : Int) + 1 := by omega
            have HLL := Lib.hid hll
            have HEQ := Lib.hid heq
            clear hdr hdv hold hll heq
            go_wp2_with fail
            obtain ⟨w6, hw6⟩ : ∃ w6, w5.setCell ⟨b8, 0, none⟩ (.slice (some ⟨g, off + 1, none⟩) ws.length (c - 1)) = w6 := ⟨_, rfl⟩
            rw [hw6] at HT ⊢
            have HL2 := Lib.hid HT.out.2.2.2.2.2.1
            have c86 : w6.cell? ⟨b8, 0, none⟩ = some (.slice (some ⟨g, off + 1, none⟩) ws.length (c - 1)) := HT.out.2.2.2.1.cell 0
            clear hw6 HI5 HQ HL
            go_quiet ((go_at_call 17; exact Calls.quiet_of_same ((I32.ringLen_calls _ _ _ _ _ _ (HL2.out.drewN _)).mono (fun _ _ h => ⟨h.1, h.2.symm⟩))))
            go_wp2_with fail
            go_roundw
            case rel => exact ⟨k + 1, l, _, _, by omega, by go_num, by rw [HLL.out]; exact HT.out.drewN nq⟩
            case measure => simp [intOf]; omega
      · have HI := Lib.hid hI
        clear hI
        obtain rfl : k = zs.length := by omega
        obtain ⟨i1, i2, i3, i4, i5, i6, i7, i8⟩ := HI.out
        obtain ⟨b12, hb12⟩ : ∃ b12, wr.heap.size = b12 := ⟨_, rfl⟩
        have hb8l := i4.lt
        have hrl := i6.lt.1
        have howl := i5.lt
        have X1 := Lib.hid i1; have X2 := Lib.hid i2; have X3 := Lib.hid i3; have X4 := Lib.hid i4; have X5 := Lib.hid i5; have X6 := Lib.hid i6; have X8 := Lib.hid i8; have X9 := Lib.hid howl
        clear i1 i2 i3 i4 i5 i6 i7 i8 HI howl
        go_wp2_with fail
        refine (I32.all_calls r _).mono ?_
        rintro e w8 ⟨rfl, hw8⟩
        rw [World.size_alloc, hb12]
        have hA : Fr [] wr w8 := by rw [hw8]; exact ((Fr.refl _ _).alloc _).alloc _
        have hs8 : w8.heap.size = b12 + 2 := by rw [hw8]; simp [hb12]
        have h12 : Blk w8 b12 #[.int .i64 0] 3 := by rw [hw8, ← hb12]; exact (Blk.new wr _ _).alloc' _
        have hbox : Blk w8 (b12 + 1) #[.pointer (some ⟨r, 0, none⟩)] 30 := by
          rw [hw8, ← hb12]; have := Blk.new (wr.alloc (.cells #[.int .i64 0] 3)) #[.pointer (some ⟨r, 0, none⟩)] 30; simpa using this
        have hwM : ws.length ≤ M := by obtain ⟨_, _, _, _, _, h, _⟩ := X6.out; exact h
        have hit := I32.all_iter r (b12 + 1) O M ws.length (i32s ws) w8 hbox (X6.out.kept hA (by simp) (by simp)) (by omega)
        have hJ0 : RJ w b5 b8 b12 stop ws wv (b12 + 2) 0 [] w8 := ⟨X1.out.trans hA (by simp), hA.blk X2.out (by simp), hA.blk X3.out (by simp), hA.blk X4.out (by simp), X5.out.kept hA (by simp), h12, by simp⟩
        have hBB : w.heap.size ≤ b12 + 2 ∧ b5 + 1 < b12 + 2 ∧ b8 < b12 + 2 ∧ b12 < b12 + 2 ∧ ∀ k ∈ own wv, k < b12 + 2 := ⟨by omega, by omega, by omega, by omega, fun k hk => by have := X9.out k hk; omega⟩
        have hDD : w.heap.size ≤ b12 ∧ b5 + 1 < b12 ∧ b8 < b12 ∧ ∀ k ∈ own wv, k < b12 := ⟨by omega, by omega, by omega, fun k hk => by have := X9.out k hk; omega⟩
        have Y5 := Lib.hid hDD
        clear hDD
        have Y1 := Lib.hid hit; have Y2 := Lib.hid hJ0; have Y3 := Lib.hid hBB; have Y4 := Lib.hid hs8
        clear hit hJ0 hBB hs8 hA h12 hbox hw8 X1 X2 X3 X4 X5 X6 X9
        go_wp2_with fail
        refine range_res_wp (gf := 44) (lb := #[.pointer (some ⟨b12 + 1, 0, none⟩)]) rfl (enters_of Try.func44 (by kernel_rfl) rfl) Y1.out (fun _ => rfl)
          (RJ w b5 b8 b12 stop ws wv (b12 + 2)) (fun c i R W => RJ w b5 b8 b12 stop ws wv (b12 + 2) i R W ∧ c = .exit 2 ∧ (i : Int) = stop) ?h0 (fun i R W W' h hf => h.st Y3.out hf) (fun c i R W W' h hf => ⟨h.1.st Y3.out hf, h.2⟩) ?round ?done ?stop
        case h0 =>
          intro W R hf hR
          obtain ⟨i1, i2, i3, i4, i5, i6, -⟩ := Y2.out.st Y3.out (W' := W) hf
          exact ⟨i1, i2, i3, i4, i5, i6, fun k hk => by have := hR k hk; have := Y4.out; omega⟩
        case round =>
          intro l R i W0 W hi hI hR
          have HJ := Lib.hid hI
          obtain ⟨-, j5, j6, j8, jo, j12, -⟩ := hI
          obtain ⟨g, off, c, hwv, -⟩ := jo.pos (by omega)
          have k5 : W.cell? ⟨b5, 0, none⟩ = some (.int .i64 stop) := j5.cell 0
          have k8 : W.cell? ⟨b8, 0, none⟩ = some wv := j8.cell 0
          have k12 : W.cell? ⟨b12, 0, none⟩ = some (.int .i64 (i : Int)) := j12.cell 0
          have f12 := j12.frozen 0
          have kx : W.cell? ⟨g, off + i, none⟩ = some (.int .i32 ws[i]) := jo.cells hwv i _ (by simp [i32s, hi])
          have eit : I32.item (i32s ws) i = .int .i32 ws[i] := by simp [I32.item, i32s, hi]
          simp only [eit]
          have hil : ¬ (ws.length : Int) ≤ i := by omega
          have hi1 : (i : Int) < ws.length := by omega
          subst hwv
          clear j5 j6 j8 jo j12 eit
          by_cases hst : ((i : Int) + 1 == stop) = true
          · gi_wp2
            have := RJ.step Y3.out Y5.out HJ.out ((i : Int) + 1) (by omega)
            exact ⟨this.1, this.2, rfl, by simpa using hst⟩
          · have hst' : ((i : Int) + 1 == stop) = false := by simpa using hst
            gi_wp2
            exact RJ.step Y3.out Y5.out HJ.out ((i : Int) + 1) (by omega)
        case done =>
          intro D R W hD hDR hI hk
          obtain ⟨j1, j5, j6, j8, jo, j12, -⟩ := hI
          obtain ⟨a', c', hwv, -⟩ := jo.shape
          subst hwv
          have k5 : W.cell? ⟨b5, 0, none⟩ = some (.int .i64 stop) := j5.cell 0
          have k8 : W.cell? ⟨b8, 0, none⟩ = some (.slice a' ws.length c') := j8.cell 0
          have k12 : W.cell? ⟨b12, 0, none⟩ = some (.int .i64 (ws.length : Int)) := j12.cell 0
          have k6 : W.cell? ⟨b5 + 1, 0, none⟩ = some (.bool false) := j6.cell 0
          have f6 := j6.frozen 0
          have Q1 := Lib.hid hk; have Q2 := Lib.hid j1; have Q3 := Lib.hid j6
          clear hk j1 j5 j6 j8 jo j12 Y1
          go_wp2_with fail
          exact leaves_ring rfl rfl Q1.out Q3.out Q2.out (by have := Y5.out; have := Y4.out; omega)
        case stop =>
          rintro D R c i W hD hDR h1 hiN ⟨hI, rfl, hst⟩ hk
          obtain ⟨j1, j5, j6, j8, jo, j12, -⟩ := hI
          obtain ⟨a', c', hwv, -⟩ := jo.shape
          subst hwv
          have k5 : W.cell? ⟨b5, 0, none⟩ = some (.int .i64 stop) := j5.cell 0
          have k8 : W.cell? ⟨b8, 0, none⟩ = some (.slice a' ws.length c') := j8.cell 0
          have k12 : W.cell? ⟨b12, 0, none⟩ = some (.int .i64 stop) := by rw [← hst]; exact j12.cell 0
          have k6 : W.cell? ⟨b5 + 1, 0, none⟩ = some (.bool false) := j6.cell 0
          have f6 := j6.frozen 0
          have Q1 := Lib.hid hk; have Q2 := Lib.hid j1; have Q3 := Lib.hid j6
          clear hk j1 j5 j6 j8 jo j12 Y1 hst
          by_cases hsl : (stop == (ws.length : Int)) = true
          · go_wp2_with fail
            exact leaves_ring rfl rfl Q1.out Q3.out Q2.out (by have := Y5.out; have := Y4.out; omega)
          · have hsl' : (stop == (ws.length : Int)) = false := by simpa using hsl
            go_wp2_with fail
            exact leaves_ring rfl rfl Q1.out Q3.out Q2.out (by have := Y5.out; have := Y4.out; omega)
end Go.Proofs.Ytdfncmfjlibidaa
