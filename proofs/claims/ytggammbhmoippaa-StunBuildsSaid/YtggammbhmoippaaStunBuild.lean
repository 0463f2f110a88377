/- stun.Build. -/
import Derived.Test.YtggammbhmoippaaStunGood
import Derived.Test.YtggammbhmoippaaStunKind
import Derived.Laws.Rows
import Derived.StillTailTactics
import Derived.Deep.QuietTactic
import Derived.BigQuiet
namespace Go.Proofs.Ytggammbhmoippaa
set_option linter.unusedVariables false
open Go.ChangeShapes Go.WideShapes Go.ChangeAt Go.RowKit
open ref01 (NewB)

/-- A writer in the midst of its work: begun behind w; the blocks B are others'. -/
structure BI (w : World) (B : List Nat) (r : Nat) (O : List Nat) (bs : List UInt8) (wr : World) : Prop where
  at' : WrAt wr r O bs
  keep : ∀ x ∈ B, x < wr.heap.size ∧ x ≠ r ∧ x ∉ O
  new : w.heap.size ≤ r ∧ ∀ k ∈ O, w.heap.size ≤ k
  fr : Fr [] w wr
def BIx (w : World) (B : List Nat) (r : Nat) (bs : List UInt8) (wr : World) : Prop := ∃ O, BI w B r O bs wr
theorem BI.step {w : World} {B : List Nat} {r : Nat} {O : List Nat} {bs bs' : List UInt8} {wr w2 : World} (h : BI w B r O bs wr) (k : WrTo r O bs' wr w2) :
    BIx w B r bs' w2 ∧ ∀ x ∈ B, w2.heap[x]? = wr.heap[x]? := by
  obtain ⟨O', k1, k2, k3⟩ := k
  refine ⟨⟨O', k1, fun x hx => ?_, ⟨h.new.1, fun k hk => ?_⟩, h.fr.trans k2 (fun x hx hx' => ?_)⟩, fun x hx => ?_⟩
  · obtain ⟨h1, h2, h3⟩ := h.keep x hx
    exact ⟨Nat.lt_of_lt_of_le h1 k2.size, h2, fun e => (k3 x e).elim h3 (fun e => by omega)⟩
  · rcases k3 k hk with e | e
    · exact h.new.2 k e
    · exact Nat.le_trans h.fr.size e
  · rcases hx' with e | e
    · exact e
    · exfalso
      rcases List.mem_cons.1 e with e | e
      · have := h.new.1; omega
      · have := h.new.2 x e; omega
  · obtain ⟨h1, h2, h3⟩ := h.keep x hx
    exact k2.block x h1 (by simp [h2, h3])
theorem BI.same {w : World} {B : List Nat} {r : Nat} {O : List Nat} {bs : List UInt8} {wr w2 : World} (h : BI w B r O bs wr) (k : Fr [] wr w2) : BI w B r O bs w2 :=
  ⟨h.at'.kept k (by simp) (by simp), fun x hx => let ⟨h1, h2⟩ := h.keep x hx; ⟨Nat.lt_of_lt_of_le h1 k.size, h2⟩, h.new, h.fr.trans k (fun _ _ e => e.elim id id)⟩
theorem BI.more {w : World} {B : List Nat} {r : Nat} {O : List Nat} {bs : List UInt8} {wr : World} (h : BI w B r O bs wr) (o : Obj) : BI w (wr.heap.size :: B) r O bs (wr.alloc o) := by
  have h' := h.same ((Fr.refl [] wr).alloc o)
  have hl := h.at'.lt
  refine ⟨h'.at', fun x hx => ?_, h'.new, h'.fr⟩
  rcases List.mem_cons.1 hx with e | e
  · subst e
    exact ⟨by simp, by omega, fun e => by have := hl.2 _ e; omega⟩
  · exact h'.keep x e
theorem BI.less {w : World} {B B' : List Nat} {r : Nat} {O : List Nat} {bs : List UInt8} {wr : World} (h : BI w B r O bs wr) (hB : ∀ x ∈ B', x ∈ B) : BI w B' r O bs wr :=
  ⟨h.at', fun x hx => h.keep x (hB x hx), h.new, h.fr⟩
/-- the bytes' cell, for the walk -/
theorem BI.cell {w : World} {B : List Nat} {r : Nat} {O : List Nat} {bs : List UInt8} {wr : World} (h : BI w B r O bs wr) : ∃ a cap, wr.cell? ⟨r, 0, none⟩ = some (.slice a bs.length cap) ∧ Own wr 5 1 (.slice a bs.length cap) bs.length (bc bs) ∧ own (.slice a bs.length cap) = O := by
  obtain ⟨v, h1, h2, h3, h4⟩ := h.at'
  obtain ⟨a, c, rfl, _, _⟩ := h2.shape
  exact ⟨a, c, h1.cell 0, h2, h3⟩

/-- What Build hands back. -/
def BuiltTo (m : SMsg) (w : World) (e : Ending) (w' : World) : Prop :=
  (∃ bs v, m.build = some bs ∧ e = .returned (.tuple #[v, .int .i64 0]) ∧ NewB w v bs w') ∨ (m.build = none ∧ e = .returned (.tuple #[.slice none 0 0, .int .i64 1]) ∧ Fr [] w w')
attribute [local go_sem] msgC_0 msgC_1 msgC_14 msgC_size

set_option maxHeartbeats 800000 in
theorem stunBuild_calls (c m : Int) (f : Nat → UInt8) (s : Value) (xs : List (Int × List UInt8)) (w : World) (h : AttrsAt w s xs) (hu : ∀ a ∈ xs, 0 ≤ a.1 ∧ a.1 < 65536) :
    Calls Try.prog 11 #[.agg (msgC c m f s)] w (BuiltTo ⟨c, m, idL f, xs⟩ w) := by
  have H := Lib.hid h; have HU := Lib.hid hu
  clear h hu
  go_enter Try.func11, Try.ntmps11
  go_wp2_with (refine wpList_load_row rfl 34 _ rfl _ rfl 34 _ (0, 0) _ (Blk.new w (msgC c m f s) 34).heap Try.underlying34 rfl (by kernel_rfl) ?_)
  have hF0 : Fr [] w (w.alloc (.cells (msgC c m f s) 34)) := (Fr.refl _ _).alloc _
  have hB0 := Blk.new w (msgC c m f s) 34
  refine (good_calls c m f s xs _ (H.out.fr hF0)).mono ?_
  rintro e w1 ⟨rfl, hF⟩
  have hB1 := hF.blk hB0 (by simp)
  have hF1 := hF0.trans (T := []) hF (by simp)
  clear hF hF0 hB0
  cases hg : SMsg.good ⟨c, m, idL f, xs⟩ with
  | false =>
    have Z := Lib.hid (And.intro hg hF1)
    clear hg hF1 hB1
    go_wp2_with fail
    go_ret2
    exact .inr ⟨by have := Z.out.1; simp [SMsg.build, this], rfl, Z.out.2⟩
  | true =>
    have hg' := hg
    simp only [SMsg.good, Bool.and_eq_true, decide_eq_true_eq, List.all_eq_true] at hg'
    obtain ⟨⟨⟨⟨⟨hc0, hc3⟩, hm0⟩, hm1⟩, hn16⟩, hall⟩ := hg'
    have G := Lib.hid hg
    have HA := Lib.hid hall
    have hr := hF1.size
    have BI0 : BI w [w.heap.size] w1.heap.size [] [] (w1.alloc (.cells #[.slice none 0 0] 69)) := by
      have hl := hB1.lt
      refine ⟨⟨_, Blk.new _ _ _, Own.nil _ _ _, rfl, by simp⟩, fun x hx => ?_, ⟨hr, by simp⟩, hF1.alloc _⟩
      simp at hx; subst hx
      simp; omega
    have hBm := hB1.alloc' (.cells #[.slice none 0 0] 69)
    have Z1 := Lib.hid BI0; have Z2 := Lib.hid hBm; have Z3 := Lib.hid hB1
    have c0 := hBm.cell 0
    have c1 := hBm.cell 1
    rw [msgC_0] at c0; rw [msgC_1] at c1
    clear hg hall BI0 hBm hB1 hF1
    go_wp2_with fail
    go_quiet (fail)
    go_wp2_with fail
    have hk := kindOf_lt c m hc0 hc3 hm0 hm1
    have hk2 := kindBits_eq c m hc0 hc3 hm0 hm1
    unfold kindBits at hk2
    rw [hk2]
    have BI1 := Z1.out.same ((Fr.refl [] _).drewN nq)
    have hBm := Z2.out.drewN nq
    generalize hw : (w1.alloc (.cells #[.slice none 0 0] 69)).drewN nq = w2 at *
    have KN := Lib.hid (And.intro hc0 (And.intro hc3 (And.intro hm0 hm1)))
    clear hw hk2 c0 c1 Z1 Z2 Z3 hc0 hc3 hm0 hm1
    -- kind
    refine (wu16_calls w1.heap.size [] [] (kindOf c m) w2 BI1.at' (by simp) hk.1 hk.2).mono ?_
    rintro e w3 ⟨rfl, hW⟩
    obtain ⟨⟨O3, BI3⟩, hkp⟩ := BI1.step hW
    have hBm3 : Blk w3 w.heap.size (msgC c m f s) 34 := (hkp w.heap.size (by simp)).trans hBm
    have Z1 := Lib.hid BI3; have Z2 := Lib.hid hBm3
    clear hW hkp hBm BI1 BI3 hBm3 hk
    go_wp2_with fail
    refine (wu16_calls w1.heap.size O3 _ 0 w3 Z1.out.at' (by simp) (by decide) (by decide)).mono ?_
    rintro e w4 ⟨rfl, hW⟩
    obtain ⟨⟨O4, BI4⟩, hkp⟩ := Z1.out.step hW
    have hBm4 : Blk w4 w.heap.size (msgC c m f s) 34 := (hkp w.heap.size (by simp)).trans Z2.out
    clear Z1 Z2
    have Z1 := Lib.hid BI4; have Z2 := Lib.hid hBm4
    clear hW hkp BI4 hBm4
    go_wp2_with fail
    refine (wu32_calls w1.heap.size O4 _ 554869826 w4 Z1.out.at' (by simp) (by decide) (by decide)).mono ?_
    rintro e w5 ⟨rfl, hW⟩
    obtain ⟨⟨O5, BI5⟩, hkp⟩ := Z1.out.step hW
    have hBm5 : Blk w5 w.heap.size (msgC c m f s) 34 := (hkp w.heap.size (by simp)).trans Z2.out
    clear Z1 Z2
    have Z1 := Lib.hid BI5; have Z2 := Lib.hid hBm5
    clear hW hkp BI5 hBm5
    go_wp2_with fail
    have hid := id_rd Z2.out
    refine (wbytes_calls w1.heap.size O5 _ _ (idL f) w5 Z1.out.at' hid (by simp) (by simp)).mono ?_
    rintro e w6 ⟨rfl, hW⟩
    obtain ⟨⟨O6, BI6⟩, hkp⟩ := Z1.out.step hW
    have hBm6 : Blk w6 w.heap.size (msgC c m f s) 34 := (hkp w.heap.size (by simp)).trans Z2.out
    obtain ⟨sa, scap, rfl, q1, q2, q3⟩ := H.out.shape
    have hsm : scap ≤ 9223372036854775807 := by simp only [maxLen] at q2; omega
    have c14 := hBm6.cell 14
    rw [msgC_14] at c14
    clear Z1 Z2
    obtain ⟨hd, hhd⟩ : ∃ hd, hd = two (kindOf c m) ++ two 0 ++ magicB ++ idL f := ⟨_, rfl⟩
    have BI6' : BI w [w.heap.size] w1.heap.size O6 hd w6 := by rw [hhd]; simpa [magicB] using BI6
    have hl20 : hd.length = 20 := by simp [hhd, magicB]
    have Z1 := Lib.hid BI6'; have Z2 := Lib.hid hBm6; have Z3 := Lib.hid hhd; have Z4 := Lib.hid q3; have Z5 := Lib.hid hl20
    clear hW hkp BI6 hBm6 hid BI6' hhd q3 hl20
    go_wp2_with fail
    go_loopw [44] (fun i wr => ∃ j : Nat, j ≤ xs.length ∧ i = .int .i64 j ∧ BIx w [w.heap.size] w1.heap.size (bodyFrom hd (xs.take j)) wr) (fun i _ => xs.length - (intOf i).toNat)
    case atStart => exact ⟨0, Nat.zero_le _, rfl, O6, Z1.out⟩
    case round =>
      obtain ⟨j, hj, rfl, O, BIr⟩ := hrel
      by_cases hlt : j < xs.length
      · obtain ⟨b, rfl⟩ : ∃ b, sa = some b := by
          cases sa with
          | none => have := Z4.out rfl; omega
          | some b => exact ⟨b, rfl⟩
        obtain ⟨x, hx⟩ : ∃ x, xs[j] = x := ⟨_, rfl⟩
        obtain ⟨sx, sc, g0', g1', gR, g3, g4⟩ := H.out.get j x (by simp [hlt, hx])
        have g0 : wr.cell? (b.add (j * 2)) = some (.int .u16 x.1) := by
          rw [BIr.fr.cell (World.block_lt_of_cell? w _ g0') (by simp)]; exact g0'
        have g1 : wr.cell? ⟨(b.add (j * 2)).block, (b.add (j * 2)).off + 1, none⟩ = some (.slice sx x.2.length sc) := by
          rw [BIr.fr.cell (World.block_lt_of_cell? w _ g1') (by simp)]; exact g1'
        have hx512 := HA.out x (by rw [← hx]; exact List.getElem_mem _)
        obtain ⟨bs, hbs⟩ : ∃ bs, bs = bodyFrom hd (xs.take j) := ⟨_, rfl⟩
        have hbl : bs.length ≤ 20 + 520 * 16 := by
          have := bodyFrom_le (xs.take j) hd (fun a ha => HA.out a (List.mem_of_mem_take ha))
          rw [← hbs, Z5.out, List.length_take] at this
          have : min j xs.length ≤ 16 := by omega
          omega
        have hnext : bodyFrom hd (xs.take (j + 1)) = pad4 (bs ++ attrB x) := by
          rw [List.take_succ_eq_append_getElem hlt, bodyFrom_snoc, ← hbs, hx]
        rw [← hbs] at BIr
        have BIq := BIr.more (.cells #[.int .u16 x.1, .slice sx x.2.length sc] 73)
        have hBq := Blk.new wr #[.int .u16 x.1, .slice sx x.2.length sc] 73
        have Y1 := Lib.hid BIq; have Y2 := Lib.hid hBq; have Y3 := Lib.hid gR; have Y4 := Lib.hid hnext; have Y5 := Lib.hid hx
        clear BIr hbs hnext BIq hBq gR hx g0' g1'
        have hji : (j : Int) < xs.length := by omega
        go_wp2_with fail
        have hx1 := HU.out x (by rw [← Y5.out]; exact List.getElem_mem _)
        refine (wu16_calls w1.heap.size O bs x.1 _ Y1.out.at' (by omega) hx1.1 hx1.2).mono ?_
        rintro e w7 ⟨rfl, hW⟩
        obtain ⟨⟨O7, BI7⟩, hkp⟩ := Y1.out.step hW
        have hB7 : Blk w7 wr.heap.size _ 73 := (hkp wr.heap.size (by simp)).trans Y2.out
        have d1 := hB7.cell 1
        have X1 := Lib.hid BI7; have X2 := Lib.hid hB7
        clear hW hkp BI7 hB7 Y2 g0 g1
        go_wp2_with fail
        refine (wu16_calls w1.heap.size O7 _ (x.2.length : Int) _ X1.out.at' (by simp; omega) (by omega) (by omega)).mono ?_
        rintro e w8 ⟨rfl, hW⟩
        obtain ⟨⟨O8, BI8⟩, hkp⟩ := X1.out.step hW
        have hB8 : Blk w8 wr.heap.size _ 73 := (hkp wr.heap.size (by simp)).trans X2.out
        clear d1 X1 X2
        have d1 := hB8.cell 1
        have X1 := Lib.hid BI8; have X2 := Lib.hid hB8
        clear hW hkp BI8 hB8
        go_wp2_with fail
        refine (wbytes_calls w1.heap.size O8 _ _ x.2 _ X1.out.at' (Y3.out.kept X1.out.fr (by simp)) (by simp; omega) (by omega)).mono ?_
        rintro e w9 ⟨rfl, hW⟩
        obtain ⟨⟨O9, BI9⟩, hkp⟩ := X1.out.step hW
        clear d1 X1 X2
        have X1 := Lib.hid BI9
        clear hW hkp BI9
        go_wp2_with fail
        refine (weven_calls w1.heap.size O9 _ _ X1.out.at' (by simp; omega)).mono ?_
        rintro e w10 ⟨rfl, hW⟩
        obtain ⟨⟨O10, BI10⟩, hkp⟩ := X1.out.step hW
        have X2 := Lib.hid (show BIx w [w.heap.size] w1.heap.size (bodyFrom hd (xs.take (j + 1))) w10 from ⟨O10, by
          rw [Y4.out]
          have := BI10.less (B' := [w.heap.size]) (by simp)
          simpa [attrB] using this⟩)
        clear X1 hW hkp BI10
        go_wp2_with fail
        refine ⟨⟨j + 1, by omega, by simp, X2.out⟩, by simp [intOf]; omega⟩
      · obtain rfl : j = xs.length := by omega
        rw [List.take_length] at BIr
        obtain ⟨ra, rc, e1, hO, hown⟩ := BIr.cell
        obtain ⟨bs, hbs⟩ : ∃ bs, bs = bodyFrom hd xs := ⟨_, rfl⟩
        rw [← hbs] at BIr e1 hO hown
        have Y1 := Lib.hid BIr; have Y2 := Lib.hid hO; have Y3 := Lib.hid hbs; have Y4 := Lib.hid hown
        clear BIr hO hbs hown
        go_wp2_with fail
        · rename_i hgt
          have X := Lib.hid (And.intro Y1.out.fr hgt)
          clear hgt
          go_ret2
          have hD : bs = SMsg.draft ⟨c, m, idL f, xs⟩ := by rw [Y3.out, Z3.out]; rfl
          have hL := draft_length ⟨c, m, idL f, xs⟩ rfl
          refine .inr ⟨?_, rfl, X.out.1⟩
          have hx := X.out.2
          rw [SMsg.build, if_neg]
          rintro ⟨_, h⟩
          rw [← hL, ← hD] at h
          omega
        · have hle : bs.length ≤ 1500 := by omega
          have hD : bs = SMsg.draft ⟨c, m, idL f, xs⟩ := by rw [Y3.out, Z3.out]; rfl
          have hL := draft_length ⟨c, m, idL f, xs⟩ rfl
          have h20 : 20 ≤ bs.length := by rw [hD, hL]; simp [SMsg.whole, magicB]; omega
          obtain ⟨g, off, cap, hv, p1, p2⟩ := Y2.out.pos (by omega)
          cases hv
          have X := Lib.hid (And.intro hD hL)
          have hrO : w1.heap.size ≠ g := by
            obtain ⟨v, _, _, _, h⟩ := Y1.out.at'
            intro e
            apply h
            rw [← Y4.out]
            simp [own, e]
          have hge := Y1.out.new.2 g (by rw [← Y4.out]; simp [own])
          have hO := Y2.out
          clear hD hL
          refine (size_calls g off rc bs (bs.length : Int) wr hO (by omega) (by omega) (by omega)).mono ?_
          rintro e w2' ⟨rfl, hO2, hF2⟩
          have e2 : w2'.cell? ⟨w1.heap.size, 0, none⟩ = some (.slice (some ⟨g, off, none⟩) bs.length rc) := by
            rw [hF2.cell (World.block_lt_of_cell? wr _ e1) (by simpa using hrO)]; exact e1
          have V := Lib.hid (And.intro hO2 hF2)
          clear hO2 hF2 e1 hO
          go_wp2_with fail
          go_ret2
          obtain ⟨hO2, hF2⟩ := V.out
          obtain ⟨hD, hL⟩ := X.out
          have hS := draft_set ⟨c, m, idL f, xs⟩ rfl
          rw [← hD] at hS hL
          rw [hS] at hO2
          refine .inl ⟨SMsg.whole ⟨c, m, idL f, xs⟩, _, ?_, rfl, ?_, Y1.out.fr.trans hF2 (fun x hx h => ?_), ?_⟩
          · rw [SMsg.build, if_pos]
            exact ⟨G.out, by omega⟩
          · rw [hL] at hO2
            rw [hL]
            exact hO2
          · rcases h with h | h
            · exact h
            · simp at h; omega
          · simp [own]; exact hge
end Go.Proofs.Ytggammbhmoippaa
