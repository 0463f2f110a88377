/- Contracts of the writer's methods. -/
import Derived.Test.YtggammbhmoippaaChecked
import Derived.Test.YtggammbhmoippaaStunPure
import Derived.WalkLawsBesides
import Derived.WalkSpells
import Derived.Handy
import Derived.Deep.LoopGhost
namespace Go.Proofs.Ytggammbhmoippaa
set_option linter.unusedVariables false
open Go.ChangeShapes Go.WideShapes Go.ChangeAt Go.RowKit

theorem eltW : Elt Try.prog 69 5 1 1 (.int .u8 0) := ⟨Try.underlying69, by kernel_rfl, rfl, by decide, by simp [Value.cells, Value.oneCell']⟩

theorem bc_one1 (n : Int) (h0 : 0 ≤ n) (h1 : n < 256) : bc [b8 n] = [.int .u8 n] := by
  simp only [bc, List.map_cons, List.map_nil, b8_val]
  rw [Int.emod_eq_of_lt h0 h1]
theorem bc_two16 (n : Int) (h0 : 0 ≤ n) (h1 : n < 65536) : bc (two n) = [.int .u8 (n / 256), .int .u8 (n % 256)] := by
  rw [bc_two, show n / 256 % 256 = n / 256 from by omega]
theorem bc_four32 (n : Int) (h0 : 0 ≤ n) (h1 : n < 4294967296) : bc (four n) = [.int .u8 (n / 16777216), .int .u8 (n / 65536 % 256), .int .u8 (n / 256 % 256), .int .u8 (n % 256)] := by
  rw [bc_four, show n / 16777216 % 256 = n / 16777216 from by omega]
/-- A writer: a variable in block b that holds a slice of its own, with these bytes, in the blocks O. -/
def WrAt (w : World) (b : Nat) (O : List Nat) (bs : List UInt8) : Prop := ∃ v, Blk w b #[v] 69 ∧ Own w 5 1 v bs.length (bc bs) ∧ own v = O ∧ b ∉ O
/-- .. what a write leaves -/
def WrTo (b : Nat) (O : List Nat) (bs : List UInt8) (w w' : World) : Prop := ∃ O', WrAt w' b O' bs ∧ Fr (b :: O) w w' ∧ (∀ k ∈ O', k ∈ O ∨ w.heap.size ≤ k)
theorem WrAt.kept {w w' : World} {b : Nat} {O S : List Nat} {bs : List UInt8} (h : WrAt w b O bs) (hf : Fr S w w') (hb : b ∉ S) (hO : ∀ k ∈ O, k ∉ S) : WrAt w' b O bs := by
  obtain ⟨v, h1, h2, rfl, h4⟩ := h
  exact ⟨v, hf.blk h1 hb, h2.kept hf hO, rfl, h4⟩
theorem WrAt.lt {w : World} {b : Nat} {O : List Nat} {bs : List UInt8} (h : WrAt w b O bs) : b < w.heap.size ∧ ∀ k ∈ O, k < w.heap.size := by
  obtain ⟨v, h1, h2, rfl, h4⟩ := h
  exact ⟨h1.lt, h2.lt⟩
theorem WrTo.refl {w : World} {b : Nat} {O : List Nat} {bs : List UInt8} (h : WrAt w b O bs) : WrTo b O bs w w := ⟨O, h, Fr.refl _ _, fun _ h => .inl h⟩
theorem WrTo.trans {w w1 w2 : World} {b : Nat} {O O1 : List Nat} {bs : List UInt8} (hf : Fr (b :: O) w w1) (hO : ∀ k ∈ O1, k ∈ O ∨ w.heap.size ≤ k) (h : WrTo b O1 bs w1 w2) : WrTo b O bs w w2 := by
  obtain ⟨O2, h1, h2, h3⟩ := h
  refine ⟨O2, h1, hf.trans h2 (fun x hx h => h.elim id (fun h => ?_)), fun k hk => ?_⟩
  · rcases List.mem_cons.1 h with e | e
    · simp [e]
    · rcases hO x e with e | e
      · exact List.mem_cons_of_mem _ e
      · omega
  · rcases h3 k hk with e | e
    · exact hO k e
    · exact .inr (Nat.le_trans hf.size e)

/-- the step behind the append, for all of the writer's methods -/
theorem WrAt.put {w w1 : World} {b : Nat} {bs news : List UInt8} {v v' : Value} {o : Obj} {m : Nat} (hB : Blk w b #[v] 69) (hb : b ∉ own v) (hm : m = news.length)
    (ho : Own w1 5 1 v' (bs.length + m) (bc bs ++ bc news)) (hf : Fr (own v) (w.alloc o) w1) (hw : ∀ k ∈ own v', k ∈ own v ∨ w.heap.size + 1 ≤ k) :
    WrTo b (own v) (bs ++ news) w (w1.setCell ⟨b, 0, none⟩ v') := by
  subst hm
  have hlt := hB.lt
  have hA : Fr [] w (w.alloc o) := (Fr.refl _ _).alloc _
  have hb' : b ∉ own v' := fun e => (hw b e).elim hb (fun e => by omega)
  have hS : Fr [b] w1 (w1.setCell ⟨b, 0, none⟩ v') := (Fr.refl _ _).set (by simp) _
  have hF : Fr (own v) w w1 := hA.trans hf (fun k _ h => h.elim (fun h => by cases h) id)
  refine ⟨own v', ⟨v', (hF.blk hB hb).set 0 v', ?_, rfl, hb'⟩, hF.trans hS (fun k _ h => h.elim (fun h => List.mem_cons_of_mem _ h) (fun h => by simp at h; simp [h])), fun k hk => (hw k hk).imp id (fun e => by omega)⟩
  have := ho.kept hS (fun k hk e => by simp at e; subst e; exact hb' hk)
  simpa using this
theorem WrAt.put0 {w w1 : World} {b : Nat} {bs news : List UInt8} {v v' : Value} (hB : Blk w b #[v] 69) (hb : b ∉ own v)
    (ho : Own w1 5 1 v' (bs.length + news.length) (bc bs ++ bc news)) (hf : Fr (own v) w w1) (hw : ∀ k ∈ own v', k ∈ own v ∨ w.heap.size ≤ k) :
    WrTo b (own v) (bs ++ news) w (w1.setCell ⟨b, 0, none⟩ v') := by
  have hlt := hB.lt
  have hb' : b ∉ own v' := fun e => (hw b e).elim hb (fun e => by omega)
  have hS : Fr [b] w1 (w1.setCell ⟨b, 0, none⟩ v') := (Fr.refl _ _).set (by simp) _
  refine ⟨own v', ⟨v', (hf.blk hB hb).set 0 v', ?_, rfl, hb'⟩, hf.trans hS (fun k _ h => h.elim (fun h => List.mem_cons_of_mem _ h) (fun h => by simp at h; simp [h])), hw⟩
  have := ho.kept hS (fun k hk e => by simp at e; subst e; exact hb' hk)
  simpa using this

set_option maxHeartbeats 400000 in
theorem wu16_calls (b : Nat) (O : List Nat) (bs : List UInt8) (n : Int) (w : World) (h : WrAt w b O bs) (hn : bs.length ≤ 1000000) (h0 : 0 ≤ n) (h1 : n < 65536) :
    Calls Try.prog 33 #[.pointer (some ⟨b, 0, none⟩), .int .u16 n] w fun e w' => e = .returned (.tuple #[]) ∧ WrTo b O (bs ++ two n) w w' := by
  obtain ⟨v, hB, hO, rfl, hb⟩ := h
  have c0 : w.cell? ⟨b, 0, none⟩ = some v := hB.cell 0
  have f0 := hB.frozen 0
  have hlt := hB.lt
  have hnew := Own.new w 5 1 2 (bc (two n)).toArray rfl (by simpa using bc_one (two n)) (by simp [maxLen])
  simp only [bc_two16 n h0 h1] at hnew
  have QA := Lib.hid (hO.alloc (.cells #[.int .u8 (n / 256), .int .u8 (n % 256)] 5))
  have QB := Lib.hid (hnew.rd.src (P := Try.prog) Try.underlying69)
  have QC := Lib.hid (show bs.length + 2 ≤ maxLen by simp only [maxLen]; omega)
  have QD := Lib.hid (show (bs.length + 2) * 1 ≤ 140737488355328 by omega)
  have HB := Lib.hid hB; have Hb := Lib.hid hb
  clear hB hO hnew hb
  go_enter Try.func33, Try.ntmps33
  go_wp2_with (at_builtin; refine wpList_app rfl _ _ 69 69 rfl eltW QA.out rfl QB.out QC.out QD.out ?_)
  intro v' w1 ho hf hw _
  obtain ⟨g, off, c', rfl, _, _⟩ := ho.pos (by omega)
  have hB1 := hf.blk (HB.out.alloc' _) Hb.out
  have g0 : w1.cell? ⟨b, 0, none⟩ = some v := hB1.cell 0
  have g1 := hB1.frozen 0
  have Z1 := Lib.hid ho; have Z2 := Lib.hid hf; have Z3 := Lib.hid hw
  clear ho hf hw hB1 c0 f0
  go_wp2_with fail
  go_end0
  exact ⟨rfl, WrAt.put (news := two n) (m := 2) HB.out Hb.out rfl (by simpa only [bc_two16 n h0 h1] using Z1.out) Z2.out Z3.out⟩

set_option maxHeartbeats 400000 in
theorem wu32_calls (b : Nat) (O : List Nat) (bs : List UInt8) (n : Int) (w : World) (h : WrAt w b O bs) (hn : bs.length ≤ 1000000) (h0 : 0 ≤ n) (h1 : n < 4294967296) :
    Calls Try.prog 34 #[.pointer (some ⟨b, 0, none⟩), .int .u32 n] w fun e w' => e = .returned (.tuple #[]) ∧ WrTo b O (bs ++ four n) w w' := by
  obtain ⟨v, hB, hO, rfl, hb⟩ := h
  have c0 : w.cell? ⟨b, 0, none⟩ = some v := hB.cell 0
  have f0 := hB.frozen 0
  have hlt := hB.lt
  have hnew := Own.new w 5 1 4 (bc (four n)).toArray rfl (by simpa using bc_one (four n)) (by simp [maxLen])
  simp only [bc_four32 n h0 h1] at hnew
  have QA := Lib.hid (hO.alloc (.cells #[.int .u8 (n / 16777216), .int .u8 (n / 65536 % 256), .int .u8 (n / 256 % 256), .int .u8 (n % 256)] 5))
  have QB := Lib.hid (hnew.rd.src (P := Try.prog) Try.underlying69)
  have QC := Lib.hid (show bs.length + 4 ≤ maxLen by simp only [maxLen]; omega)
  have QD := Lib.hid (show (bs.length + 4) * 1 ≤ 140737488355328 by omega)
  have HB := Lib.hid hB; have Hb := Lib.hid hb
  clear hB hO hnew hb
  go_enter Try.func34, Try.ntmps34
  go_wp2_with (at_builtin; refine wpList_app rfl _ _ 69 69 rfl eltW QA.out rfl QB.out QC.out QD.out ?_)
  intro v' w1 ho hf hw _
  obtain ⟨g, off, c', rfl, _, _⟩ := ho.pos (by omega)
  have hB1 := hf.blk (HB.out.alloc' _) Hb.out
  have g0 : w1.cell? ⟨b, 0, none⟩ = some v := hB1.cell 0
  have g1 := hB1.frozen 0
  have Z1 := Lib.hid ho; have Z2 := Lib.hid hf; have Z3 := Lib.hid hw
  clear ho hf hw hB1 c0 f0
  go_wp2_with fail
  go_end0
  exact ⟨rfl, WrAt.put (news := four n) (m := 4) HB.out Hb.out rfl (by simpa only [bc_four32 n h0 h1] using Z1.out) Z2.out Z3.out⟩

set_option maxHeartbeats 400000 in
theorem wu8_calls (b : Nat) (O : List Nat) (bs : List UInt8) (n : Int) (w : World) (h : WrAt w b O bs) (hn : bs.length ≤ 1000000) (h0 : 0 ≤ n) (h1 : n < 256) :
    Calls Try.prog 54 #[.pointer (some ⟨b, 0, none⟩), .int .u8 n] w fun e w' => e = .returned (.tuple #[]) ∧ WrTo b O (bs ++ [b8 n]) w w' := by
  obtain ⟨v, hB, hO, rfl, hb⟩ := h
  have c0 : w.cell? ⟨b, 0, none⟩ = some v := hB.cell 0
  have f0 := hB.frozen 0
  have hlt := hB.lt
  have hnew := Own.new w 5 1 1 (bc ([b8 n])).toArray rfl (by simpa using bc_one ([b8 n])) (by simp [maxLen])
  simp only [bc_one1 n h0 h1] at hnew
  have QA := Lib.hid (hO.alloc (.cells #[.int .u8 n] 5))
  have QB := Lib.hid (hnew.rd.src (P := Try.prog) Try.underlying69)
  have QC := Lib.hid (show bs.length + 1 ≤ maxLen by simp only [maxLen]; omega)
  have QD := Lib.hid (show (bs.length + 1) * 1 ≤ 140737488355328 by omega)
  have HB := Lib.hid hB; have Hb := Lib.hid hb
  clear hB hO hnew hb
  go_enter Try.func54, Try.ntmps54
  go_wp2_with (at_builtin; refine wpList_app rfl _ _ 69 69 rfl eltW QA.out rfl QB.out QC.out QD.out ?_)
  intro v' w1 ho hf hw _
  obtain ⟨g, off, c', rfl, _, _⟩ := ho.pos (by omega)
  have hB1 := hf.blk (HB.out.alloc' _) Hb.out
  have g0 : w1.cell? ⟨b, 0, none⟩ = some v := hB1.cell 0
  have g1 := hB1.frozen 0
  have Z1 := Lib.hid ho; have Z2 := Lib.hid hf; have Z3 := Lib.hid hw
  clear ho hf hw hB1 c0 f0
  go_wp2_with fail
  go_end0
  exact ⟨rfl, WrAt.put (news := [b8 n]) (m := 1) HB.out Hb.out rfl (by simpa only [bc_one1 n h0 h1] using Z1.out) Z2.out Z3.out⟩

set_option maxHeartbeats 400000 in
theorem wbytes_calls (b : Nat) (O : List Nat) (bs : List UInt8) (x : Value) (xs : List UInt8) (w : World) (h : WrAt w b O bs) (hx : Rd w 1 x xs.length (bc xs)) (hn : bs.length ≤ 1000000) (h1 : xs.length ≤ 1000000) :
    Calls Try.prog 35 #[.pointer (some ⟨b, 0, none⟩), x] w fun e w' => e = .returned (.tuple #[]) ∧ WrTo b O (bs ++ xs) w w' := by
  obtain ⟨v, hB, hO, rfl, hb⟩ := h
  have c0 : w.cell? ⟨b, 0, none⟩ = some v := hB.cell 0
  have f0 := hB.frozen 0
  have hlt := hB.lt
  have QA := Lib.hid hO
  have QB := Lib.hid (hx.src (P := Try.prog) Try.underlying27)
  have QC := Lib.hid (show bs.length + xs.length ≤ maxLen by simp only [maxLen]; omega)
  have QD := Lib.hid (show (bs.length + xs.length) * 1 ≤ 140737488355328 by omega)
  have HB := Lib.hid hB; have Hb := Lib.hid hb
  clear hB hO hb hx
  go_enter Try.func35, Try.ntmps35
  go_wp2_with (at_builtin; refine wpList_app rfl _ _ 69 27 rfl eltW QA.out rfl QB.out QC.out QD.out ?_)
  intro v' w1 ho hf hw _
  obtain ⟨a', c', rfl, _, _⟩ := ho.shape
  have hB1 := hf.blk HB.out Hb.out
  have g0 : w1.cell? ⟨b, 0, none⟩ = some v := hB1.cell 0
  have g1 := hB1.frozen 0
  have Z1 := Lib.hid ho; have Z2 := Lib.hid hf; have Z3 := Lib.hid hw
  clear ho hf hw hB1 c0 f0
  go_wp2_with fail
  go_end0
  exact ⟨rfl, WrAt.put0 (news := xs) HB.out Hb.out Z1.out Z2.out Z3.out⟩

/-- Even, with j noughts put and k to put -/
def EvenInv (b : Nat) (O : List Nat) (bs : List UInt8) (w : World) (k : Nat) (wr : World) : Prop :=
  ∃ bs1 O1, WrAt wr b O1 bs1 ∧ Fr (b :: O) w wr ∧ (∀ x ∈ O1, x ∈ O ∨ w.heap.size ≤ x) ∧ pad4 bs1 = pad4 bs ∧ (4 - bs1.length % 4) % 4 = k ∧ bs1.length + k ≤ bs.length + 3
set_option maxHeartbeats 400000 in
theorem weven_calls (b : Nat) (O : List Nat) (bs : List UInt8) (w : World) (h : WrAt w b O bs) (hn : bs.length ≤ 900000) :
    Calls Try.prog 36 #[.pointer (some ⟨b, 0, none⟩)] w fun e w' => e = .returned (.tuple #[]) ∧ WrTo b O (pad4 bs) w w' := by
  have H := Lib.hid h
  clear h
  go_enter Try.func36, Try.ntmps36
  go_wp2_with fail
  go_loopg [] ((4 - bs.length % 4) % 4) (fun k wr => EvenInv b O bs w k wr)
  case atStart => exact ⟨bs, O, H.out, Fr.refl _ _, fun x hx => .inl hx, rfl, rfl, by omega⟩
  case round =>
    obtain ⟨bs1, O1, hW, hF, hO, hp, hk, hl⟩ := hrel
    obtain ⟨v, hB, hv, hov, hb⟩ := hW
    obtain ⟨a', c', rfl, q1, q2⟩ := hv.shape
    have c0 := hB.cell 0
    have f0 := hB.frozen 0
    have K := Lib.hid (And.intro hp (And.intro hk hl))
    have KF := Lib.hid hF
    have KO := Lib.hid hO
    have KW := Lib.hid (show WrAt wr b O1 bs1 from ⟨_, hB, hv, hov, hb⟩)
    clear hp hk hl hF hO hB hv hov hb
    go_wp2_with fail
    · rename_i hc _ _
      obtain ⟨hp, hk, hl⟩ := K.out
      have hc' : bs1.length % 4 ≠ 0 := by
        intro e
        simp only [bne_iff_ne, ne_eq] at hc
        omega
      refine (wu8_calls b O1 bs1 0 wr KW.out (by omega) (by decide) (by decide)).mono ?_
      rintro e w' ⟨rfl, O2, h1, h2, h3⟩
      have N := Lib.hid (show EvenInv b O bs w (gk - 1) w' from ⟨bs1 ++ [b8 0], O2, h1, KF.out.trans h2 (fun x hx h => h.elim id (fun h => by
          rcases List.mem_cons.1 h with e | e
          · simp [e]
          · rcases KO.out x e with e | e
            · exact List.mem_cons_of_mem _ e
            · omega)), fun x hx => by
          rcases h3 x hx with e | e
          · exact KO.out x e
          · exact .inr (Nat.le_trans KF.out.size e), by rw [show b8 0 = (0 : UInt8) from rfl, pad4_step _ hc', hp], by simp; omega, by simp; omega⟩)
      have hg : 0 < gk := by omega
      clear h1 h2 h3 hp hk hl hc hc'
      go_wp2_with fail
      go_roundg (gk - 1)
      case measure => omega
      case rel => exact N.out
    · rename_i hc
      obtain ⟨hp, hk, hl⟩ := K.out
      have hc' : bs1.length % 4 = 0 := by
        simp only [bne_eq_false_iff_eq] at hc
        omega
      have N := Lib.hid (show WrTo b O (pad4 bs) w wr from ⟨O1, by rw [← hp, pad4_done _ hc']; exact KW.out, KF.out, KO.out⟩)
      clear hp hk hl hc hc'
      go_end0
      exact ⟨rfl, N.out⟩
end Go.Proofs.Ytggammbhmoippaa
