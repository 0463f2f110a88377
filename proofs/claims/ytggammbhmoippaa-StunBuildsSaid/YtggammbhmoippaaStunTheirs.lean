/- rostrumlaw04.theirs. -/
import Derived.Test.YtggammbhmoippaaStunRef
import Derived.Deep.RegionHeld3
import Derived.Deep.MidRow
namespace Go.Proofs.Ytggammbhmoippaa
set_option linter.unusedVariables false
open Go.ChangeShapes Go.WideShapes Go.ChangeAt Go.RowKit
attribute [local go_sem] msgC_0 msgC_1 msgC_2 msgC_3 msgC_4 msgC_5 msgC_6 msgC_7 msgC_8 msgC_9 msgC_10 msgC_11 msgC_12 msgC_13 msgC_14 msgC_size

theorem eltAt : Elt Try.prog 32 73 2 32 (.agg #[.int .u16 0, .slice none 0 0]) := ⟨Try.underlying32, by kernel_rfl, rfl, by decide, by simp [Value.cells, Value.oneCell']⟩

/-- What theirs hands back: the same message, in new memory. -/
def TheirsTo (c m : Int) (f : Nat → UInt8) (xs : List (Int × List UInt8)) (w : World) (e : Ending) (w' : World) : Prop := ∃ s, e = .returned (.agg (msgC c m f s)) ∧ AttrsAt w' s xs ∧ Fr [] w w'

/-- its loop, j attributes done: b3 the new message -/
structure TInv (w : World) (c m : Int) (f : Nat → UInt8) (s0 : Value) (xs : List (Int × List UInt8)) (j : Nat) (wr : World) (ss : List Value) (v : Value) : Prop where
  fr : Fr [] w wr
  b1 : Blk wr w.heap.size (msgC c m f s0) 25
  b2 : ∃ cs, Blk wr (w.heap.size + 1) cs 34 ∧ cs.size = 15
  b3 : Blk wr (w.heap.size + 1 + 1) (msgC c m f v) 34
  len : ss.length = j
  own' : Own wr 73 2 v j (attrCells (xs.take j) ss)
  each : ∀ (i : Nat) (a : Int × List UInt8) (s : Value), xs[i]? = some a → ss[i]? = some s → Rd wr 1 s a.2.length (bc a.2)
  new : ∀ k ∈ own v, w.heap.size + 1 + 1 < k
  apart : ∀ s ∈ ss, ∀ k ∈ own s, w.heap.size + 1 + 1 < k ∧ k ∉ own v ∧ k < wr.heap.size

section
variable {w wr wx : World} {c m : Int} {f : Nat → UInt8} {s0 : Value} {xs : List (Int × List UInt8)} {j : Nat} {ss : List Value} {v : Value}
theorem TInv.lt (hI : TInv w c m f s0 xs j wr ss v) : w.heap.size + 1 + 1 < wr.heap.size := hI.b3.lt
/-- the cells that a round reads, in a world behind -/
theorem TInv.cells (hI : TInv w c m f s0 xs j wr ss v) {S : List Nat} (hf : Fr S wr wx) (hS : ∀ k ∈ S, w.heap.size + 1 + 1 < k) :
    wx.cell? ⟨w.heap.size, 14, none⟩ = some s0 ∧ wx.cell? ⟨w.heap.size + 1 + 1, 14, none⟩ = some v ∧ wx.frozen? ⟨w.heap.size + 1 + 1, 14, none⟩ = false ∧ w.heap.size + 1 + 1 < wx.heap.size ∧
    ∀ a : Addr, a.block < w.heap.size → wx.cell? a = w.cell? a := by
  have h1 := hf.blk hI.b1 (fun e => by have := hS _ e; omega)
  have h3 := hf.blk hI.b3 (fun e => by have := hS _ e; omega)
  refine ⟨h1.cell 14, h3.cell 14, h3.frozen 14, h3.lt, fun a ha => ?_⟩
  rw [hf.cell (Nat.lt_of_lt_of_le ha hI.fr.size) (fun e => by have := hS _ e; omega), hI.fr.cell ha (by simp)]
/-- behind the first append: the new bytes -/
theorem TInv.mid (hI : TInv w c m f s0 xs j wr ss v) {x : Int × List UInt8} {v1 : Value} {w15 : World} (ho : Own w15 5 1 v1 (0 + x.2.length) ([] ++ bc x.2)) (hf : Fr [wr.heap.size] (wr.drew.alloc (.cells #[] 5)) w15)
    (hw' : ∀ k ∈ own v1, k ∈ [wr.heap.size] ∨ (wr.drew.alloc (.cells #[] 5)).heap.size ≤ k) :
    Fr [wr.heap.size] wr w15 ∧ Rd w15 1 v1 x.2.length (bc x.2) ∧ (∀ k ∈ own v1, wr.heap.size ≤ k ∧ k < w15.heap.size) ∧
    Own (w15.alloc (.cells #[.int .u16 x.1, v1] 73)) 73 2 v j (attrCells (xs.take j) ss) ∧
    Src Try.prog 2 32 (.slice (some ⟨w15.heap.size, 0, none⟩) 1 1) 1 [.int .u16 x.1, v1] (w15.alloc (.cells #[.int .u16 x.1, v1] 73)) := by
  have hlt := hI.lt
  have hw : ∀ k ∈ own v1, k ∈ [wr.heap.size] ∨ wr.heap.size + 1 ≤ k := by
    intro k hk; have := hw' k hk; simpa using this
  have hF : Fr [wr.heap.size] wr w15 := ((Fr.refl [] wr).drew.alloc _).trans hf (fun x _ h => h.elim (fun h => by cases h) id)
  have hr : Rd w15 1 v1 x.2.length (bc x.2) := by have := ho.rd; simpa using this
  have h1 := rd_one hr
  refine ⟨hF, hr, fun k hk => ?_, ?_, ?_⟩
  · have := ho.lt k hk
    rcases hw k hk with h | h
    · simp at h; omega
    · omega
  · exact (hI.own'.kept hF (fun k hk e => by have := hI.own'.lt k hk; simp at e; omega)).alloc _
  · exact (Own.new w15 73 2 1 #[.int .u16 x.1, v1] rfl (by intro u hu; simp at hu; rcases hu with rfl | rfl <;> first | rfl | exact h1) (by simp [maxLen])).rd.src Try.underlying32
/-- behind the second append, and the store -/
theorem TInv.next (hI : TInv w c m f s0 xs j wr ss v) {x : Int × List UInt8} (hx : xs[j]? = some x) {v1 v2 : Value} {w15 w18 : World} (hF : Fr [wr.heap.size] wr w15) (hr : Rd w15 1 v1 x.2.length (bc x.2)) (hn : ∀ k ∈ own v1, wr.heap.size ≤ k ∧ k < w15.heap.size)
    (ho : Own w18 73 2 v2 (j + 1) (attrCells (xs.take j) ss ++ [.int .u16 x.1, v1])) (hf : Fr (own v) (w15.alloc (.cells #[.int .u16 x.1, v1] 73)) w18) (hw' : ∀ k ∈ own v2, k ∈ own v ∨ (w15.alloc (.cells #[.int .u16 x.1, v1] 73)).heap.size ≤ k) :
    Fr (wr.heap.size :: own v) wr w18 ∧ TInv w c m f s0 xs (j + 1) (w18.setCell ⟨w.heap.size + 1 + 1, 14, none⟩ v2) (ss ++ [v1]) v2 := by
  have hlt := hI.lt
  have hw : ∀ k ∈ own v2, k ∈ own v ∨ w15.heap.size + 1 ≤ k := by
    intro k hk; have := hw' k hk; simpa using this
  have hov := hI.own'.lt
  have f1 : Fr [wr.heap.size] wr (w15.alloc (.cells #[.int .u16 x.1, v1] 73)) := hF.alloc _
  have f2 : Fr (wr.heap.size :: own v) wr w18 := f1.trans hf (fun k _ h => h.elim (fun h => by simp at h; simp [h]) (fun h => List.mem_cons_of_mem _ h))
  have hS : ∀ k ∈ wr.heap.size :: own v, w.heap.size + 1 + 1 < k := fun k hk => by
    rcases List.mem_cons.1 hk with h | h
    · omega
    · exact hI.new k h
  have h15 := hF.size
  have hv2 : ∀ k ∈ own v2, w.heap.size + 1 + 1 < k := fun k hk => by
    rcases hw k hk with h | h
    · exact hI.new k h
    · omega
  have fs : Fr [w.heap.size + 1 + 1] w18 (w18.setCell ⟨w.heap.size + 1 + 1, 14, none⟩ v2) := (Fr.refl _ _).set (by simp) _
  have hjl : j < xs.length := (List.getElem?_eq_some_iff.1 hx).1
  have hxj : xs[j] = x := (List.getElem?_eq_some_iff.1 hx).2
  refine ⟨f2, ⟨?_, ?_, ?_, ?_, ?_, ?_, ?_, hv2, ?_⟩⟩
  · refine (hI.fr.trans (T := []) f2 (fun k hk h => ?_)).trans (T := []) fs (fun k hk h => ?_)
    · rcases h with h | h
      · exact h
      · have := hS k h; omega
    · rcases h with h | h
      · exact h
      · simp at h; omega
  · exact fs.blk (f2.blk hI.b1 (fun e => by have := hS _ e; omega)) (by simp; omega)
  · obtain ⟨cs, h1, h2⟩ := hI.b2
    exact ⟨cs, fs.blk (f2.blk h1 (fun e => by have := hS _ e; omega)) (by simp), h2⟩
  · have := (f2.blk hI.b3 (fun e => by have := hS _ e; omega)).set 14 v2
    simpa [msgC] using this
  · simp [hI.len]
  · have e : attrCells (xs.take (j + 1)) (ss ++ [v1]) = attrCells (xs.take j) ss ++ [.int .u16 x.1, v1] := by
      rw [List.take_succ_eq_append_getElem hjl, hxj, attrCells_append _ _ _ _ (by rw [hI.len, List.length_take]; omega)]
      rfl
    rw [e]
    exact ho.kept fs (fun k hk e => by have := hv2 k hk; simp at e; omega)
  · intro i a s ha hs
    rw [List.getElem?_append] at hs
    split at hs
    · rename_i hi
      have hm : s ∈ ss := List.mem_of_getElem? hs
      have := hI.each i a s ha hs
      refine (this.kept f2 (fun k hk e => ?_)).kept fs (fun k hk e => ?_)
      · rcases List.mem_cons.1 e with h | h
        · have := (hI.apart s hm k hk).2.2; omega
        · exact (hI.apart s hm k hk).2.1 h
      · have := (hI.apart s hm k hk).1; simp at e; omega
    · rename_i hi
      have hi' : i - ss.length = 0 := by
        have := (List.getElem?_eq_some_iff.1 hs).1; simp at this; omega
      rw [hi'] at hs
      cases hs
      have hij : i = j := by have := hI.len; omega
      subst hij
      rw [hx] at ha; cases ha
      refine ((hr.kept ((Fr.refl [] w15).alloc (.cells #[.int .u16 x.1, v1] 73)) (by simp)).kept hf (fun k hk e => ?_)).kept fs (fun k hk e => ?_)
      · have h1 := hov k e; have h2 := hn k hk; omega
      · have h2 := hn k hk; simp at e; omega
  · intro s hs k hk
    rcases List.mem_append.1 hs with h | h
    · obtain ⟨h1, h2, h3⟩ := hI.apart s h k hk
      refine ⟨h1, fun e => (hw k e).elim h2 (fun e => by omega), ?_⟩
      have := f2.size
      simp; omega
    · simp at h; subst h
      have h2 := hn k hk
      refine ⟨by omega, fun e => ?_, ?_⟩
      · rcases hw k e with e | e
        · have := hov k e; omega
        · omega
      · have := hf.size
        simp at this
        simp; omega
end

theorem writeAt_all (cs : Array Value) (l : Array Value) (h : cs.size = l.size) : writeAt cs 0 l.toList = l := by
  apply Array.ext_getElem?
  intro i
  rw [writeAt_get _ _ _ _ (by simp [h])]
  simp
  intro hi
  rw [Array.getElem?_eq_none (by omega), Array.getElem?_eq_none (by omega)]
set_option maxHeartbeats 1000000 in
theorem theirs_calls (c m : Int) (f : Nat → UInt8) (s : Value) (xs : List (Int × List UInt8)) (w : World) (h : AttrsAt w s xs) (hu : ∀ a ∈ xs, 0 ≤ a.1 ∧ a.1 < 65536) (hn : xs.length * 32 ≤ 140737488351232) (hl : ∀ a ∈ xs, a.2.length ≤ 140737488351232) :
    Calls Try.prog 12 #[.agg (msgC c m f s)] w (TheirsTo c m f xs w) := by
  obtain ⟨sa, scap, rfl, q1, q2, q3⟩ := h.shape
  have hsm : scap ≤ 9223372036854775807 := by simp only [maxLen] at q2; omega
  have H := Lib.hid h; have HU := Lib.hid hu; have HL := Lib.hid hl; have Q3 := Lib.hid q3
  clear h hu hl q3
  go_enter Try.func12, Try.ntmps12
  go_wp2_with fail
  have I0 : TInv w c m f (.slice sa xs.length scap) xs 0 (((w.alloc (.cells (msgC c m f (.slice sa xs.length scap)) 25)).alloc (.cells (msgC 0 0 (fun _ => 0) (.slice none 0 0)) 34)).alloc (.cells (msgC c m f (.slice none 0 0)) 34)) [] (.slice none 0 0) := by
    refine ⟨(((Fr.refl [] w).alloc _).alloc _).alloc _, ((Blk.new w _ _).alloc' _).alloc' _, ⟨_, ?_, msgC_size 0 0 (fun _ => 0) (.slice none 0 0)⟩, ?_, rfl, Own.nil _ _ _, by simp, by simp [own], by simp⟩
    · have := (Blk.new (w.alloc (.cells (msgC c m f (.slice sa xs.length scap)) 25)) (msgC 0 0 (fun _ => 0) (.slice none 0 0)) 34).alloc' (.cells (msgC c m f (.slice none 0 0)) 34)
      simpa using this
    · have := Blk.new ((w.alloc (.cells (msgC c m f (.slice sa xs.length scap)) 25)).alloc (.cells (msgC 0 0 (fun _ => 0) (.slice none 0 0)) 34)) (msgC c m f (.slice none 0 0)) 34
      simpa using this
  have HI0 := Lib.hid I0
  clear I0
  go_loopw [15] (fun i wr => ∃ (j : Nat) (ss : List Value) (v : Value), j ≤ xs.length ∧ i = .int .i64 j ∧ TInv w c m f (.slice sa xs.length scap) xs j wr ss v) (fun i _ => xs.length - (intOf i).toNat)
  case atStart => exact ⟨0, [], _, Nat.zero_le _, rfl, HI0.out⟩
  case round =>
    obtain ⟨j, ss, v, hj, rfl, hI⟩ := hrel
    obtain ⟨va, vc, rfl, v1, v2⟩ := hI.own'.shape
    by_cases hlt : j < xs.length
    · obtain ⟨b, rfl⟩ : ∃ b, sa = some b := by
        cases sa with
        | none => have := Q3.out rfl; omega
        | some b => exact ⟨b, rfl⟩
      obtain ⟨x, hx⟩ : ∃ x, xs[j]? = some x := ⟨xs[j], by simp [hlt]⟩
      obtain ⟨sx, sc, g0, g1, gR, g3, g4⟩ := H.out.get j x hx
      have hb1 : (b.add (j * 2)).block < w.heap.size := World.block_lt_of_cell? w _ g0
      obtain ⟨e1, e2, e3, e4, e5⟩ := hI.cells (Fr.refl [] wr) (by simp)
      have d0 := e5 _ hb1
      rw [g0] at d0
      have d1 := e5 ⟨(b.add (j * 2)).block, (b.add (j * 2)).off + 1, none⟩ hb1
      rw [g1] at d1
      have HII := Lib.hid hI; have HX := Lib.hid hx; have HG0 := Lib.hid g0; have HG1 := Lib.hid g1; have HGR := Lib.hid gR; have HB := Lib.hid hb1
      have hji : (j : Int) < xs.length := by omega
      have hne : (b.add (j * 2)).block ≠ w.heap.size + 1 + 1 := by omega
      have QA := Lib.hid (Own.new wr.drew 5 1 0 #[] rfl (by simp) (by simp [maxLen]))
      have hfd : Fr [] w (wr.drew.alloc (.cells #[] 5)) := (hI.fr.drew).alloc _
      have QB := Lib.hid ((gR.kept hfd (by simp)).src (P := Try.prog) Try.underlying27)
      have hxm : x ∈ xs := List.mem_of_getElem? hx
      have hxl := HL.out x hxm
      have QC := Lib.hid (show 0 + x.2.length ≤ maxLen by simp only [maxLen]; omega)
      have QD := Lib.hid (show (0 + x.2.length) * 1 ≤ 140737488355328 by omega)
      have QE := Lib.hid (show j + 1 ≤ maxLen by simp only [maxLen]; omega)
      have QF := Lib.hid (show (j + 1) * 32 ≤ 140737488355328 by omega)
      have hS1 : ∀ k ∈ [wr.heap.size], w.heap.size + 1 + 1 < k := by intro k hk; simp at hk; omega
      have hS2 : ∀ k ∈ wr.heap.size :: own (.slice va j vc), w.heap.size + 1 + 1 < k := by
        intro k hk
        rcases List.mem_cons.1 hk with h | h
        · omega
        · exact hI.new k h
      have hS0 : ∀ k ∈ ([] : List Nat), w.heap.size + 1 + 1 < k := by simp
      have HS0 := Lib.hid hS0
      clear hS0
      have HS1 := Lib.hid hS1; have HS2 := Lib.hid hS2
      clear hI hx g0 g1 gR hb1 e5 hfd hxm hxl hS1 hS2
      go_wp2_with fail
      go_region_held3 (fun wx => wx.cell? ⟨w.heap.size, 14, none⟩ = some (.slice (some b) xs.length scap) ∧ wx.cell? (b.add (j * 2)) = some (.int .u16 x.1) ∧ wx.cell? ⟨(b.add (j * 2)).block, (b.add (j * 2)).off + 1, none⟩ = some (.slice sx x.2.length sc)) (go_keep)
        (first
          | (refine step_app rfl _ _ 27 27 rfl ref01.eltB QA.out rfl QB.out QC.out QD.out ?_
             intro v1 w15 o1 f1 n1 _
             have M := Lib.hid (HII.out.mid o1 f1 n1)
             obtain ⟨e1, e2, e3, e4, e5⟩ := HII.out.cells M.out.1 HS1.out
             have d0 := (e5 (b.add (j * 2)) HB.out).trans HG0.out
             have d1 := (e5 ⟨(b.add (j * 2)).block, (b.add (j * 2)).off + 1, none⟩ HB.out).trans HG1.out
             obtain ⟨a1, c1, rfl, p1, p2⟩ := M.out.2.1.shape
             clear e5 o1 f1 n1)
          | (refine step_app rfl _ _ 32 32 rfl eltAt M.out.2.2.2.1 rfl M.out.2.2.2.2 QE.out QF.out ?_
             intro v2 w18 o2 f2 n2 _
             have N := Lib.hid (HII.out.next HX.out M.out.1 M.out.2.1 M.out.2.2.1 o2 f2 n2)
             obtain ⟨a2, c2, rfl, p3, p4⟩ := o2.shape
             obtain ⟨e1, e2, e3, e4, e5⟩ := HII.out.cells N.out.1 HS2.out
             have d0 := (e5 (b.add (j * 2)) HB.out).trans HG0.out
             have d1 := (e5 ⟨(b.add (j * 2)).block, (b.add (j * 2)).off + 1, none⟩ HB.out).trans HG1.out
             obtain ⟨k1, k2, k3, k4, k5⟩ := N.out.2.cells (Fr.refl [] _) HS0.out
             have k6 := (k5 (b.add (j * 2)) HB.out).trans HG0.out
             have k7 := (k5 ⟨(b.add (j * 2)).block, (b.add (j * 2)).off + 1, none⟩ HB.out).trans HG1.out
             clear e5 k5 o2 f2 n2))
      all_goals
        go_wp2_with fail
        exact ⟨⟨j + 1, _, _, by omega, by simp, N.out.2⟩, by simp [intOf]; omega⟩
    · obtain rfl : j = xs.length := by omega
      obtain ⟨cs2, hB2, hs2⟩ := hI.b2
      have hthere : wr.there (w.heap.size + 1) 0 (msgC c m f (.slice va xs.length vc)).size := by
        intro i hi
        rw [msgC_size, ← hs2] at hi
        refine ⟨?_, hB2.frozen _⟩
        rw [hB2.cell]
        simp [hi]
      have hend : Blk (wr.setCells (w.heap.size + 1) 0 (msgC c m f (.slice va xs.length vc)).toList) (w.heap.size + 1) (msgC c m f (.slice va xs.length vc)) 34 := by
        have := hB2.setCells (msgC c m f (.slice va xs.length vc)).toList wr cs2 0
        rw [writeAt_all _ _ (by rw [hs2]; rfl)] at this
        exact this
      have hfr : Fr [w.heap.size + 1] wr (wr.setCells (w.heap.size + 1) 0 (msgC c m f (.slice va xs.length vc)).toList) := Fr.setCells _ _ _ (Fr.refl _ _) (by simp)
      have hfin : TheirsTo c m f xs w (.returned (.agg (msgC c m f (.slice va xs.length vc)))) (wr.setCells (w.heap.size + 1) 0 (msgC c m f (.slice va xs.length vc)).toList) := by
        refine ⟨_, rfl, ⟨ss, hI.len, ?_, fun i a s ha hs => ?_⟩, hI.fr.trans (T := []) hfr (fun k hk h => ?_)⟩
        · have := (hI.own'.kept hfr (fun k hk e => by have := hI.new k hk; simp at e; omega)).rd
          rwa [List.take_length] at this
        · exact (hI.each i a s ha hs).kept hfr (fun k hk e => by have := (hI.apart s (List.mem_of_getElem? hs) k hk).1; simp at e; omega)
        · rcases h with h | h
          · exact h
          · simp at h; omega
      have HT := Lib.hid hthere; have HE := Lib.hid hend; have HFn := Lib.hid hfin; have HB3 := Lib.hid hI.b3
      clear hthere hend hfin hfr hB2 hs2 hI
      go_wp2_with (first
        | (refine wpList_load_row rfl 34 _ rfl _ rfl 34 _ (0, 0) _ HB3.out.heap Try.underlying34 rfl (by kernel_rfl) ?_)
        | (refine wpList_store_mid rfl 34 _ _ rfl (w.heap.size + 1) 0 (msgC c m f (.slice va xs.length vc)) rfl rfl HT.out (by kernel_rfl) (by simp [msgC, Value.oneCell']) ?_
           generalize hw9 : wr.setCells (w.heap.size + 1) 0 (msgC c m f (.slice va xs.length vc)).toList = w9 at *
           clear hw9))
      refine bodyPost_ret (results_cell_row rfl _ _ _ _ _ _ _ rfl HE.out.heap Try.underlying34 rfl (by kernel_rfl)) rfl ?_
      exact HFn.out
end Go.Proofs.Ytggammbhmoippaa
