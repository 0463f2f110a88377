/- rostrumref04.Build. -/
import Derived.Test.YtggammbhmoippaaStunBuild
import Derived.Deep.RegionWith
namespace Go.Proofs.Ytggammbhmoippaa
set_option linter.unusedVariables false
open Go.ChangeShapes Go.WideShapes Go.ChangeAt Go.RowKit
open ref01 (NewB two_calls four_calls join_calls)
attribute [local go_sem] msgC_0 msgC_1 msgC_14 msgC_size

theorem ref01.NewB.kept {w w1 w2 : World} {v : Value} {bs : List UInt8} (h : NewB w v bs w1) (k : Fr [] w1 w2) : NewB w v bs w2 :=
  ⟨h.1.kept k (by simp), h.2.1.trans k (by simp), h.2.2⟩
theorem ref01.NewB.of {w w1 w2 : World} {v : Value} {bs : List UInt8} (k : Fr [] w w1) (h : NewB w1 v bs w2) : NewB w v bs w2 :=
  ⟨h.1, k.trans h.2.1 (by simp), fun x hx => Nat.le_trans k.size (h.2.2 x hx)⟩
theorem not_good {m : SMsg} (h : m.good = false) : m.build = none := by simp [SMsg.build, h]
/-- the padding, with k noughts to put -/
def PadInv (w : World) (bs : List UInt8) (k : Nat) (x : Value) (wr : World) : Prop := ∃ bs1, NewB w x bs1 wr ∧ pad4 bs1 = pad4 bs ∧ (4 - bs1.length % 4) % 4 = k ∧ bs1.length + k ≤ bs.length + 3

theorem elt89 : Elt Try.prog 89 27 1 24 (.slice none 0 0) := ⟨Try.underlying89, by kernel_rfl, rfl, by decide, by simp [Value.cells, Value.oneCell']⟩

theorem rd5 {W : World} {a0 a1 a2 a3 a4 : Value} {b0 b1 b2 b3 b4 : List UInt8} (h0 : Rd W 1 a0 b0.length (bc b0)) (h1 : Rd W 1 a1 b1.length (bc b1)) (h2 : Rd W 1 a2 b2.length (bc b2)) (h3 : Rd W 1 a3 b3.length (bc b3)) (h4 : Rd W 1 a4 b4.length (bc b4)) :
    ∀ (i : Nat) (s : Value) (y : List UInt8), [a0, a1, a2, a3, a4][i]? = some s → [b0, b1, b2, b3, b4][i]? = some y → Rd W 1 s y.length (bc y) := by
  intro i s y hs hy
  rcases i with _ | _ | _ | _ | _ | i
  · cases hs; cases hy; exact h0
  · cases hs; cases hy; exact h1
  · cases hs; cases hy; exact h2
  · cases hs; cases hy; exact h3
  · cases hs; cases hy; exact h4
  · simp at hs
theorem rd_one {W : World} {n : Nat} {v : Value} {cs : List Value} (h : Rd W 1 v n cs) : v.oneCell' = true := by
  obtain ⟨_, _, rfl, _⟩ := h.shape; rfl
theorem head_join {W1 wr wa wb wc : World} {v k1 k2 k3 idv : Value} {bs l1 l2 l3 idl : List UInt8} (hN : NewB W1 v bs wr) (hid : Rd wr 1 idv idl.length (bc idl)) (h1 : NewB wr.drew k1 l1 wa) (h2 : NewB wa k2 l2 wb) (h3 : NewB wb k3 l3 wc)
    (hn : l1.length + l2.length + l3.length + idl.length + bs.length ≤ 1000000) {r : List UInt8} (hr : l1 ++ l2 ++ l3 ++ idl ++ bs = r) :
    Calls Try.prog 29 #[.slice (some ⟨wc.heap.size, 0, none⟩) 5 5] (wc.alloc (.cells #[k1, k2, k3, idv, v] 27)) fun e w' => ∃ v', e = .returned v' ∧ NewB W1 v' r w' := by
  subst hr
  have f0 : Fr [] wr wr.drew := (Fr.refl _ _).drew
  have fa : Fr [] wr wa := f0.trans h1.2.1 (by simp)
  have fb : Fr [] wr wb := fa.trans h2.2.1 (by simp)
  have fc : Fr [] wr wc := fb.trans h3.2.1 (by simp)
  have g0 := hN.1.rd.kept fc (by simp)
  have g1 := hid.kept fc (by simp)
  have g2 := (h1.1.rd.kept h2.2.1 (by simp)).kept h3.2.1 (by simp)
  have g3 := h2.1.rd.kept h3.2.1 (by simp)
  have g4 := h3.1.rd
  have fd : Fr [] wc (wc.alloc (.cells #[k1, k2, k3, idv, v] 27)) := (Fr.refl _ _).alloc _
  have hrow := (Own.new wc 27 1 5 #[k1, k2, k3, idv, v] rfl (by simp [rd_one g0, rd_one g1, rd_one g2, rd_one g3, rd_one g4]) (by simp [maxLen])).rd
  refine (join_calls _ [k1, k2, k3, idv, v] [l1, l2, l3, idl, bs] _ hrow rfl (rd5 (g2.kept fd (by simp)) (g3.kept fd (by simp)) (g4.kept fd (by simp)) (g1.kept fd (by simp)) (g0.kept fd (by simp))) (by simp; omega) (by simp)).mono ?_
  rintro e w' ⟨v', rfl, h⟩
  refine ⟨v', rfl, ?_⟩
  have := h.of ((hN.2.1.trans (T := []) fc (by simp)).trans (T := []) fd (by simp))
  simpa using this

set_option maxHeartbeats 1000000 in
theorem refBuild_calls (c m : Int) (f : Nat → UInt8) (s : Value) (xs : List (Int × List UInt8)) (w : World) (h : AttrsAt w s xs) (hu : ∀ a ∈ xs, 0 ≤ a.1 ∧ a.1 < 65536) :
    Calls Try.prog 10 #[.agg (msgC c m f s)] w (BuiltTo ⟨c, m, idL f, xs⟩ w) := by
  have hF0 : Fr [] w (w.alloc (.cells (msgC c m f s) 25)) := (Fr.refl _ _).alloc _
  have hB0 := Blk.new w (msgC c m f s) 25
  obtain ⟨sa, scap, rfl, q1, q2, q3⟩ := h.shape
  have hsm : scap ≤ 9223372036854775807 := by simp only [maxLen] at q2; omega
  have H := Lib.hid h; have HU := Lib.hid hu; have HF := Lib.hid hF0; have HB := Lib.hid hB0; have Q3 := Lib.hid q3
  clear h hu hF0 hB0 q3
  by_cases hh : (0 ≤ c ∧ c ≤ 3) ∧ (0 ≤ m ∧ m ≤ 4095) ∧ xs.length ≤ 16
  · obtain ⟨⟨hc0, hc3⟩, ⟨hm0, hm1⟩, hn⟩ := hh
    have hn' : (xs.length : Int) ≤ 16 := by omega
    go_enter Try.func10, Try.ntmps10
    go_wp2_with fail
    generalize hW1 : w.alloc (.cells (msgC c m f (.slice sa xs.length scap)) 25) = W1 at *
    clear hW1
    have HA1 := Lib.hid (H.out.fr HF.out)
    go_loopw [4, 36] (fun x i wr => ∃ (j : Nat) (bs : List UInt8), j ≤ xs.length ∧ i = .int .i64 j ∧ bs = bodyFrom [] (xs.take j) ∧ (∀ a ∈ xs.take j, a.2.length ≤ 512) ∧ NewB W1 x bs wr) (fun _ i _ => xs.length - (intOf i).toNat)
    case atStart => exact ⟨0, [], Nat.zero_le _, rfl, rfl, by simp, Own.nil _ _ _, Fr.refl _ _, by simp [own]⟩
    case round =>
      obtain ⟨j, bs, hj, rfl, hbs, hall, hN⟩ := hrel
      obtain ⟨va, vc, rfl, v1, v2⟩ := hN.1.shape
      have hBm := hN.2.1.blk HB.out (by simp)
      have c14 := hBm.cell 14
      rw [msgC_14] at c14
      by_cases hlt : j < xs.length
      · obtain ⟨b, rfl⟩ : ∃ b, sa = some b := by
          cases sa with
          | none => have := Q3.out rfl; omega
          | some b => exact ⟨b, rfl⟩
        obtain ⟨x, hx⟩ : ∃ x, xs[j] = x := ⟨_, rfl⟩
        obtain ⟨sx, sc, g0', g1', gR, g3, g4⟩ := HA1.out.get j x (by simp [hlt, hx])
        have g0 : wr.cell? (b.add (j * 2)) = some (.int .u16 x.1) := by
          rw [hN.2.1.cell (World.block_lt_of_cell? W1 _ g0') (by simp)]; exact g0'
        have g1 : wr.cell? ⟨(b.add (j * 2)).block, (b.add (j * 2)).off + 1, none⟩ = some (.slice sx x.2.length sc) := by
          rw [hN.2.1.cell (World.block_lt_of_cell? W1 _ g1') (by simp)]; exact g1'
        have hji : (j : Int) < xs.length := by omega
        have hxm : x ∈ xs := by rw [← hx]; exact List.getElem_mem _
        by_cases h512 : x.2.length ≤ 512
        · have h512' : (x.2.length : Int) ≤ 512 := by omega
          have hbl : bs.length ≤ 520 * 16 := by
            have := bodyFrom_le (xs.take j) [] hall
            rw [← hbs, List.length_take] at this
            have : min j xs.length ≤ 16 := by omega
            simp only [List.length_nil] at *
            omega
          have hnext : bodyFrom [] (xs.take (j + 1)) = pad4 (bs ++ attrB x) := by
            rw [List.take_succ_eq_append_getElem hlt, bodyFrom_snoc, ← hbs, hx]
          have hall' : ∀ a ∈ xs.take (j + 1), a.2.length ≤ 512 := by
            intro a ha
            rw [List.take_succ_eq_append_getElem hlt, List.mem_append] at ha
            rcases ha with ha | ha
            · exact hall a ha
            · simp only [List.mem_singleton] at ha; rw [ha, hx]; exact h512
          have hx1 := HU.out x hxm
          have Y1 := Lib.hid hN; have Y2 := Lib.hid hBm; have Y3 := Lib.hid gR; have Y4 := Lib.hid hnext; have Y5 := Lib.hid hall'
          clear hN hBm gR hnext hall' hall hbs hx hxm g0' g1'
          go_wp2_with fail
          refine (two_calls x.1 wr hx1.1 hx1.2).mono ?_
          rintro e wa ⟨t1, rfl, ht1⟩
          obtain ⟨ta, tc, rfl, t2, t3⟩ := ht1.1.shape
          have T1 := Lib.hid ht1
          clear ht1 g0 g1 c14
          go_wp2_with fail
          refine (two_calls (x.2.length : Int) wa (by omega) (by omega)).mono ?_
          rintro e wb ⟨t1, rfl, ht2⟩
          obtain ⟨ua, uc, rfl, u2, u3⟩ := ht2.1.shape
          have T2 := Lib.hid ht2
          clear ht2
          go_wp2_with fail
          have hFa : Fr [] W1 wa := Y1.out.2.1.trans (T := []) T1.out.2.1 (by simp)
          have hFb : Fr [] W1 wb := hFa.trans (T := []) T2.out.2.1 (by simp)
          obtain ⟨parts, hparts⟩ : ∃ p : Array Value, p = #[.slice va bs.length vc, .slice ta 2 tc, .slice ua 2 uc, .slice sx x.2.length sc] := ⟨_, rfl⟩
          have hFc : Fr [] wb (wb.alloc (.cells parts 27)) := (Fr.refl _ _).alloc _
          have hrow := (Own.new wb 27 1 4 parts (by rw [hparts]; rfl) (by rw [hparts]; simp [Value.oneCell']) (by simp [maxLen])).rd
          have hr0 := (Y1.out.1.rd.kept (T1.out.2.1.trans (T := []) T2.out.2.1 (by simp)) (by simp)).kept hFc (by simp)
          have hr1 := (T1.out.1.rd.kept T2.out.2.1 (by simp)).kept hFc (by simp)
          have hr2 := T2.out.1.rd.kept hFc (by simp)
          have hr3 := (Y3.out.kept hFb (by simp)).kept hFc (by simp)
          rw [← hparts]
          refine (join_calls _ [.slice va bs.length vc, .slice ta 2 tc, .slice ua 2 uc, .slice sx x.2.length sc] [bs, two x.1, two (x.2.length : Int), x.2] _ (by rw [hparts] at hrow ⊢; exact hrow) rfl ?_ (by simp; omega) (by simp)).mono ?_
          · intro i s y hs hy
            rcases i with _ | _ | _ | _ | i
            · cases hs; cases hy; exact hr0
            · cases hs; cases hy; exact hr1
            · cases hs; cases hy; exact hr2
            · cases hs; cases hy; exact hr3
            · simp at hs
          rintro e wd ⟨jv, rfl, hj1⟩
          have hj2 : NewB W1 jv (bs ++ attrB x) wd := by
            have := hj1.of (hFb.trans (T := []) hFc (by simp))
            simpa [attrB] using this
          have X1 := Lib.hid hj2
          clear hj1 hj2 hrow hr0 hr1 hr2 hr3 hFa hFb hFc hparts Y1 T1 T2 Y2 Y3
          go_wp2_with fail
          go_loopg [4] ((4 - (bs ++ attrB x).length % 4) % 4) (fun k y wq => PadInv W1 (bs ++ attrB x) k y wq)
          case atStart => exact ⟨_, X1.out, rfl, rfl, by omega⟩
          case round =>
            obtain ⟨bs1, hN1, hp, hk, hl⟩ := hrel
            obtain ⟨pa, pc, rfl, p1, p2⟩ := hN1.1.shape
            simp only [List.length_append, attrB_length] at hl
            by_cases hz : bs1.length % 4 = 0
            · have hz' : (bs1.length : Int) % 4 = 0 := by omega
              have e1 : bs1 = bodyFrom [] (xs.take (j + 1)) := by rw [Y4.out, ← hp, pad4_done _ hz]
              have R1 := Lib.hid hN1
              have R2 := Lib.hid e1
              clear hN1 hp hk hl e1
              go_wp2_with fail
              exact ⟨⟨j + 1, bs1, by omega, by simp, R2.out, Y5.out, R1.out⟩, by simp [intOf]; omega⟩
            · have hz' : ¬ (bs1.length : Int) % 4 = 0 := by omega
              have QA := Lib.hid (hN1.1.alloc (.cells #[.int .u8 0] 5))
              have QB := Lib.hid ((Own.new wr 5 1 1 #[.int .u8 0] rfl (by simp [Value.oneCell']) (by simp [maxLen])).rd.src (P := Try.prog) Try.underlying27)
              have QC := Lib.hid (show bs1.length + 1 ≤ maxLen by simp only [maxLen]; omega)
              have QD := Lib.hid (show (bs1.length + 1) * 1 ≤ 140737488355328 by omega)
              have R1 := Lib.hid hN1
              have R2 := Lib.hid (And.intro hp (And.intro hk hl))
              have hgk : 0 < gk := by omega
              clear hN1 hp hk hl
              go_wp2_with (at_builtin; refine wpList_app rfl _ _ 27 27 rfl ref01.eltB QA.out rfl QB.out QC.out QD.out ?_)
              intro v' wy ho hf hw _
              have N := Lib.hid (show PadInv W1 (bs ++ attrB x) (gk - 1) v' wy from by
                obtain ⟨hp, hk, hl⟩ := R2.out
                obtain ⟨o1, o2, o3⟩ := R1.out
                refine ⟨bs1 ++ [0], ⟨by simpa [bc] using ho, (o2.alloc _).trans hf (fun k hk h => ?_), fun k hk => ?_⟩, by rw [pad4_step _ hz, hp], by simp; omega, by simp at *; omega⟩
                · rcases h with h | h
                  · exact h
                  · have := o3 k h; omega
                · rcases hw k hk with h | h
                  · exact o3 k h
                  · have := o2.size
                    omega)
              clear ho hf hw
              go_wp2_with fail
              go_roundg (gk - 1)
              case measure => omega
              case rel => exact N.out
        · have h512' : (512 : Int) < x.2.length := by omega
          have X := Lib.hid (And.intro (show SMsg.build ⟨c, m, idL f, xs⟩ = none from not_good (by
            rw [Bool.eq_false_iff]
            intro e
            simp only [SMsg.good, Bool.and_eq_true, decide_eq_true_eq, List.all_eq_true] at e
            exact h512 (e.2 x hxm))) (HF.out.trans (T := []) hN.2.1 (by simp)))
          clear hN hBm gR hall hbs hx hxm g0' g1' h512
          go_wp2_with fail
          go_ret2
          exact .inr ⟨X.out.1, rfl, X.out.2⟩
      · obtain rfl : j = xs.length := by omega
        rw [List.take_length] at hbs hall
        have c0 := hBm.cell 0
        have c1 := hBm.cell 1
        rw [msgC_0] at c0; rw [msgC_1] at c1
        have hgood : SMsg.good ⟨c, m, idL f, xs⟩ = true := by
          simp only [SMsg.good, Bool.and_eq_true, decide_eq_true_eq, List.all_eq_true]
          exact ⟨⟨⟨⟨⟨hc0, hc3⟩, hm0⟩, hm1⟩, hn⟩, hall⟩
        have hbl : bs.length ≤ 520 * 16 := by
          have := bodyFrom_le xs [] hall
          rw [← hbs] at this
          simp only [List.length_nil] at *
          omega
        have Y1 := Lib.hid hN; have Y2 := Lib.hid hBm; have Y3 := Lib.hid hbs; have Y4 := Lib.hid hgood
        have hk := kindOf_lt c m hc0 hc3 hm0 hm1
        have K := Lib.hid hk
        clear hN hBm hbs hall hgood hk
        have hid := id_rd Y2.out
        have ID := Lib.hid hid
        clear hid
        go_wp2_with fail
        have ek : m % 16 + c % 2 * 16 + m / 16 % 8 * 32 + c / 2 * 256 + m / 128 * 512 = kindOf c m := rfl
        rw [ek]
        clear ek c0 c1 c14
        have LN := Lib.hid (show (two (kindOf c m)).length + (two (bs.length : Int)).length + (four 554869826).length + (idL f).length + bs.length ≤ 1000000 by simp; omega)
        obtain ⟨r, hr⟩ : ∃ r, two (kindOf c m) ++ two (bs.length : Int) ++ four 554869826 ++ idL f ++ bs = r := ⟨_, rfl⟩
        have hrl : r.length ≤ 1000000 := by rw [← hr]; simp; omega
        have RW := Lib.hid hr
        clear hr
        go_region_with (first
          | (go_at_call 30
             refine (two_calls (kindOf c m) wr.drew K.out.1 K.out.2).mono ?_
             rintro e wa ⟨k1, rfl, ht1⟩
             obtain ⟨ta, tc, rfl, t2, t3⟩ := ht1.1.shape
             have T1 := Lib.hid ht1
             clear ht1)
          | (go_at_call 30
             refine (two_calls (bs.length : Int) wa (by omega) (by omega)).mono ?_
             rintro e wb ⟨k2, rfl, ht2⟩
             obtain ⟨ua, uc, rfl, u2, u3⟩ := ht2.1.shape
             have T2 := Lib.hid ht2
             clear ht2)
          | (go_at_call 31
             refine (four_calls 554869826 wb (by decide) (by decide)).mono ?_
             rintro e wc ⟨k3, rfl, ht3⟩
             obtain ⟨xa, xc, rfl, x2, x3⟩ := ht3.1.shape
             have T3 := Lib.hid ht3
             clear ht3)
          | (go_at_call 29
             refine (head_join Y1.out ID.out T1.out T2.out T3.out LN.out RW.out).mono ?_
             rintro e wd ⟨jv, rfl, hj⟩
             obtain ⟨ya, yc, rfl, y2, y3⟩ := hj.1.shape
             have TJ := Lib.hid hj
             clear hj))
        have hw : SMsg.whole ⟨c, m, idL f, xs⟩ = r := by
          rw [← RW.out]; simp only [SMsg.whole, magicB, ← Y3.out]
        have HW := Lib.hid hw
        clear hw T1 T2 T3
        go_wp2_with fail
        · have hlt : 1500 < r.length := by omega
          have X := Lib.hid hlt
          go_ret2
          refine .inr ⟨?_, rfl, HF.out.trans (T := []) TJ.out.2.1 (by simp)⟩
          rw [SMsg.build, if_neg]
          rintro ⟨_, h⟩
          rw [HW.out] at h
          have := X.out
          omega
        · have hle : r.length ≤ 1500 := by omega
          have X := Lib.hid hle
          go_ret2
          refine .inl ⟨r, _, ?_, rfl, TJ.out.of HF.out⟩
          rw [SMsg.build, if_pos ⟨Y4.out, by rw [HW.out]; exact X.out⟩, HW.out]
  · have hbad : SMsg.build ⟨c, m, idL f, xs⟩ = none := not_good (by
      rw [Bool.eq_false_iff]
      intro e
      simp only [SMsg.good, Bool.and_eq_true, decide_eq_true_eq] at e
      exact hh ⟨⟨e.1.1.1.1.1, e.1.1.1.1.2⟩, ⟨e.1.1.1.2, e.1.1.2⟩, e.1.2⟩)
    have X := Lib.hid (And.intro hbad hh)
    clear hbad hh
    go_enter Try.func10, Try.ntmps10
    go_wp2_with fail
    all_goals first
      | (go_ret2; exact .inr ⟨X.out.1, rfl, HF.out⟩)
      | (exfalso; have := X.out.2; simp_all; omega)
end Go.Proofs.Ytggammbhmoippaa
