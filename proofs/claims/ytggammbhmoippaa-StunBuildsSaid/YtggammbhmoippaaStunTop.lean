/- awake, and StunBuilds. -/
import Derived.Test.YtggammbhmoippaaStunTheirs
namespace Go.Proofs.Ytggammbhmoippaa
set_option linter.unusedVariables false
open Go.ChangeShapes Go.WideShapes Go.ChangeAt Go.RowKit
open ref01 (NewB)
attribute [local go_sem] msgC_0 msgC_1 msgC_2 msgC_3 msgC_4 msgC_5 msgC_6 msgC_7 msgC_8 msgC_9 msgC_10 msgC_11 msgC_12 msgC_13 msgC_14 msgC_size

theorem AttrsAt.nil (w : World) : AttrsAt w (.slice none 0 0) [] := ⟨[], rfl, ⟨rfl, by simp [attrCells], none, 0, rfl, by simp, by simp, by simp, by simp⟩, by simp⟩

theorem hello_build : SMsg.build ⟨0, 1, idL (fun _ => 0), []⟩ = some (SMsg.whole ⟨0, 1, idL (fun _ => 0), []⟩) := by
  rw [SMsg.build, if_pos]
  exact ⟨by decide, by decide⟩
theorem awake_calls (w : World) : Calls Try.prog 9 #[] w fun e w' => e = .returned (.bool true) ∧ Fr [] w w' := by
  go_enter Try.func9, Try.ntmps9
  go_wp2_with fail
  refine (stunBuild_calls 0 1 (fun _ => 0) (.slice none 0 0) [] w (AttrsAt.nil w) (by simp)).mono ?_
  rintro e w1 (⟨bs, v, hb, rfl, hN⟩ | ⟨hb, _, _⟩)
  · rw [hello_build] at hb
    cases hb
    obtain ⟨a, c, rfl, v1, v2⟩ := hN.1.shape
    have hl : (SMsg.whole ⟨0, 1, idL (fun _ => 0), []⟩).length = 20 := by decide
    rw [hl] at v1
    obtain ⟨g, off, c', hv, _, _⟩ := hN.1.pos (by omega)
    cases hv
    have x1 : w1.cell? ⟨g, off + 1, none⟩ = some (.int .u8 1) := hN.1.cells rfl 1 _ rfl
    have x4 : w1.cell? ⟨g, off + 4, none⟩ = some (.int .u8 33) := hN.1.cells rfl 4 _ rfl
    have Z := Lib.hid hN
    rw [hl]
    clear hN hl
    go_wp2_with fail
    go_ret
    exact ⟨rfl, Z.out.2.1⟩
  · rw [hello_build] at hb
    cases hb

set_option maxHeartbeats 800000 in
theorem stunBuilds_top (c m : Int) (f : Nat → UInt8) (s : Value) (xs : List (Int × List UInt8)) (w : World) (h : AttrsAt w s xs) (hu : ∀ a ∈ xs, 0 ≤ a.1 ∧ a.1 < 65536) (hn : xs.length * 32 ≤ 140737488351232) (hl : ∀ a ∈ xs, a.2.length ≤ 140737488351232) :
    Calls Try.prog 3 #[.agg (msgC c m f s)] w fun e w' => e = .returned (.bool true) ∧ Fr [] w w' := by
  have H := Lib.hid h; have HU := Lib.hid hu; have HL := Lib.hid hl
  clear h hu hl
  go_enter Try.func3, Try.ntmps3
  go_wp2_with fail
  have hF0 : Fr [] w (w.alloc (.cells (msgC c m f s) 25)) := (Fr.refl _ _).alloc _
  have hB0 := Blk.new w (msgC c m f s) 25
  refine (awake_calls _).mono ?_
  rintro e w1 ⟨rfl, hF⟩
  have hF1 := Lib.hid (hF0.trans (T := []) hF (by simp))
  have hB1 := Lib.hid (hF.blk hB0 (by simp))
  clear hF0 hF hB0
  go_wp2_with (refine wpList_load_row rfl 25 _ rfl _ rfl 25 _ (0, 0) _ hB1.out.heap Try.underlying25 rfl (by kernel_rfl) ?_)
  refine (refBuild_calls c m f s xs w1 (H.out.fr hF1.out) HU.out).mono ?_
  rintro e w2 hR
  obtain ⟨r1, k1, rfl, hr⟩ : ∃ v k, e = .returned (.tuple #[v, .int .i64 k]) ∧ Fr [] w1 w2 ∧ ((∃ bs, SMsg.build ⟨c, m, idL f, xs⟩ = some bs ∧ k = 0 ∧ Rd w2 1 v bs.length (bc bs)) ∨ (SMsg.build ⟨c, m, idL f, xs⟩ = none ∧ k = 1 ∧ v = .slice none 0 0)) := by
    rcases hR with ⟨bs, v, h1, h2, h3⟩ | ⟨h1, h2, h3⟩
    · exact ⟨v, 0, h2, h3.2.1, .inl ⟨bs, h1, rfl, h3.1.rd⟩⟩
    · exact ⟨_, 1, h2, h3, .inr ⟨h1, rfl, rfl⟩⟩
  have hF2 := Lib.hid (hF1.out.trans (T := []) hr.1 (by simp))
  have hB2 := Lib.hid (hr.1.blk hB1.out (by simp))
  have HR := Lib.hid hr.2
  clear hR hr hB1 hF1
  go_wp2_with (refine wpList_load_row rfl 25 _ rfl _ rfl 25 _ (0, 0) _ hB2.out.heap Try.underlying25 rfl (by kernel_rfl) ?_)
  refine (theirs_calls c m f s xs w2 (H.out.fr hF2.out) HU.out hn HL.out).mono ?_
  rintro e w3 ⟨s3, rfl, hA3, hf3⟩
  have hF3 := Lib.hid (hF2.out.trans (T := []) hf3 (by simp))
  have HA3 := Lib.hid hA3
  have Hf3 := Lib.hid hf3
  clear hA3 hf3 hF2 hB2
  go_wp2_with fail
  refine (stunBuild_calls c m f s3 xs w3 HA3.out HU.out).mono ?_
  rintro e w4 hR
  rcases hR with ⟨bs, v4, h1, rfl, h3⟩ | ⟨h1, rfl, h3⟩
  · rcases HR.out with ⟨bs', g1, rfl, g3⟩ | ⟨g1, _⟩
    · rw [h1] at g1
      cases g1
      have hF4 := Lib.hid (hF3.out.trans (T := []) h3.2.1 (by simp))
      have q1 := run_string (P := Try.prog) (src := 27) (dst := 9) Try.underlying27 Try.underlying5 Try.underlying9 h3.1.rd
      have q2 := run_string (P := Try.prog) (src := 27) (dst := 9) Try.underlying27 Try.underlying5 Try.underlying9 ((g3.kept Hf3.out (by simp)).kept h3.2.1 (by simp))
      obtain ⟨a4, c4, rfl, _, _⟩ := h3.1.shape
      obtain ⟨a5, c5, rfl, _, _⟩ := g3.shape
      clear h1 h3 g3 HR
      go_wp2_with fail
      go_ret
      exact ⟨rfl, hF4.out⟩
    · rw [h1] at g1; cases g1
  · rcases HR.out with ⟨bs', g1, _⟩ | ⟨g1, rfl, rfl⟩
    · rw [h1] at g1; cases g1
    · have hF4 := Lib.hid (hF3.out.trans (T := []) h3 (by simp))
      have q1 := run_string (P := Try.prog) (src := 27) (dst := 9) (bs := []) Try.underlying27 Try.underlying5 Try.underlying9 (Own.nil w4 5 1).rd
      clear h1 h3 g1 HR
      go_wp2_with fail
      go_ret
      exact ⟨rfl, hF4.out⟩
end Go.Proofs.Ytggammbhmoippaa
