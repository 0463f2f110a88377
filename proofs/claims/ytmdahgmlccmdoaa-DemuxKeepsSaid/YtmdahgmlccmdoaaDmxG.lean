/- demux: where a packet would go, and goes. -/
import Derived.Test.YtmdahgmlccmdoaaDmxL
namespace Go.Proofs.Ytmdahgmlccmdoaa
set_option linter.unusedVariables false
set_option linter.unusedSimpArgs false
open Go.RowKit
namespace dm
namespace FxDmxG
set_option maxRecDepth 100000
theorem fo39_1 : Program.fieldOff Try.prog 39 1 = some 1 := by kernel_rfl
theorem fo39_4 : Program.fieldOff Try.prog 39 4 = some 4 := by kernel_rfl
theorem fo50_1 : Program.fieldOff Try.prog 50 1 = some 1 := by kernel_rfl
theorem fo50_3 : Program.fieldOff Try.prog 50 3 = some 3 := by kernel_rfl
theorem fo59_0 : Program.fieldOff Try.prog 59 0 = some 0 := by kernel_rfl
theorem fo59_1 : Program.fieldOff Try.prog 59 1 = some 1 := by kernel_rfl
theorem fo61_0 : Program.fieldOff Try.prog 61 0 = some 0 := by kernel_rfl
theorem fo61_2 : Program.fieldOff Try.prog 61 2 = some 2 := by kernel_rfl
theorem fo61_3 : Program.fieldOff Try.prog 61 3 = some 3 := by kernel_rfl
theorem sc27 : Program.isSc Try.prog 27 = true := by kernel_rfl
theorem sc3 : Program.isSc Try.prog 3 = true := by kernel_rfl
theorem sc34 : Program.isSc Try.prog 34 = true := by kernel_rfl
theorem sc47 : Program.isSc Try.prog 47 = true := by kernel_rfl
theorem sc48 : Program.isSc Try.prog 48 = true := by kernel_rfl
theorem sc56 : Program.isSc Try.prog 56 = true := by kernel_rfl
theorem sc9 : Program.isSc Try.prog 9 = true := by kernel_rfl
theorem sl27 : Program.slI Try.prog 27 = some 4 := by kernel_rfl
theorem sz59 : (Try.prog.info? 59).map (·.size) = some 2 := by kernel_rfl
theorem zc59 : Program.zeroC Try.prog 59 = some #[.int .i64 0, .string .empty] := by kernel_rfl
end FxDmxG
open FxDmxG
abbrev GR := Int × (ByteArray × Int)
def fin (l : LTB) (src : UInt32) (n : Int) (r : ByteArray) : GR := if (tget (Dat.dflt : Int × ByteArray) l src).2 = false ∧ l.length = 32 then (0, .empty, 6) else (n, r, 0)
def gs2 (x : LnD) (rid : Int) (l : LTB) (src : UInt32) (xs : List XD) (n : Int) : GR :=
  if (fx xs rid).isSome ∧ 0 < rid then (if bstr (fv xs rid) ∈ x.2.2.2.l then fin l src n (bstr (fv xs rid)) else (0, .empty, 7))
  else fin l src n (if (tget (Dat.dflt : Int × ByteArray) l src).2 ∧ (tget (Dat.dflt : Int × ByteArray) l src).1.1 = n then (tget (Dat.dflt : Int × ByteArray) l src).1.2 else .empty)
def gs (ls : List LnD) (mid rid : Int) (l : LTB) (ty : Int) (src : UInt32) (xs : List XD) : GR :=
  if lnS ls mid l ty src xs < 0 ∨ ty ∉ (ls.getD (lnS ls mid l ty src xs).toNat Dat.dflt).2.1.l then (0, .empty, 7)
  else gs2 (ls.getD (lnS ls mid l ty src xs).toNat Dat.dflt) rid l src xs (lnS ls mid l ty src xs)
abbrev OkL (ls : List LnD) (l : LTB) : Prop := ∀ e ∈ l, 0 ≤ e.2.1 ∧ e.2.1 < ls.length
theorem lnT_lt (ls : List LnD) (ty : Int) : -1 ≤ lnT ls ty ∧ lnT ls ty < ls.length := by
  unfold lnT; split
  · omega
  · exact idx_lt _ _
theorem tget_mem {l : LTB} {src : UInt32} (h : (tget (Dat.dflt : Int × ByteArray) l src).2 = true) : ∃ e ∈ l, e.2 = (tget (Dat.dflt : Int × ByteArray) l src).1 := by
  cases hf : Fi l src with
  | some k =>
    obtain ⟨hk, y, hy, hg⟩ := Fi_some hf
    rw [hg]
    exact ⟨_, List.mem_of_getElem? hy, rfl⟩
  | none => rw [Fi_none hf] at h; cases h
theorem lnS_lt {ls : List LnD} {mid : Int} {l : LTB} {ty : Int} {src : UInt32} {xs : List XD} (h : OkL ls l) : -1 ≤ lnS ls mid l ty src xs ∧ lnS ls mid l ty src xs < ls.length := by
  unfold lnS
  split
  · exact idx_lt _ _
  split
  · rename_i h2
    obtain ⟨e, he, hq⟩ := tget_mem h2
    have := h e he
    rw [← hq]; omega
  split
  · exact idx_lt _ _
  · exact lnT_lt _ _
--REG (*rostrum/demux.Router).line : _ _ ⟨rfl, rfl⟩ => (dm.line_fn _ _ _ _ _ _ _ _ _ _ _ _ _ _ (by assumption) _)
set_option maxHeartbeats 4000000 in
theorem Guess_fn (rb : Nat) (la : Option Addr) (lc : Nat) (ls : List LnD) (mid rid : Int) (tb : Nat) (l : LTB) (hl : OkL ls l) (ty : Int) (seq : UInt16) (src : UInt32) (a : Option Addr) (cap : Nat) (xs : List XD) (hok : Okx xs) (L : List SA) :
    Fn Try.prog 11 [pt rb 0, .agg (PT ty seq src (.slice a xs.length cap))] (RT rb la ls.length lc mid rid tb :: SA.dat (⟨la, lc, ls⟩ : Sl LnD) :: tbl.TB tb 32 l :: SA.dat (⟨a, cap, xs⟩ : Sl XD) :: L)
      (fun v L' => v = .tuple #[vI (gs ls mid rid l ty src xs).1, vS (gs ls mid rid l ty src xs).2.1, vI (gs ls mid rid l ty src xs).2.2] ∧ L' = RT rb la ls.length lc mid rid tb :: SA.dat (⟨la, lc, ls⟩ : Sl LnD) :: tbl.TB tb 32 l :: SA.dat (⟨a, cap, xs⟩ : Sl XD) :: L) := by
  refine Fn.of (N := 95) Try.func11 rfl rfl ?_
  intro Xh
  refine TC.know (dat_cap (a := la) (cap := lc) (by with_reducible (repeat first | apply In.here | apply In.there))) ?_
  rintro ⟨hc1, hc2, -⟩
  obtain ⟨⟨⟨ll, lr⟩, ok⟩, hg⟩ : ∃ p, tget (Dat.dflt : Int × ByteArray) l src = p := ⟨_, rfl⟩
  obtain ⟨n, hn⟩ : ∃ n, lnS ls mid l ty src xs = n := ⟨_, rfl⟩
  obtain ⟨hn1, hn2⟩ := lnS_lt (mid := mid) (ty := ty) (src := src) (xs := xs) hl
  rw [hn] at hn1 hn2
  have hgs : gs ls mid rid l ty src xs = if n < 0 ∨ ty ∉ (ls.getD n.toNat Dat.dflt).2.1.l then (0, .empty, 7) else gs2 (ls.getD n.toNat Dat.dflt) rid l src xs n := by unfold gs; rw [hn]
  refine TC.seq ?_
  refine TC.region ?_
  refine TL.eff rfl rfl rfl (X.boxA rfl rfl) ?_
  rintro _ _ ⟨b3, rfl, rfl⟩
  refine TL.val rfl rfl rfl (Y.assign rfl rfl) ?_
  refine TL.val rfl rfl rfl (Y.assign rfl rfl) ?_
  refine TL.val rfl rfl rfl (Y.assign rfl rfl) ?_
  refine TL.nil ?_
  refine TQ.next ?_
  refine TC.seq ?_
  refine TC.seq ?_
  refine TC.region ?_
  refine TL.val rfl rfl rfl (Y.move rfl rfl) ?_
  refine TL.val rfl rfl rfl (by first | exact Y.eqNilP rfl Try.underlying25 rfl rfl | exact Y.eqNil0 rfl Try.underlying25 rfl rfl) ?_
  refine TL.nil ?_
  refine TQ.next ?_
  refine TC.cond_f rfl ?_
  refine TC.skip ?_
  refine TQ.next ?_
  refine TC.seq ?_
  refine TC.region ?_
  refine TL.val rfl rfl rfl (Y.move rfl rfl) ?_
  refine TL.val rfl rfl rfl (Y.loadAgg (m := 9) rfl (by kernel_rfl) rfl (Cels.all (cs := PT ty seq src (.slice a xs.length cap)) (by with_reducible (repeat first | apply In.here | apply In.there))) (by rfl)) ?_
  refine TL.as (.agg (PT ty seq src (.slice a xs.length cap))) (by rfl) ?_
  refine TL.eff rfl rfl rfl (X.call rfl Try.func21 (by kernel_rfl) rfl rfl (Fn.preE (by repeat first | (with_reducible apply Ent.refl) | (apply Ent.cons; case h => first | (with_reducible (repeat first | apply Pull.here | apply Pull.there); done) | (repeat first | apply Pull.here | apply Pull.there))) (line_fn rb la lc ls mid rid tb l ty seq src a cap xs hok _))) ?_
  rintro _ _ ⟨rfl, rfl⟩
  rw [hn]
  refine TL.val rfl rfl rfl (Y.assign rfl rfl) ?_
  refine TL.nil ?_
  refine TQ.next ?_
  refine TC.seq ?_
  refine TC.seq ?_
  refine TC.know (φ := 0 < ls.length → ∃ g off, la = some ⟨g, off, none⟩) (fun w hw hn => dat_some (cap := lc) (a := la) (by with_reducible (repeat first | apply In.here | apply In.there)) hn w hw) ?_
  intro hla
  refine TC.draws 16 [RT rb la ls.length lc mid rid tb, SA.blk b3 (PT ty seq src (.slice a xs.length cap)) 39, SA.dat (⟨la, lc, ls⟩ : Sl LnD)] (by kernel_rfl) (by kernel_rfl) (by repeat first | exact holds_nil | refine holds_cons (by with_reducible (repeat first | apply In.here | apply In.there)) ?_) ?_
  refine TA.take 0 rfl rfl rfl rfl (by kernel_rfl) (by kernel_rfl) (by kernel_rfl) rfl (by kernel_rfl) (by kernel_rfl) (fun _ _ _ h => h) (Y.move rfl rfl) ?_
  refine TA.take 1 rfl rfl rfl rfl (by kernel_rfl) (by kernel_rfl) (by kernel_rfl) rfl (by kernel_rfl) (by kernel_rfl) (fun _ _ _ h => h) (Y.bin rfl rfl rfl (br_ltI (n := 0))) ?_
  refine TA.take 2 rfl rfl rfl rfl (by kernel_rfl) (by kernel_rfl) (by kernel_rfl) rfl (by kernel_rfl) (by kernel_rfl) (fun _ _ _ h => h) (Y.move rfl rfl) ?_
  refine TA.case (fun g4_2 => ?_) (fun g4_2 => ?_)
  · try simp only [decide_eq_true_eq, decide_eq_false_iff_not, Bool.not_eq_true', Bool.not_eq_false', Nat.not_lt, Nat.not_le, beq_iff_eq, bne_iff_ne] at g4_2
    first
    | (have hk : n.toNat < ls.length := by omega
       have hn0 : 0 ≤ n := by omega
       obtain ⟨g, off, rfl⟩ := hla (by omega)
       obtain ⟨x, hx, hxm⟩ := getS hk
       have hd : ls.getD n.toNat Dat.dflt = x := by rw [List.getD_eq_getElem?_getD, hx]; rfl
       refine TA.to (Ent.trans (Pull.ent (A := SA.dat (⟨some ⟨g, off, none⟩, lc, ls⟩ : Sl LnD)) (by first | (with_reducible (repeat first | apply Pull.here | apply Pull.there); done) | (repeat first | apply Pull.here | apply Pull.there))) (Ent.trans (Ent.elem hxm) (Ent.trans (Ent.rdss_sub (hs := Dat.g x.2.1) fun q hq => List.mem_append_right _ (List.mem_append_left _ hq)) (Ent.trans Ent.swap (Ent.rdss_sub (hs := Dat.g x.2.2.2) fun q hq => List.mem_append_right _ (List.mem_append_right _ (List.mem_append_right _ hq))))))) ?_)
    | skip
    refine TA.not 3 rfl rfl rfl rfl (by kernel_rfl) (by kernel_rfl) (by kernel_rfl) rfl (fun _ _ _ h => h) ?_
    refine TA.not 4 rfl rfl rfl rfl (by kernel_rfl) (by kernel_rfl) (by kernel_rfl) rfl (fun _ _ _ h => h) ?_
    refine TA.not 5 rfl rfl rfl rfl (by kernel_rfl) (by kernel_rfl) (by kernel_rfl) rfl (fun _ _ _ h => h) ?_
    refine TA.not 6 rfl rfl rfl rfl (by kernel_rfl) (by kernel_rfl) (by kernel_rfl) rfl (fun _ _ _ h => h) ?_
    refine TA.not 7 rfl rfl rfl rfl (by kernel_rfl) (by kernel_rfl) (by kernel_rfl) rfl (fun _ _ _ h => h) ?_
    refine TA.not 8 rfl rfl rfl rfl (by kernel_rfl) (by kernel_rfl) (by kernel_rfl) rfl (fun _ _ _ h => h) ?_
    refine TA.not 9 rfl rfl rfl rfl (by kernel_rfl) (by kernel_rfl) (by kernel_rfl) rfl (fun _ _ _ h => h) ?_
    refine TA.not 10 rfl rfl rfl rfl (by kernel_rfl) (by kernel_rfl) (by kernel_rfl) rfl (fun _ _ _ h => h) ?_
    refine TA.not 11 rfl rfl rfl rfl (by kernel_rfl) (by kernel_rfl) (by kernel_rfl) rfl (fun _ _ _ h => h) ?_
    refine TA.not 12 rfl rfl rfl rfl (by kernel_rfl) (by kernel_rfl) (by kernel_rfl) rfl (fun _ _ _ h => h) ?_
    refine TA.not 13 rfl rfl rfl rfl (by kernel_rfl) (by kernel_rfl) (by kernel_rfl) rfl (fun _ _ _ h => h) ?_
    refine TA.not 14 rfl rfl rfl rfl (by kernel_rfl) (by kernel_rfl) (by kernel_rfl) rfl (fun _ _ _ h => h) ?_
    refine TA.take 15 rfl rfl rfl rfl (by kernel_rfl) (by kernel_rfl) (by kernel_rfl) rfl (by kernel_rfl) (by kernel_rfl) (fun _ _ _ h => h) (Y.pick_t rfl rfl rfl) ?_
    refine TA.done (by kernel_rfl) ?_
    refine TQ.next ?_
    refine TC.cond_t rfl ?_
    refine TC.seq ?_
    have hs : gs ls mid rid l ty src xs = (0, .empty, 7) := by
      rw [hgs, if_pos]
      first
      | exact Or.inl g4_2
      | exact Or.inr (by rw [hd]; simpa using c1)
    refine TC.region ?_
    refine TL.val rfl rfl rfl (Y.assign rfl rfl) ?_
    refine TL.val rfl rfl rfl (Y.assign rfl rfl) ?_
    refine TL.val rfl rfl rfl (Y.assign rfl rfl) ?_
    refine TL.nil ?_
    refine TQ.next ?_
    refine TC.ret ?_
    refine TQ.then_ret ?_
    refine TQ.retE (resL rfl (Res.tmp rfl (Res.tmp rfl (Res.tmp rfl Res.nil)))) (⟨by (rw [hs]) <;> rfl, rfl⟩) ?_
    exact (by (repeat first | (with_reducible apply Ent.refl) | (with_reducible apply Ent.nil) | refine Ent.cons (by first | (with_reducible (repeat first | apply Pull.here | apply Pull.there); done) | (repeat first | apply Pull.here | apply Pull.there)) ?_ | refine Ent.skip ?_))
  · try simp only [decide_eq_true_eq, decide_eq_false_iff_not, Bool.not_eq_true', Bool.not_eq_false', Nat.not_lt, Nat.not_le, beq_iff_eq, bne_iff_ne] at g4_2
    first
    | (have hk : n.toNat < ls.length := by omega
       have hn0 : 0 ≤ n := by omega
       obtain ⟨g, off, rfl⟩ := hla (by omega)
       obtain ⟨x, hx, hxm⟩ := getS hk
       have hd : ls.getD n.toNat Dat.dflt = x := by rw [List.getD_eq_getElem?_getD, hx]; rfl
       refine TA.to (Ent.trans (Pull.ent (A := SA.dat (⟨some ⟨g, off, none⟩, lc, ls⟩ : Sl LnD)) (by first | (with_reducible (repeat first | apply Pull.here | apply Pull.there); done) | (repeat first | apply Pull.here | apply Pull.there))) (Ent.trans (Ent.elem hxm) (Ent.trans (Ent.rdss_sub (hs := Dat.g x.2.1) fun q hq => List.mem_append_right _ (List.mem_append_left _ hq)) (Ent.trans Ent.swap (Ent.rdss_sub (hs := Dat.g x.2.2.2) fun q hq => List.mem_append_right _ (List.mem_append_right _ (List.mem_append_right _ hq))))))) ?_)
    | skip
    refine TA.take 3 rfl rfl rfl rfl (by kernel_rfl) (by kernel_rfl) (by kernel_rfl) rfl (by kernel_rfl) (by kernel_rfl) (fun _ _ _ h => h) (Y.move rfl rfl) ?_
    refine TA.take 4 rfl rfl rfl rfl (by kernel_rfl) (by kernel_rfl) (by kernel_rfl) rfl (by kernel_rfl) (by kernel_rfl) (fun _ _ _ h => h) (Y.nilCheck rfl rfl) ?_
    refine TA.take 5 rfl rfl rfl rfl (by kernel_rfl) (by kernel_rfl) (by kernel_rfl) rfl (by kernel_rfl) (by kernel_rfl) (fun _ _ _ h => h) (by first | exact Y.fieldAddrJ rfl fo61_0 rfl (by ((try simp only [Nat.zero_add, Nat.add_zero, Nat.mul_one, Nat.one_mul, Nat.mul_zero, Nat.zero_mul]) <;> rfl)) | exact Y.fieldAddr rfl fo61_0 rfl (by ((try simp only [Nat.zero_add, Nat.add_zero, Nat.mul_one, Nat.one_mul, Nat.mul_zero, Nat.zero_mul]) <;> rfl))) ?_
    refine TA.take 6 rfl rfl rfl rfl (by kernel_rfl) (by kernel_rfl) (by kernel_rfl) rfl (by kernel_rfl) (by kernel_rfl) (fun _ _ _ h => h) (Y.load rfl sc27 rfl (by first | exact Cel.at0 Reads.owns (by with_reducible (repeat first | apply In.here | apply In.there)) (by assumption) (by rfl) | exact Cel.at Reads.owns (by with_reducible (repeat first | apply In.here | apply In.there)) (by assumption) (by rfl) | exact Cel.datAt0 (by with_reducible (repeat first | apply In.here | apply In.there)) (by assumption) (by rfl) | exact Cel.datAt (by with_reducible (repeat first | apply In.here | apply In.there)) (by assumption) (by rfl) | exact Cel.datAtS (by with_reducible (repeat first | apply In.here | apply In.there)) (by assumption) (by rfl) | exact Cel.blk (by with_reducible (repeat first | apply In.here | apply In.there)) (by first | exact getM (d := default) (by ((try simp only [List.length_set, List.length_map, List.length_append, List.length_replicate, List.size_toArray, List.length_cons, List.length_nil, Array.size_setIfInBounds]); (first | omega | exact of_decide_eq_true (by rfl)))) | rfl) | exact Cel.rblk (by with_reducible (repeat first | apply In.here | apply In.there)) (by first | exact getM (d := default) (by ((try simp only [List.length_set, List.length_map, List.length_append, List.length_replicate, List.size_toArray, List.length_cons, List.length_nil, Array.size_setIfInBounds]); (first | omega | exact of_decide_eq_true (by rfl)))) | rfl) | exact Cel.rds (by with_reducible (repeat first | apply In.here | apply In.there)) (getML (d := default) (by ((try simp only [List.length_set, List.length_map, List.length_append, List.length_replicate, List.size_toArray, List.length_cons, List.length_nil, Array.size_setIfInBounds]); (first | omega | exact of_decide_eq_true (by rfl))))) | exact Cel.rdsB (by with_reducible (repeat first | apply In.here | apply In.there)) (getML (d := default) (by ((try simp only [List.length_set, List.length_map, List.length_append, List.length_replicate, List.size_toArray, List.length_cons, List.length_nil, Array.size_setIfInBounds]); (first | omega | exact of_decide_eq_true (by rfl))))) | exact Cel.owns (by with_reducible (repeat first | apply In.here | apply In.there)) (getML (d := default) (by ((try simp only [List.length_set, List.length_map, List.length_append, List.length_replicate, List.size_toArray, List.length_cons, List.length_nil, Array.size_setIfInBounds]); (first | omega | exact of_decide_eq_true (by rfl))))) | exact Cel.reads (by assumption) (by with_reducible (repeat first | apply In.here | apply In.there)) (getML (d := default) (by ((try simp only [List.length_set, List.length_map, List.length_append, List.length_replicate, List.size_toArray, List.length_cons, List.length_nil, Array.size_setIfInBounds]); (first | omega | exact of_decide_eq_true (by rfl))))) | exact Cel.rds0 (by with_reducible (repeat first | apply In.here | apply In.there)) (getML (d := default) (by ((try simp only [List.length_set, List.length_map, List.length_append, List.length_replicate, List.size_toArray, List.length_cons, List.length_nil, Array.size_setIfInBounds]); (first | omega | exact of_decide_eq_true (by rfl))))) | exact Cel.owns0 (by with_reducible (repeat first | apply In.here | apply In.there)) (getML (d := default) (by ((try simp only [List.length_set, List.length_map, List.length_append, List.length_replicate, List.size_toArray, List.length_cons, List.length_nil, Array.size_setIfInBounds]); (first | omega | exact of_decide_eq_true (by rfl))))))) ?_
    refine TA.as (.slice (some ⟨g, off, none⟩) ls.length lc) (by rfl) ?_
    refine TA.take 7 rfl rfl rfl rfl (by kernel_rfl) (by kernel_rfl) (by kernel_rfl) rfl (by kernel_rfl) (by kernel_rfl) (fun _ _ _ h => h) (Y.move rfl rfl) ?_
    refine TA.as (vN n.toNat) (by (show vI _ = vI _; congr 1; omega)) ?_
    refine TA.take 8 rfl rfl rfl rfl (by kernel_rfl) (by kernel_rfl) (by kernel_rfl) rfl (by kernel_rfl) (by kernel_rfl) (fun _ _ _ h => h) (by first | exact Y.indexSlB rfl sl27 rfl rfl (by omega) (by ((try simp only [Nat.zero_add, Nat.add_zero, Nat.mul_one, Nat.one_mul, Nat.mul_zero, Nat.zero_mul]) <;> rfl)) | exact Y.indexSl rfl sl27 rfl rfl (by omega) (by ((try simp only [Nat.zero_add, Nat.add_zero, Nat.mul_one, Nat.one_mul, Nat.mul_zero, Nat.zero_mul]) <;> rfl))) ?_
    refine TA.take 9 rfl rfl rfl rfl (by kernel_rfl) (by kernel_rfl) (by kernel_rfl) rfl (by kernel_rfl) (by kernel_rfl) (fun _ _ _ h => h) (by first | exact Y.fieldAddrJ rfl fo50_1 rfl (by ((try simp only [Nat.zero_add, Nat.add_zero, Nat.mul_one, Nat.one_mul, Nat.mul_zero, Nat.zero_mul]) <;> rfl)) | exact Y.fieldAddr rfl fo50_1 rfl (by ((try simp only [Nat.zero_add, Nat.add_zero, Nat.mul_one, Nat.one_mul, Nat.mul_zero, Nat.zero_mul]) <;> rfl))) ?_
    refine TA.take 10 rfl rfl rfl rfl (by kernel_rfl) (by kernel_rfl) (by kernel_rfl) rfl (by kernel_rfl) (by kernel_rfl) (fun _ _ _ h => h) (Y.load rfl sc47 rfl (by first | exact Cel.at0 Reads.owns (by with_reducible (repeat first | apply In.here | apply In.there)) (by assumption) (by rfl) | exact Cel.at Reads.owns (by with_reducible (repeat first | apply In.here | apply In.there)) (by assumption) (by rfl) | exact Cel.datAt0 (by with_reducible (repeat first | apply In.here | apply In.there)) (by assumption) (by rfl) | exact Cel.datAt (by with_reducible (repeat first | apply In.here | apply In.there)) (by assumption) (by rfl) | exact Cel.datAtS (by with_reducible (repeat first | apply In.here | apply In.there)) (by assumption) (by rfl) | exact Cel.blk (by with_reducible (repeat first | apply In.here | apply In.there)) (by first | exact getM (d := default) (by ((try simp only [List.length_set, List.length_map, List.length_append, List.length_replicate, List.size_toArray, List.length_cons, List.length_nil, Array.size_setIfInBounds]); (first | omega | exact of_decide_eq_true (by rfl)))) | rfl) | exact Cel.rblk (by with_reducible (repeat first | apply In.here | apply In.there)) (by first | exact getM (d := default) (by ((try simp only [List.length_set, List.length_map, List.length_append, List.length_replicate, List.size_toArray, List.length_cons, List.length_nil, Array.size_setIfInBounds]); (first | omega | exact of_decide_eq_true (by rfl)))) | rfl) | exact Cel.rds (by with_reducible (repeat first | apply In.here | apply In.there)) (getML (d := default) (by ((try simp only [List.length_set, List.length_map, List.length_append, List.length_replicate, List.size_toArray, List.length_cons, List.length_nil, Array.size_setIfInBounds]); (first | omega | exact of_decide_eq_true (by rfl))))) | exact Cel.rdsB (by with_reducible (repeat first | apply In.here | apply In.there)) (getML (d := default) (by ((try simp only [List.length_set, List.length_map, List.length_append, List.length_replicate, List.size_toArray, List.length_cons, List.length_nil, Array.size_setIfInBounds]); (first | omega | exact of_decide_eq_true (by rfl))))) | exact Cel.owns (by with_reducible (repeat first | apply In.here | apply In.there)) (getML (d := default) (by ((try simp only [List.length_set, List.length_map, List.length_append, List.length_replicate, List.size_toArray, List.length_cons, List.length_nil, Array.size_setIfInBounds]); (first | omega | exact of_decide_eq_true (by rfl))))) | exact Cel.reads (by assumption) (by with_reducible (repeat first | apply In.here | apply In.there)) (getML (d := default) (by ((try simp only [List.length_set, List.length_map, List.length_append, List.length_replicate, List.size_toArray, List.length_cons, List.length_nil, Array.size_setIfInBounds]); (first | omega | exact of_decide_eq_true (by rfl))))) | exact Cel.rds0 (by with_reducible (repeat first | apply In.here | apply In.there)) (getML (d := default) (by ((try simp only [List.length_set, List.length_map, List.length_append, List.length_replicate, List.size_toArray, List.length_cons, List.length_nil, Array.size_setIfInBounds]); (first | omega | exact of_decide_eq_true (by rfl))))) | exact Cel.owns0 (by with_reducible (repeat first | apply In.here | apply In.there)) (getML (d := default) (by ((try simp only [List.length_set, List.length_map, List.length_append, List.length_replicate, List.size_toArray, List.length_cons, List.length_nil, Array.size_setIfInBounds]); (first | omega | exact of_decide_eq_true (by rfl))))))) ?_
    refine TA.as (x.2.1.v) (by rfl) ?_
    refine TA.take 11 rfl rfl rfl rfl (by kernel_rfl) (by kernel_rfl) (by kernel_rfl) rfl (by kernel_rfl) (by kernel_rfl) (fun _ _ _ h => h) (by first | exact Y.fieldAddrJ rfl fo39_1 rfl (by ((try simp only [Nat.zero_add, Nat.add_zero, Nat.mul_one, Nat.one_mul, Nat.mul_zero, Nat.zero_mul]) <;> rfl)) | exact Y.fieldAddr rfl fo39_1 rfl (by ((try simp only [Nat.zero_add, Nat.add_zero, Nat.mul_one, Nat.one_mul, Nat.mul_zero, Nat.zero_mul]) <;> rfl))) ?_
    refine TA.take 12 rfl rfl rfl rfl (by kernel_rfl) (by kernel_rfl) (by kernel_rfl) rfl (by kernel_rfl) (by kernel_rfl) (fun _ _ _ h => h) (Y.load rfl sc3 rfl (by first | exact Cel.at0 Reads.owns (by with_reducible (repeat first | apply In.here | apply In.there)) (by assumption) (by rfl) | exact Cel.at Reads.owns (by with_reducible (repeat first | apply In.here | apply In.there)) (by assumption) (by rfl) | exact Cel.datAt0 (by with_reducible (repeat first | apply In.here | apply In.there)) (by assumption) (by rfl) | exact Cel.datAt (by with_reducible (repeat first | apply In.here | apply In.there)) (by assumption) (by rfl) | exact Cel.datAtS (by with_reducible (repeat first | apply In.here | apply In.there)) (by assumption) (by rfl) | exact Cel.blk (by with_reducible (repeat first | apply In.here | apply In.there)) (by first | exact getM (d := (0 : Nat)) (by ((try simp only [List.length_set, List.length_map, List.length_append, List.length_replicate, List.size_toArray, List.length_cons, List.length_nil, Array.size_setIfInBounds]); (first | omega | exact of_decide_eq_true (by rfl)))) | rfl) | exact Cel.rblk (by with_reducible (repeat first | apply In.here | apply In.there)) (by first | exact getM (d := (0 : Nat)) (by ((try simp only [List.length_set, List.length_map, List.length_append, List.length_replicate, List.size_toArray, List.length_cons, List.length_nil, Array.size_setIfInBounds]); (first | omega | exact of_decide_eq_true (by rfl)))) | rfl) | exact Cel.rds (by with_reducible (repeat first | apply In.here | apply In.there)) (getML (d := (0 : Nat)) (by ((try simp only [List.length_set, List.length_map, List.length_append, List.length_replicate, List.size_toArray, List.length_cons, List.length_nil, Array.size_setIfInBounds]); (first | omega | exact of_decide_eq_true (by rfl))))) | exact Cel.rdsB (by with_reducible (repeat first | apply In.here | apply In.there)) (getML (d := (0 : Nat)) (by ((try simp only [List.length_set, List.length_map, List.length_append, List.length_replicate, List.size_toArray, List.length_cons, List.length_nil, Array.size_setIfInBounds]); (first | omega | exact of_decide_eq_true (by rfl))))) | exact Cel.owns (by with_reducible (repeat first | apply In.here | apply In.there)) (getML (d := (0 : Nat)) (by ((try simp only [List.length_set, List.length_map, List.length_append, List.length_replicate, List.size_toArray, List.length_cons, List.length_nil, Array.size_setIfInBounds]); (first | omega | exact of_decide_eq_true (by rfl))))) | exact Cel.reads (by assumption) (by with_reducible (repeat first | apply In.here | apply In.there)) (getML (d := (0 : Nat)) (by ((try simp only [List.length_set, List.length_map, List.length_append, List.length_replicate, List.size_toArray, List.length_cons, List.length_nil, Array.size_setIfInBounds]); (first | omega | exact of_decide_eq_true (by rfl))))) | exact Cel.rds0 (by with_reducible (repeat first | apply In.here | apply In.there)) (getML (d := (0 : Nat)) (by ((try simp only [List.length_set, List.length_map, List.length_append, List.length_replicate, List.size_toArray, List.length_cons, List.length_nil, Array.size_setIfInBounds]); (first | omega | exact of_decide_eq_true (by rfl))))) | exact Cel.owns0 (by with_reducible (repeat first | apply In.here | apply In.there)) (getML (d := (0 : Nat)) (by ((try simp only [List.length_set, List.length_map, List.length_append, List.length_replicate, List.size_toArray, List.length_cons, List.length_nil, Array.size_setIfInBounds]); (first | omega | exact of_decide_eq_true (by rfl))))))) ?_
    refine TA.as (vI ty) (by rfl) ?_
    refine TA.one 13 (by kernel_rfl) rfl rfl rfl rfl (X.call rfl Try.func22 (by kernel_rfl) rfl rfl (Fn.preE (by repeat first | (with_reducible apply Ent.refl) | (apply Ent.cons; case h => first | (with_reducible (repeat first | apply Pull.here | apply Pull.there); done) | (repeat first | apply Pull.here | apply Pull.there))) (cti.Contains_fn (SA.dat x.2.1) x.2.1.a _ x.2.1.cap x.2.1.l ty Reads.dat rfl _))) ?_
    rintro _ _ ⟨rfl, rfl⟩
    refine ⟨(Or.inr (by repeat first | exact holds_nil | refine holds_cons (by with_reducible (repeat first | apply In.here | apply In.there)) ?_)), ?_⟩
    refine TA.take 14 rfl rfl rfl rfl (by kernel_rfl) (by kernel_rfl) (by kernel_rfl) rfl (by kernel_rfl) (by kernel_rfl) (fun _ _ _ h => h) (Y.not rfl rfl) ?_
    refine TA.take 15 rfl rfl rfl rfl (by kernel_rfl) (by kernel_rfl) (by kernel_rfl) rfl (by kernel_rfl) (by kernel_rfl) (fun _ _ _ h => h) (Y.pick_f rfl rfl rfl) ?_
    refine TA.done (by kernel_rfl) ?_
    refine TQ.next ?_
    refine TC.cond rfl (fun c1 => ?_) (fun c1 => ?_)
    · try simp only [decide_eq_true_eq, decide_eq_false_iff_not, Bool.not_eq_true', Bool.not_eq_false', Bool.and_eq_true, Bool.or_eq_true, Nat.not_lt, Nat.not_le, beq_iff_eq, bne_iff_ne] at c1
      refine TC.seq ?_
      have hs : gs ls mid rid l ty src xs = (0, .empty, 7) := by
        rw [hgs, if_pos]
        first
        | exact Or.inl g4_2
        | exact Or.inr (by rw [hd]; simpa using c1)
      refine TC.region ?_
      refine TL.val rfl rfl rfl (Y.assign rfl rfl) ?_
      refine TL.val rfl rfl rfl (Y.assign rfl rfl) ?_
      refine TL.val rfl rfl rfl (Y.assign rfl rfl) ?_
      refine TL.nil ?_
      refine TQ.next ?_
      refine TC.ret ?_
      refine TQ.then_ret ?_
      refine TQ.retE (resL rfl (Res.tmp rfl (Res.tmp rfl (Res.tmp rfl Res.nil)))) (⟨by (rw [hs]) <;> rfl, rfl⟩) ?_
      exact (by (repeat first | (with_reducible apply Ent.refl) | (with_reducible apply Ent.nil) | refine Ent.cons (by first | (with_reducible (repeat first | apply Pull.here | apply Pull.there); done) | (repeat first | apply Pull.here | apply Pull.there)) ?_ | refine Ent.skip ?_))
    · try simp only [decide_eq_true_eq, decide_eq_false_iff_not, Bool.not_eq_true', Bool.not_eq_false', Bool.and_eq_true, Bool.or_eq_true, Nat.not_lt, Nat.not_le, beq_iff_eq, bne_iff_ne] at c1
      have hgs2 : gs ls mid rid l ty src xs = gs2 x rid l src xs n := by
        rw [hgs, if_neg, hd]
        rintro (h | h)
        · omega
        · rw [hd] at h; exact h (by simpa using c1)
      refine TC.skip ?_
      refine TQ.next ?_
      refine TC.cutF (ι := Nat) [] (fun _ => True) (fun i => [(8, some (pt i 0)), (9, some (.bool ok))]) (fun i => [SA.blk i #[vI ll, vS lr] 59]) (Ao := []) Pulls.nil ?_ ?_
      · rintro L' hL'
        simp only [List.cons_append, List.nil_append] at hL'
        subst hL'
        refine TC.draws 13 [RT rb (some ⟨g, off, none⟩) ls.length lc mid rid tb, SA.blk b3 (PT ty seq src (.slice a xs.length cap)) 39] (by kernel_rfl) (by kernel_rfl) (by repeat first | exact holds_nil | refine holds_cons (by with_reducible (repeat first | apply In.here | apply In.there)) ?_) ?_
        refine TA.take 0 rfl rfl rfl rfl (by kernel_rfl) (by kernel_rfl) (by kernel_rfl) rfl (by kernel_rfl) (by kernel_rfl) (fun _ _ _ h => h) (Y.move rfl rfl) ?_
        refine TA.take 1 rfl rfl rfl rfl (by kernel_rfl) (by kernel_rfl) (by kernel_rfl) rfl (by kernel_rfl) (by kernel_rfl) (fun _ _ _ h => h) (Y.nilCheck rfl rfl) ?_
        refine TA.take 2 rfl rfl rfl rfl (by kernel_rfl) (by kernel_rfl) (by kernel_rfl) rfl (by kernel_rfl) (by kernel_rfl) (fun _ _ _ h => h) (by first | exact Y.fieldAddrJ rfl fo61_3 rfl (by ((try simp only [Nat.zero_add, Nat.add_zero, Nat.mul_one, Nat.one_mul, Nat.mul_zero, Nat.zero_mul]) <;> rfl)) | exact Y.fieldAddr rfl fo61_3 rfl (by ((try simp only [Nat.zero_add, Nat.add_zero, Nat.mul_one, Nat.one_mul, Nat.mul_zero, Nat.zero_mul]) <;> rfl))) ?_
        refine TA.take 3 rfl rfl rfl rfl (by kernel_rfl) (by kernel_rfl) (by kernel_rfl) rfl (by kernel_rfl) (by kernel_rfl) (fun _ _ _ h => h) (Y.load rfl sc56 rfl (by first | exact Cel.at0 Reads.owns (by with_reducible (repeat first | apply In.here | apply In.there)) (by assumption) (by rfl) | exact Cel.at Reads.owns (by with_reducible (repeat first | apply In.here | apply In.there)) (by assumption) (by rfl) | exact Cel.datAt0 (by with_reducible (repeat first | apply In.here | apply In.there)) (by assumption) (by rfl) | exact Cel.datAt (by with_reducible (repeat first | apply In.here | apply In.there)) (by assumption) (by rfl) | exact Cel.datAtS (by with_reducible (repeat first | apply In.here | apply In.there)) (by assumption) (by rfl) | exact Cel.blk (by with_reducible (repeat first | apply In.here | apply In.there)) (by first | exact getM (d := default) (by ((try simp only [List.length_set, List.length_map, List.length_append, List.length_replicate, List.size_toArray, List.length_cons, List.length_nil, Array.size_setIfInBounds]); (first | omega | exact of_decide_eq_true (by rfl)))) | rfl) | exact Cel.rblk (by with_reducible (repeat first | apply In.here | apply In.there)) (by first | exact getM (d := default) (by ((try simp only [List.length_set, List.length_map, List.length_append, List.length_replicate, List.size_toArray, List.length_cons, List.length_nil, Array.size_setIfInBounds]); (first | omega | exact of_decide_eq_true (by rfl)))) | rfl) | exact Cel.rds (by with_reducible (repeat first | apply In.here | apply In.there)) (getML (d := default) (by ((try simp only [List.length_set, List.length_map, List.length_append, List.length_replicate, List.size_toArray, List.length_cons, List.length_nil, Array.size_setIfInBounds]); (first | omega | exact of_decide_eq_true (by rfl))))) | exact Cel.rdsB (by with_reducible (repeat first | apply In.here | apply In.there)) (getML (d := default) (by ((try simp only [List.length_set, List.length_map, List.length_append, List.length_replicate, List.size_toArray, List.length_cons, List.length_nil, Array.size_setIfInBounds]); (first | omega | exact of_decide_eq_true (by rfl))))) | exact Cel.owns (by with_reducible (repeat first | apply In.here | apply In.there)) (getML (d := default) (by ((try simp only [List.length_set, List.length_map, List.length_append, List.length_replicate, List.size_toArray, List.length_cons, List.length_nil, Array.size_setIfInBounds]); (first | omega | exact of_decide_eq_true (by rfl))))) | exact Cel.reads (by assumption) (by with_reducible (repeat first | apply In.here | apply In.there)) (getML (d := default) (by ((try simp only [List.length_set, List.length_map, List.length_append, List.length_replicate, List.size_toArray, List.length_cons, List.length_nil, Array.size_setIfInBounds]); (first | omega | exact of_decide_eq_true (by rfl))))) | exact Cel.rds0 (by with_reducible (repeat first | apply In.here | apply In.there)) (getML (d := default) (by ((try simp only [List.length_set, List.length_map, List.length_append, List.length_replicate, List.size_toArray, List.length_cons, List.length_nil, Array.size_setIfInBounds]); (first | omega | exact of_decide_eq_true (by rfl))))) | exact Cel.owns0 (by with_reducible (repeat first | apply In.here | apply In.there)) (getML (d := default) (by ((try simp only [List.length_set, List.length_map, List.length_append, List.length_replicate, List.size_toArray, List.length_cons, List.length_nil, Array.size_setIfInBounds]); (first | omega | exact of_decide_eq_true (by rfl))))))) ?_
        refine TA.as (pt tb 0) (by rfl) ?_
        refine TA.take 4 rfl rfl rfl rfl (by kernel_rfl) (by kernel_rfl) (by kernel_rfl) rfl (by kernel_rfl) (by kernel_rfl) (fun _ _ _ h => h) (by first | exact Y.fieldAddrJ rfl fo39_4 rfl (by ((try simp only [Nat.zero_add, Nat.add_zero, Nat.mul_one, Nat.one_mul, Nat.mul_zero, Nat.zero_mul]) <;> rfl)) | exact Y.fieldAddr rfl fo39_4 rfl (by ((try simp only [Nat.zero_add, Nat.add_zero, Nat.mul_one, Nat.one_mul, Nat.mul_zero, Nat.zero_mul]) <;> rfl))) ?_
        refine TA.take 5 rfl rfl rfl rfl (by kernel_rfl) (by kernel_rfl) (by kernel_rfl) rfl (by kernel_rfl) (by kernel_rfl) (fun _ _ _ h => h) (Y.load rfl sc34 rfl (by first | exact Cel.at0 Reads.owns (by with_reducible (repeat first | apply In.here | apply In.there)) (by assumption) (by rfl) | exact Cel.at Reads.owns (by with_reducible (repeat first | apply In.here | apply In.there)) (by assumption) (by rfl) | exact Cel.datAt0 (by with_reducible (repeat first | apply In.here | apply In.there)) (by assumption) (by rfl) | exact Cel.datAt (by with_reducible (repeat first | apply In.here | apply In.there)) (by assumption) (by rfl) | exact Cel.datAtS (by with_reducible (repeat first | apply In.here | apply In.there)) (by assumption) (by rfl) | exact Cel.blk (by with_reducible (repeat first | apply In.here | apply In.there)) (by first | exact getM (d := (0 : UInt32)) (by ((try simp only [List.length_set, List.length_map, List.length_append, List.length_replicate, List.size_toArray, List.length_cons, List.length_nil, Array.size_setIfInBounds]); (first | omega | exact of_decide_eq_true (by rfl)))) | rfl) | exact Cel.rblk (by with_reducible (repeat first | apply In.here | apply In.there)) (by first | exact getM (d := (0 : UInt32)) (by ((try simp only [List.length_set, List.length_map, List.length_append, List.length_replicate, List.size_toArray, List.length_cons, List.length_nil, Array.size_setIfInBounds]); (first | omega | exact of_decide_eq_true (by rfl)))) | rfl) | exact Cel.rds (by with_reducible (repeat first | apply In.here | apply In.there)) (getML (d := (0 : UInt32)) (by ((try simp only [List.length_set, List.length_map, List.length_append, List.length_replicate, List.size_toArray, List.length_cons, List.length_nil, Array.size_setIfInBounds]); (first | omega | exact of_decide_eq_true (by rfl))))) | exact Cel.rdsB (by with_reducible (repeat first | apply In.here | apply In.there)) (getML (d := (0 : UInt32)) (by ((try simp only [List.length_set, List.length_map, List.length_append, List.length_replicate, List.size_toArray, List.length_cons, List.length_nil, Array.size_setIfInBounds]); (first | omega | exact of_decide_eq_true (by rfl))))) | exact Cel.owns (by with_reducible (repeat first | apply In.here | apply In.there)) (getML (d := (0 : UInt32)) (by ((try simp only [List.length_set, List.length_map, List.length_append, List.length_replicate, List.size_toArray, List.length_cons, List.length_nil, Array.size_setIfInBounds]); (first | omega | exact of_decide_eq_true (by rfl))))) | exact Cel.reads (by assumption) (by with_reducible (repeat first | apply In.here | apply In.there)) (getML (d := (0 : UInt32)) (by ((try simp only [List.length_set, List.length_map, List.length_append, List.length_replicate, List.size_toArray, List.length_cons, List.length_nil, Array.size_setIfInBounds]); (first | omega | exact of_decide_eq_true (by rfl))))) | exact Cel.rds0 (by with_reducible (repeat first | apply In.here | apply In.there)) (getML (d := (0 : UInt32)) (by ((try simp only [List.length_set, List.length_map, List.length_append, List.length_replicate, List.size_toArray, List.length_cons, List.length_nil, Array.size_setIfInBounds]); (first | omega | exact of_decide_eq_true (by rfl))))) | exact Cel.owns0 (by with_reducible (repeat first | apply In.here | apply In.there)) (getML (d := (0 : UInt32)) (by ((try simp only [List.length_set, List.length_map, List.length_append, List.length_replicate, List.size_toArray, List.length_cons, List.length_nil, Array.size_setIfInBounds]); (first | omega | exact of_decide_eq_true (by rfl))))))) ?_
        refine TA.as (v32 src) (by rfl) ?_
        refine TA.any (rs := [6, 10]) (by kernel_rfl) (by simp) ?_
        simp only [List.forall_mem_cons, List.not_mem_nil, false_implies, implies_true, and_true]
        refine ⟨?_, ?_⟩
        · skip
          refine TAo.eff rfl rfl rfl rfl (X.call rfl Try.func23 (by kernel_rfl) rfl rfl (Fn.preE (by repeat first | (with_reducible apply Ent.refl) | (apply Ent.cons; case h => first | (with_reducible (repeat first | apply Pull.here | apply Pull.there); done) | (repeat first | apply Pull.here | apply Pull.there))) (tbl.Get_fn _ _ l src _))) ?_
          rintro _ _ ⟨rfl, rfl⟩
          rw [hg, show tbl.vv (ll, lr) = .agg #[vI ll, vS lr] from rfl]
          refine ⟨(Or.inr (by repeat first | exact holds_nil | refine holds_cons (by with_reducible (repeat first | apply In.here | apply In.there)) ?_)), ?_⟩
          refine TA.take 7 rfl rfl rfl rfl (by kernel_rfl) (by kernel_rfl) (by kernel_rfl) rfl (by kernel_rfl) (by kernel_rfl) (fun _ _ _ h => h) (Y.move rfl rfl) ?_
          refine TA.take 8 rfl rfl rfl rfl (by kernel_rfl) (by kernel_rfl) (by kernel_rfl) rfl (by kernel_rfl) (by kernel_rfl) (fun _ _ _ h => h) (Y.extract rfl rfl rfl) ?_
          refine TA.take 9 rfl rfl rfl rfl (by kernel_rfl) (by kernel_rfl) (by kernel_rfl) rfl (by kernel_rfl) (by kernel_rfl) (fun _ _ _ h => h) (Y.extract rfl rfl rfl) ?_
          refine TA.one 10 (by kernel_rfl) rfl rfl rfl rfl (X.alloc rfl zc59) ?_
          rintro _ _ ⟨b8, rfl, rfl⟩
          refine ⟨(Or.inr (by repeat first | exact holds_nil | refine holds_cons (by with_reducible (repeat first | apply In.here | apply In.there)) ?_)), ?_⟩
          refine TA.one0 11 (by kernel_rfl) rfl rfl rfl (by first | exact X.storeAll rfl sz59 (by rfl) rfl rfl (allOne (by rfl)) (by first | (with_reducible (repeat first | apply Pull.here | apply Pull.there); done) | (repeat first | apply Pull.here | apply Pull.there)) (by rfl) | exact X.storeAll rfl sz59 (by ((try simp only [List.size_toArray, List.length_set, List.length_map, List.length_append, List.length_replicate, List.length_cons, List.length_nil]); (first | done | omega | (simp [*]; done)))) rfl rfl (by simp [Value.oneCell']) (by first | (with_reducible (repeat first | apply Pull.here | apply Pull.there); done) | (repeat first | apply Pull.here | apply Pull.there)) (by ((try simp only [List.size_toArray, List.length_set, List.length_map, List.length_append, List.length_replicate, List.length_cons, List.length_nil]); (first | done | omega | (simp [*]; done)))) | exact X.storeAgg rfl sz59 (by ((try simp only [List.size_toArray, List.length_set, List.length_map, List.length_append, List.length_replicate, List.length_cons, List.length_nil]); (first | done | omega | (simp [*]; done)))) rfl rfl (by simp [Value.oneCell']) (by first | (with_reducible (repeat first | apply Pull.here | apply Pull.there); done) | (repeat first | apply Pull.here | apply Pull.there)) (by ((try simp only [List.size_toArray, List.length_set, List.length_map, List.length_append, List.length_replicate, List.length_cons, List.length_nil]); (first | done | omega | (simp [*]; done)))) (writeM (by ((try simp only [List.length_set, List.length_map, List.length_append, List.length_replicate]); omega)))) ?_
          rintro _ _ rfl
          refine ⟨(Or.inr (by repeat first | exact holds_nil | refine holds_cons (by with_reducible (repeat first | apply In.here | apply In.there)) ?_)), ?_⟩
          refine TA.take 12 rfl rfl rfl rfl (by kernel_rfl) (by kernel_rfl) (by kernel_rfl) rfl (by kernel_rfl) (by kernel_rfl) (fun _ _ _ h => h) (Y.assign rfl rfl) ?_
          refine TA.done (by kernel_rfl) ?_
          refine TQ.meetF (b8) (trivial) ⟨rfl, rfl, trivial⟩ (by (repeat first | apply Grow.refl | apply Grow.step | apply Grow.app)) ?_ ?_
          · kernel_rfl
          · simp only [List.cons_append, List.nil_append]
            exact (by (repeat first | (with_reducible apply Ent.refl) | (with_reducible apply Ent.nil) | refine Ent.cons (by first | (with_reducible (repeat first | apply Pull.here | apply Pull.there); done) | (repeat first | apply Pull.here | apply Pull.there)) ?_ | refine Ent.skip ?_))
        · skip
          refine TAo.eff rfl rfl rfl rfl (X.alloc rfl zc59) ?_
          rintro _ _ ⟨b8, rfl, rfl⟩
          refine ⟨(Or.inr (by repeat first | exact holds_nil | refine holds_cons (by with_reducible (repeat first | apply In.here | apply In.there)) ?_)), ?_⟩
          refine TA.one 6 (by kernel_rfl) rfl rfl rfl rfl (X.call rfl Try.func23 (by kernel_rfl) rfl rfl (Fn.preE (by repeat first | (with_reducible apply Ent.refl) | (apply Ent.cons; case h => first | (with_reducible (repeat first | apply Pull.here | apply Pull.there); done) | (repeat first | apply Pull.here | apply Pull.there))) (tbl.Get_fn _ _ l src _))) ?_
          rintro _ _ ⟨rfl, rfl⟩
          rw [hg, show tbl.vv (ll, lr) = .agg #[vI ll, vS lr] from rfl]
          refine ⟨(Or.inr (by repeat first | exact holds_nil | refine holds_cons (by with_reducible (repeat first | apply In.here | apply In.there)) ?_)), ?_⟩
          refine TA.take 7 rfl rfl rfl rfl (by kernel_rfl) (by kernel_rfl) (by kernel_rfl) rfl (by kernel_rfl) (by kernel_rfl) (fun _ _ _ h => h) (Y.move rfl rfl) ?_
          refine TA.take 8 rfl rfl rfl rfl (by kernel_rfl) (by kernel_rfl) (by kernel_rfl) rfl (by kernel_rfl) (by kernel_rfl) (fun _ _ _ h => h) (Y.extract rfl rfl rfl) ?_
          refine TA.take 9 rfl rfl rfl rfl (by kernel_rfl) (by kernel_rfl) (by kernel_rfl) rfl (by kernel_rfl) (by kernel_rfl) (fun _ _ _ h => h) (Y.extract rfl rfl rfl) ?_
          refine TA.one0 11 (by kernel_rfl) rfl rfl rfl (by first | exact X.storeAll rfl sz59 (by rfl) rfl rfl (allOne (by rfl)) (by first | (with_reducible (repeat first | apply Pull.here | apply Pull.there); done) | (repeat first | apply Pull.here | apply Pull.there)) (by rfl) | exact X.storeAll rfl sz59 (by ((try simp only [List.size_toArray, List.length_set, List.length_map, List.length_append, List.length_replicate, List.length_cons, List.length_nil]); (first | done | omega | (simp [*]; done)))) rfl rfl (by simp [Value.oneCell']) (by first | (with_reducible (repeat first | apply Pull.here | apply Pull.there); done) | (repeat first | apply Pull.here | apply Pull.there)) (by ((try simp only [List.size_toArray, List.length_set, List.length_map, List.length_append, List.length_replicate, List.length_cons, List.length_nil]); (first | done | omega | (simp [*]; done)))) | exact X.storeAgg rfl sz59 (by ((try simp only [List.size_toArray, List.length_set, List.length_map, List.length_append, List.length_replicate, List.length_cons, List.length_nil]); (first | done | omega | (simp [*]; done)))) rfl rfl (by simp [Value.oneCell']) (by first | (with_reducible (repeat first | apply Pull.here | apply Pull.there); done) | (repeat first | apply Pull.here | apply Pull.there)) (by ((try simp only [List.size_toArray, List.length_set, List.length_map, List.length_append, List.length_replicate, List.length_cons, List.length_nil]); (first | done | omega | (simp [*]; done)))) (writeM (by ((try simp only [List.length_set, List.length_map, List.length_append, List.length_replicate]); omega)))) ?_
          rintro _ _ rfl
          refine ⟨(Or.inr (by repeat first | exact holds_nil | refine holds_cons (by with_reducible (repeat first | apply In.here | apply In.there)) ?_)), ?_⟩
          refine TA.take 12 rfl rfl rfl rfl (by kernel_rfl) (by kernel_rfl) (by kernel_rfl) rfl (by kernel_rfl) (by kernel_rfl) (fun _ _ _ h => h) (Y.assign rfl rfl) ?_
          refine TA.done (by kernel_rfl) ?_
          refine TQ.meetF (b8) (trivial) ⟨rfl, rfl, trivial⟩ (by (repeat first | apply Grow.refl | apply Grow.step | apply Grow.app)) ?_ ?_
          · kernel_rfl
          · simp only [List.cons_append, List.nil_append]
            exact (by (repeat first | (with_reducible apply Ent.refl) | (with_reducible apply Ent.nil) | refine Ent.cons (by first | (with_reducible (repeat first | apply Pull.here | apply Pull.there); done) | (repeat first | apply Pull.here | apply Pull.there)) ?_ | refine Ent.skip ?_))
      · rintro b8 - F' L' rfl hL'
        simp only [List.cons_append, List.nil_append] at hL'
        subst hL'
        refine TC.seq ?_
        refine TC.region ?_
        refine TL.val rfl rfl rfl (Y.assign rfl rfl) ?_
        refine TL.nil ?_
        refine TQ.next ?_
        refine TC.cutF (ι := ByteArray) [4, 5, 6] (fun i => gs2 x rid l src xs n = fin l src n i) (fun i => [(10, some (vS i))]) (fun i => []) (Ao := []) Pulls.nil ?_ ?_
        · rintro L' hL'
          simp only [List.cons_append, List.nil_append] at hL'
          subst hL'
          refine TC.seq ?_
          refine TC.draws 11 [RT rb (some ⟨g, off, none⟩) ls.length lc mid rid tb, SA.blk b3 (PT ty seq src (.slice a xs.length cap)) 39] (by kernel_rfl) (by kernel_rfl) (by repeat first | exact holds_nil | refine holds_cons (by with_reducible (repeat first | apply In.here | apply In.there)) ?_) ?_
          refine TA.take 0 rfl rfl rfl rfl (by kernel_rfl) (by kernel_rfl) (by kernel_rfl) rfl (by kernel_rfl) (by kernel_rfl) (fun _ _ _ h => h) (Y.loadAgg (m := 9) rfl (by kernel_rfl) rfl (Cels.all (cs := PT ty seq src (.slice a xs.length cap)) (by with_reducible (repeat first | apply In.here | apply In.there))) (by rfl)) ?_
          refine TA.as (.agg (PT ty seq src (.slice a xs.length cap))) (by rfl) ?_
          refine TA.take 1 rfl rfl rfl rfl (by kernel_rfl) (by kernel_rfl) (by kernel_rfl) rfl (by kernel_rfl) (by kernel_rfl) (fun _ _ _ h => h) (Y.move rfl rfl) ?_
          refine TA.take 2 rfl rfl rfl rfl (by kernel_rfl) (by kernel_rfl) (by kernel_rfl) rfl (by kernel_rfl) (by kernel_rfl) (fun _ _ _ h => h) (Y.nilCheck rfl rfl) ?_
          refine TA.take 3 rfl rfl rfl rfl (by kernel_rfl) (by kernel_rfl) (by kernel_rfl) rfl (by kernel_rfl) (by kernel_rfl) (fun _ _ _ h => h) (by first | exact Y.fieldAddrJ rfl fo61_2 rfl (by ((try simp only [Nat.zero_add, Nat.add_zero, Nat.mul_one, Nat.one_mul, Nat.mul_zero, Nat.zero_mul]) <;> rfl)) | exact Y.fieldAddr rfl fo61_2 rfl (by ((try simp only [Nat.zero_add, Nat.add_zero, Nat.mul_one, Nat.one_mul, Nat.mul_zero, Nat.zero_mul]) <;> rfl))) ?_
          refine TA.take 4 rfl rfl rfl rfl (by kernel_rfl) (by kernel_rfl) (by kernel_rfl) rfl (by kernel_rfl) (by kernel_rfl) (fun _ _ _ h => h) (Y.load rfl sc3 rfl (by first | exact Cel.at0 Reads.owns (by with_reducible (repeat first | apply In.here | apply In.there)) (by assumption) (by rfl) | exact Cel.at Reads.owns (by with_reducible (repeat first | apply In.here | apply In.there)) (by assumption) (by rfl) | exact Cel.datAt0 (by with_reducible (repeat first | apply In.here | apply In.there)) (by assumption) (by rfl) | exact Cel.datAt (by with_reducible (repeat first | apply In.here | apply In.there)) (by assumption) (by rfl) | exact Cel.datAtS (by with_reducible (repeat first | apply In.here | apply In.there)) (by assumption) (by rfl) | exact Cel.blk (by with_reducible (repeat first | apply In.here | apply In.there)) (by first | exact getM (d := (0 : Nat)) (by ((try simp only [List.length_set, List.length_map, List.length_append, List.length_replicate, List.size_toArray, List.length_cons, List.length_nil, Array.size_setIfInBounds]); (first | omega | exact of_decide_eq_true (by rfl)))) | rfl) | exact Cel.rblk (by with_reducible (repeat first | apply In.here | apply In.there)) (by first | exact getM (d := (0 : Nat)) (by ((try simp only [List.length_set, List.length_map, List.length_append, List.length_replicate, List.size_toArray, List.length_cons, List.length_nil, Array.size_setIfInBounds]); (first | omega | exact of_decide_eq_true (by rfl)))) | rfl) | exact Cel.rds (by with_reducible (repeat first | apply In.here | apply In.there)) (getML (d := (0 : Nat)) (by ((try simp only [List.length_set, List.length_map, List.length_append, List.length_replicate, List.size_toArray, List.length_cons, List.length_nil, Array.size_setIfInBounds]); (first | omega | exact of_decide_eq_true (by rfl))))) | exact Cel.rdsB (by with_reducible (repeat first | apply In.here | apply In.there)) (getML (d := (0 : Nat)) (by ((try simp only [List.length_set, List.length_map, List.length_append, List.length_replicate, List.size_toArray, List.length_cons, List.length_nil, Array.size_setIfInBounds]); (first | omega | exact of_decide_eq_true (by rfl))))) | exact Cel.owns (by with_reducible (repeat first | apply In.here | apply In.there)) (getML (d := (0 : Nat)) (by ((try simp only [List.length_set, List.length_map, List.length_append, List.length_replicate, List.size_toArray, List.length_cons, List.length_nil, Array.size_setIfInBounds]); (first | omega | exact of_decide_eq_true (by rfl))))) | exact Cel.reads (by assumption) (by with_reducible (repeat first | apply In.here | apply In.there)) (getML (d := (0 : Nat)) (by ((try simp only [List.length_set, List.length_map, List.length_append, List.length_replicate, List.size_toArray, List.length_cons, List.length_nil, Array.size_setIfInBounds]); (first | omega | exact of_decide_eq_true (by rfl))))) | exact Cel.rds0 (by with_reducible (repeat first | apply In.here | apply In.there)) (getML (d := (0 : Nat)) (by ((try simp only [List.length_set, List.length_map, List.length_append, List.length_replicate, List.size_toArray, List.length_cons, List.length_nil, Array.size_setIfInBounds]); (first | omega | exact of_decide_eq_true (by rfl))))) | exact Cel.owns0 (by with_reducible (repeat first | apply In.here | apply In.there)) (getML (d := (0 : Nat)) (by ((try simp only [List.length_set, List.length_map, List.length_append, List.length_replicate, List.size_toArray, List.length_cons, List.length_nil, Array.size_setIfInBounds]); (first | omega | exact of_decide_eq_true (by rfl))))))) ?_
          refine TA.as (vI rid) (by rfl) ?_
          refine TA.one 5 (by kernel_rfl) rfl rfl rfl rfl (X.call rfl Try.func24 (by kernel_rfl) rfl rfl (Fn.preE (by repeat first | (with_reducible apply Ent.refl) | (apply Ent.cons; case h => first | (with_reducible (repeat first | apply Pull.here | apply Pull.there); done) | (repeat first | apply Pull.here | apply Pull.there))) (Find_fn ty seq src a cap xs hok rid _))) ?_
          rintro _ _ ⟨a50, c50, rfl, rfl⟩
          refine ⟨(Or.inr (by repeat first | exact holds_nil | refine holds_cons (by with_reducible (repeat first | apply In.here | apply In.there)) ?_)), ?_⟩
          refine TA.take 6 rfl rfl rfl rfl (by kernel_rfl) (by kernel_rfl) (by kernel_rfl) rfl (by kernel_rfl) (by kernel_rfl) (fun _ _ _ h => h) (Y.move rfl rfl) ?_
          refine TA.take 7 rfl rfl rfl rfl (by kernel_rfl) (by kernel_rfl) (by kernel_rfl) rfl (by kernel_rfl) (by kernel_rfl) (fun _ _ _ h => h) (Y.extract rfl rfl rfl) ?_
          refine TA.as (.slice a50 (fv xs rid).length c50) (by rfl) ?_
          refine TA.take 8 rfl rfl rfl rfl (by kernel_rfl) (by kernel_rfl) (by kernel_rfl) rfl (by kernel_rfl) (by kernel_rfl) (fun _ _ _ h => h) (Y.extract rfl rfl rfl) ?_
          refine TA.as (.bool (fx xs rid).isSome) (by rfl) ?_
          refine TA.take 9 rfl rfl rfl rfl (by kernel_rfl) (by kernel_rfl) (by kernel_rfl) rfl (by kernel_rfl) (by kernel_rfl) (fun _ _ _ h => h) (Y.assign rfl rfl) ?_
          refine TA.take 10 rfl rfl rfl rfl (by kernel_rfl) (by kernel_rfl) (by kernel_rfl) rfl (by kernel_rfl) (by kernel_rfl) (fun _ _ _ h => h) (Y.assign rfl rfl) ?_
          refine TA.done (by kernel_rfl) ?_
          refine TQ.next ?_
          refine TC.seq ?_
          refine TC.region ?_
          refine TL.val rfl rfl rfl (Y.move rfl rfl) ?_
          refine TL.val rfl rfl rfl (Y.move rfl rfl) ?_
          refine TL.case (fun g9_1 => ?_) (fun g9_1 => ?_)
          · try simp only [decide_eq_true_eq, decide_eq_false_iff_not, Bool.not_eq_true', Bool.not_eq_false', Nat.not_lt, Nat.not_le, beq_iff_eq, bne_iff_ne] at g9_1
            refine TL.valG rfl rfl rfl (Y.move rfl rfl) ?_
            refine TL.valG rfl rfl rfl (Y.nilCheck rfl rfl) ?_
            refine TL.valG rfl rfl rfl (by first | exact Y.fieldAddrJ rfl fo61_2 rfl (by ((try simp only [Nat.zero_add, Nat.add_zero, Nat.mul_one, Nat.one_mul, Nat.mul_zero, Nat.zero_mul]) <;> rfl)) | exact Y.fieldAddr rfl fo61_2 rfl (by ((try simp only [Nat.zero_add, Nat.add_zero, Nat.mul_one, Nat.one_mul, Nat.mul_zero, Nat.zero_mul]) <;> rfl))) ?_
            refine TL.valG rfl rfl rfl (Y.load rfl sc3 rfl (by first | exact Cel.at0 Reads.owns (by with_reducible (repeat first | apply In.here | apply In.there)) (by assumption) (by rfl) | exact Cel.at Reads.owns (by with_reducible (repeat first | apply In.here | apply In.there)) (by assumption) (by rfl) | exact Cel.datAt0 (by with_reducible (repeat first | apply In.here | apply In.there)) (by assumption) (by rfl) | exact Cel.datAt (by with_reducible (repeat first | apply In.here | apply In.there)) (by assumption) (by rfl) | exact Cel.datAtS (by with_reducible (repeat first | apply In.here | apply In.there)) (by assumption) (by rfl) | exact Cel.blk (by with_reducible (repeat first | apply In.here | apply In.there)) (by first | exact getM (d := (0 : Nat)) (by ((try simp only [List.length_set, List.length_map, List.length_append, List.length_replicate, List.size_toArray, List.length_cons, List.length_nil, Array.size_setIfInBounds]); (first | omega | exact of_decide_eq_true (by rfl)))) | rfl) | exact Cel.rblk (by with_reducible (repeat first | apply In.here | apply In.there)) (by first | exact getM (d := (0 : Nat)) (by ((try simp only [List.length_set, List.length_map, List.length_append, List.length_replicate, List.size_toArray, List.length_cons, List.length_nil, Array.size_setIfInBounds]); (first | omega | exact of_decide_eq_true (by rfl)))) | rfl) | exact Cel.rds (by with_reducible (repeat first | apply In.here | apply In.there)) (getML (d := (0 : Nat)) (by ((try simp only [List.length_set, List.length_map, List.length_append, List.length_replicate, List.size_toArray, List.length_cons, List.length_nil, Array.size_setIfInBounds]); (first | omega | exact of_decide_eq_true (by rfl))))) | exact Cel.rdsB (by with_reducible (repeat first | apply In.here | apply In.there)) (getML (d := (0 : Nat)) (by ((try simp only [List.length_set, List.length_map, List.length_append, List.length_replicate, List.size_toArray, List.length_cons, List.length_nil, Array.size_setIfInBounds]); (first | omega | exact of_decide_eq_true (by rfl))))) | exact Cel.owns (by with_reducible (repeat first | apply In.here | apply In.there)) (getML (d := (0 : Nat)) (by ((try simp only [List.length_set, List.length_map, List.length_append, List.length_replicate, List.size_toArray, List.length_cons, List.length_nil, Array.size_setIfInBounds]); (first | omega | exact of_decide_eq_true (by rfl))))) | exact Cel.reads (by assumption) (by with_reducible (repeat first | apply In.here | apply In.there)) (getML (d := (0 : Nat)) (by ((try simp only [List.length_set, List.length_map, List.length_append, List.length_replicate, List.size_toArray, List.length_cons, List.length_nil, Array.size_setIfInBounds]); (first | omega | exact of_decide_eq_true (by rfl))))) | exact Cel.rds0 (by with_reducible (repeat first | apply In.here | apply In.there)) (getML (d := (0 : Nat)) (by ((try simp only [List.length_set, List.length_map, List.length_append, List.length_replicate, List.size_toArray, List.length_cons, List.length_nil, Array.size_setIfInBounds]); (first | omega | exact of_decide_eq_true (by rfl))))) | exact Cel.owns0 (by with_reducible (repeat first | apply In.here | apply In.there)) (getML (d := (0 : Nat)) (by ((try simp only [List.length_set, List.length_map, List.length_append, List.length_replicate, List.size_toArray, List.length_cons, List.length_nil, Array.size_setIfInBounds]); (first | omega | exact of_decide_eq_true (by rfl))))))) ?_
            refine TL.as (vI rid) (by rfl) ?_
            refine TL.valG rfl rfl rfl (Y.bin rfl rfl rfl (br_gtI (n := 0))) ?_
            refine TL.val rfl rfl rfl (Y.pick_t rfl rfl rfl) ?_
            refine TL.nil ?_
            refine TQ.next ?_
            refine TC.cond rfl (fun c2 => ?_) (fun c2 => ?_)
            · try simp only [decide_eq_true_eq, decide_eq_false_iff_not, Bool.not_eq_true', Bool.not_eq_false', Bool.and_eq_true, Bool.or_eq_true, Nat.not_lt, Nat.not_le, beq_iff_eq, bne_iff_ne] at c2
              refine TC.seq ?_
              refine TC.region ?_
              refine TL.val rfl rfl rfl (Y.move rfl rfl) ?_
              refine TL.val rfl rfl rfl (Y.str rfl Try.underlying37 Try.underlying9 Try.underlying5 rfl Reads.owns (by with_reducible (repeat first | apply In.here | apply In.there))) ?_
              refine TL.val rfl rfl rfl (Y.assign rfl rfl) ?_
              refine TL.nil ?_
              refine TQ.next ?_
              refine TC.seq ?_
              refine TC.region ?_
              refine TL.val rfl rfl rfl (Y.move rfl rfl) ?_
              refine TL.val rfl rfl rfl (Y.nilCheck rfl rfl) ?_
              refine TL.val rfl rfl rfl (by first | exact Y.fieldAddrJ rfl fo61_0 rfl (by ((try simp only [Nat.zero_add, Nat.add_zero, Nat.mul_one, Nat.one_mul, Nat.mul_zero, Nat.zero_mul]) <;> rfl)) | exact Y.fieldAddr rfl fo61_0 rfl (by ((try simp only [Nat.zero_add, Nat.add_zero, Nat.mul_one, Nat.one_mul, Nat.mul_zero, Nat.zero_mul]) <;> rfl))) ?_
              refine TL.val rfl rfl rfl (Y.load rfl sc27 rfl (by first | exact Cel.at0 Reads.owns (by with_reducible (repeat first | apply In.here | apply In.there)) (by assumption) (by rfl) | exact Cel.at Reads.owns (by with_reducible (repeat first | apply In.here | apply In.there)) (by assumption) (by rfl) | exact Cel.datAt0 (by with_reducible (repeat first | apply In.here | apply In.there)) (by assumption) (by rfl) | exact Cel.datAt (by with_reducible (repeat first | apply In.here | apply In.there)) (by assumption) (by rfl) | exact Cel.datAtS (by with_reducible (repeat first | apply In.here | apply In.there)) (by assumption) (by rfl) | exact Cel.blk (by with_reducible (repeat first | apply In.here | apply In.there)) (by first | exact getM (d := default) (by ((try simp only [List.length_set, List.length_map, List.length_append, List.length_replicate, List.size_toArray, List.length_cons, List.length_nil, Array.size_setIfInBounds]); (first | omega | exact of_decide_eq_true (by rfl)))) | rfl) | exact Cel.rblk (by with_reducible (repeat first | apply In.here | apply In.there)) (by first | exact getM (d := default) (by ((try simp only [List.length_set, List.length_map, List.length_append, List.length_replicate, List.size_toArray, List.length_cons, List.length_nil, Array.size_setIfInBounds]); (first | omega | exact of_decide_eq_true (by rfl)))) | rfl) | exact Cel.rds (by with_reducible (repeat first | apply In.here | apply In.there)) (getML (d := default) (by ((try simp only [List.length_set, List.length_map, List.length_append, List.length_replicate, List.size_toArray, List.length_cons, List.length_nil, Array.size_setIfInBounds]); (first | omega | exact of_decide_eq_true (by rfl))))) | exact Cel.rdsB (by with_reducible (repeat first | apply In.here | apply In.there)) (getML (d := default) (by ((try simp only [List.length_set, List.length_map, List.length_append, List.length_replicate, List.size_toArray, List.length_cons, List.length_nil, Array.size_setIfInBounds]); (first | omega | exact of_decide_eq_true (by rfl))))) | exact Cel.owns (by with_reducible (repeat first | apply In.here | apply In.there)) (getML (d := default) (by ((try simp only [List.length_set, List.length_map, List.length_append, List.length_replicate, List.size_toArray, List.length_cons, List.length_nil, Array.size_setIfInBounds]); (first | omega | exact of_decide_eq_true (by rfl))))) | exact Cel.reads (by assumption) (by with_reducible (repeat first | apply In.here | apply In.there)) (getML (d := default) (by ((try simp only [List.length_set, List.length_map, List.length_append, List.length_replicate, List.size_toArray, List.length_cons, List.length_nil, Array.size_setIfInBounds]); (first | omega | exact of_decide_eq_true (by rfl))))) | exact Cel.rds0 (by with_reducible (repeat first | apply In.here | apply In.there)) (getML (d := default) (by ((try simp only [List.length_set, List.length_map, List.length_append, List.length_replicate, List.size_toArray, List.length_cons, List.length_nil, Array.size_setIfInBounds]); (first | omega | exact of_decide_eq_true (by rfl))))) | exact Cel.owns0 (by with_reducible (repeat first | apply In.here | apply In.there)) (getML (d := default) (by ((try simp only [List.length_set, List.length_map, List.length_append, List.length_replicate, List.size_toArray, List.length_cons, List.length_nil, Array.size_setIfInBounds]); (first | omega | exact of_decide_eq_true (by rfl))))))) ?_
              refine TL.as (.slice (some ⟨g, off, none⟩) ls.length lc) (by rfl) ?_
              refine TL.val rfl rfl rfl (Y.move rfl rfl) ?_
              refine TL.as (vN n.toNat) (by (show vI _ = vI _; congr 1; omega)) ?_
              refine TL.val rfl rfl rfl (by first | exact Y.indexSlB rfl sl27 rfl rfl (by omega) (by ((try simp only [Nat.zero_add, Nat.add_zero, Nat.mul_one, Nat.one_mul, Nat.mul_zero, Nat.zero_mul]) <;> rfl)) | exact Y.indexSl rfl sl27 rfl rfl (by omega) (by ((try simp only [Nat.zero_add, Nat.add_zero, Nat.mul_one, Nat.one_mul, Nat.mul_zero, Nat.zero_mul]) <;> rfl))) ?_
              refine TL.val rfl rfl rfl (by first | exact Y.fieldAddrJ rfl fo50_3 rfl (by ((try simp only [Nat.zero_add, Nat.add_zero, Nat.mul_one, Nat.one_mul, Nat.mul_zero, Nat.zero_mul]) <;> rfl)) | exact Y.fieldAddr rfl fo50_3 rfl (by ((try simp only [Nat.zero_add, Nat.add_zero, Nat.mul_one, Nat.one_mul, Nat.mul_zero, Nat.zero_mul]) <;> rfl))) ?_
              refine TL.val rfl rfl rfl (Y.load rfl sc48 rfl (by first | exact Cel.at0 Reads.owns (by with_reducible (repeat first | apply In.here | apply In.there)) (by assumption) (by rfl) | exact Cel.at Reads.owns (by with_reducible (repeat first | apply In.here | apply In.there)) (by assumption) (by rfl) | exact Cel.datAt0 (by with_reducible (repeat first | apply In.here | apply In.there)) (by assumption) (by rfl) | exact Cel.datAt (by with_reducible (repeat first | apply In.here | apply In.there)) (by assumption) (by rfl) | exact Cel.datAtS (by with_reducible (repeat first | apply In.here | apply In.there)) (by assumption) (by rfl) | exact Cel.blk (by with_reducible (repeat first | apply In.here | apply In.there)) (by first | exact getM (d := default) (by ((try simp only [List.length_set, List.length_map, List.length_append, List.length_replicate, List.size_toArray, List.length_cons, List.length_nil, Array.size_setIfInBounds]); (first | omega | exact of_decide_eq_true (by rfl)))) | rfl) | exact Cel.rblk (by with_reducible (repeat first | apply In.here | apply In.there)) (by first | exact getM (d := default) (by ((try simp only [List.length_set, List.length_map, List.length_append, List.length_replicate, List.size_toArray, List.length_cons, List.length_nil, Array.size_setIfInBounds]); (first | omega | exact of_decide_eq_true (by rfl)))) | rfl) | exact Cel.rds (by with_reducible (repeat first | apply In.here | apply In.there)) (getML (d := default) (by ((try simp only [List.length_set, List.length_map, List.length_append, List.length_replicate, List.size_toArray, List.length_cons, List.length_nil, Array.size_setIfInBounds]); (first | omega | exact of_decide_eq_true (by rfl))))) | exact Cel.rdsB (by with_reducible (repeat first | apply In.here | apply In.there)) (getML (d := default) (by ((try simp only [List.length_set, List.length_map, List.length_append, List.length_replicate, List.size_toArray, List.length_cons, List.length_nil, Array.size_setIfInBounds]); (first | omega | exact of_decide_eq_true (by rfl))))) | exact Cel.owns (by with_reducible (repeat first | apply In.here | apply In.there)) (getML (d := default) (by ((try simp only [List.length_set, List.length_map, List.length_append, List.length_replicate, List.size_toArray, List.length_cons, List.length_nil, Array.size_setIfInBounds]); (first | omega | exact of_decide_eq_true (by rfl))))) | exact Cel.reads (by assumption) (by with_reducible (repeat first | apply In.here | apply In.there)) (getML (d := default) (by ((try simp only [List.length_set, List.length_map, List.length_append, List.length_replicate, List.size_toArray, List.length_cons, List.length_nil, Array.size_setIfInBounds]); (first | omega | exact of_decide_eq_true (by rfl))))) | exact Cel.rds0 (by with_reducible (repeat first | apply In.here | apply In.there)) (getML (d := default) (by ((try simp only [List.length_set, List.length_map, List.length_append, List.length_replicate, List.size_toArray, List.length_cons, List.length_nil, Array.size_setIfInBounds]); (first | omega | exact of_decide_eq_true (by rfl))))) | exact Cel.owns0 (by with_reducible (repeat first | apply In.here | apply In.there)) (getML (d := default) (by ((try simp only [List.length_set, List.length_map, List.length_append, List.length_replicate, List.size_toArray, List.length_cons, List.length_nil, Array.size_setIfInBounds]); (first | omega | exact of_decide_eq_true (by rfl))))))) ?_
              refine TL.as (x.2.2.2.v) (by rfl) ?_
              refine TL.val rfl rfl rfl (Y.move rfl rfl) ?_
              refine TL.eff rfl rfl rfl (X.call rfl Try.func25 (by kernel_rfl) rfl rfl (Fn.preE (by repeat first | (with_reducible apply Ent.refl) | (apply Ent.cons; case h => first | (with_reducible (repeat first | apply Pull.here | apply Pull.there); done) | (repeat first | apply Pull.here | apply Pull.there))) (cts.Contains_fn (SA.dat x.2.2.2) x.2.2.2.a _ x.2.2.2.cap x.2.2.2.l (bstr (fv xs rid)) Reads.dat rfl _))) ?_
              rintro _ _ ⟨rfl, rfl⟩
              refine TL.val rfl rfl rfl (Y.not rfl rfl) ?_
              refine TL.nil ?_
              refine TQ.next ?_
              refine TC.cond rfl (fun c3 => ?_) (fun c3 => ?_)
              · try simp only [decide_eq_true_eq, decide_eq_false_iff_not, Bool.not_eq_true', Bool.not_eq_false', Bool.and_eq_true, Bool.or_eq_true, Nat.not_lt, Nat.not_le, beq_iff_eq, bne_iff_ne] at c3
                refine TC.seq ?_
                have hs : gs ls mid rid l ty src xs = (0, .empty, 7) := by rw [hgs2, gs2, if_pos ⟨g9_1, c2⟩, if_neg (by simpa using c3)]
                refine TC.region ?_
                refine TL.val rfl rfl rfl (Y.assign rfl rfl) ?_
                refine TL.val rfl rfl rfl (Y.assign rfl rfl) ?_
                refine TL.val rfl rfl rfl (Y.assign rfl rfl) ?_
                refine TL.nil ?_
                refine TQ.next ?_
                refine TC.ret ?_
                refine TQ.then_ret ?_
                refine TQ.retE (resL rfl (Res.tmp rfl (Res.tmp rfl (Res.tmp rfl Res.nil)))) (⟨by (rw [hs]) <;> rfl, rfl⟩) ?_
                exact (by (repeat first | (with_reducible apply Ent.refl) | (with_reducible apply Ent.nil) | refine Ent.cons (by first | (with_reducible (repeat first | apply Pull.here | apply Pull.there); done) | (repeat first | apply Pull.here | apply Pull.there)) ?_ | refine Ent.skip ?_))
              · try simp only [decide_eq_true_eq, decide_eq_false_iff_not, Bool.not_eq_true', Bool.not_eq_false', Bool.and_eq_true, Bool.or_eq_true, Nat.not_lt, Nat.not_le, beq_iff_eq, bne_iff_ne] at c3
                have hA : gs2 x rid l src xs n = fin l src n (bstr (fv xs rid)) := by rw [gs2, if_pos ⟨g9_1, c2⟩, if_pos (by simpa using c3)]
                refine TC.skip ?_
                refine TQ.meetF ((by first | (have := hA; exact bstr (fv xs rid)) | (have := hB; exact lr) | exact .empty)) ((by first | exact hA | exact hB | exact hC | exact hD g13_1)) ⟨rfl, trivial⟩ (by (repeat first | apply Grow.refl | apply Grow.step | apply Grow.app)) ?_ ?_
                · kernel_rfl
                · simp only [List.cons_append, List.nil_append]
                  exact (by (repeat first | (with_reducible apply Ent.refl) | (with_reducible apply Ent.nil) | refine Ent.cons (by first | (with_reducible (repeat first | apply Pull.here | apply Pull.there); done) | (repeat first | apply Pull.here | apply Pull.there)) ?_ | refine Ent.skip ?_))
            · try simp only [decide_eq_true_eq, decide_eq_false_iff_not, Bool.not_eq_true', Bool.not_eq_false', Bool.and_eq_true, Bool.or_eq_true, Nat.not_lt, Nat.not_le, beq_iff_eq, bne_iff_ne] at c2
              refine TC.seq ?_
              have hD : ok = false → gs2 x rid l src xs n = fin l src n .empty := fun hk => by
                rw [gs2, if_neg (by rintro ⟨h1, h2⟩; first | exact absurd h2 (by omega) | exact absurd (h1.symm.trans g9_1) (by decide)), hg, if_neg (by rintro ⟨h1, h2⟩; exact absurd (h1.symm.trans hk) (by decide))]
              refine TC.region ?_
              refine TL.val rfl rfl rfl (Y.move rfl rfl) ?_
              refine TL.as (.bool ok) (by rfl) ?_
              refine TL.val rfl rfl rfl (Y.move rfl rfl) ?_
              refine TL.case (fun g13_1 => ?_) (fun g13_1 => ?_)
              · try simp only [decide_eq_true_eq, decide_eq_false_iff_not, Bool.not_eq_true', Bool.not_eq_false', Nat.not_lt, Nat.not_le, beq_iff_eq, bne_iff_ne] at g13_1
                refine TL.valG rfl rfl rfl (by first | exact Y.fieldAddrJ rfl fo59_0 rfl (by ((try simp only [Nat.zero_add, Nat.add_zero, Nat.mul_one, Nat.one_mul, Nat.mul_zero, Nat.zero_mul]) <;> rfl)) | exact Y.fieldAddr rfl fo59_0 rfl (by ((try simp only [Nat.zero_add, Nat.add_zero, Nat.mul_one, Nat.one_mul, Nat.mul_zero, Nat.zero_mul]) <;> rfl))) ?_
                refine TL.valG rfl rfl rfl (Y.load rfl sc3 rfl (by first | exact Cel.at0 Reads.owns (by with_reducible (repeat first | apply In.here | apply In.there)) (by assumption) (by rfl) | exact Cel.at Reads.owns (by with_reducible (repeat first | apply In.here | apply In.there)) (by assumption) (by rfl) | exact Cel.datAt0 (by with_reducible (repeat first | apply In.here | apply In.there)) (by assumption) (by rfl) | exact Cel.datAt (by with_reducible (repeat first | apply In.here | apply In.there)) (by assumption) (by rfl) | exact Cel.datAtS (by with_reducible (repeat first | apply In.here | apply In.there)) (by assumption) (by rfl) | exact Cel.blk (by with_reducible (repeat first | apply In.here | apply In.there)) (by first | exact getM (d := (0 : Nat)) (by ((try simp only [List.length_set, List.length_map, List.length_append, List.length_replicate, List.size_toArray, List.length_cons, List.length_nil, Array.size_setIfInBounds]); (first | omega | exact of_decide_eq_true (by rfl)))) | rfl) | exact Cel.rblk (by with_reducible (repeat first | apply In.here | apply In.there)) (by first | exact getM (d := (0 : Nat)) (by ((try simp only [List.length_set, List.length_map, List.length_append, List.length_replicate, List.size_toArray, List.length_cons, List.length_nil, Array.size_setIfInBounds]); (first | omega | exact of_decide_eq_true (by rfl)))) | rfl) | exact Cel.rds (by with_reducible (repeat first | apply In.here | apply In.there)) (getML (d := (0 : Nat)) (by ((try simp only [List.length_set, List.length_map, List.length_append, List.length_replicate, List.size_toArray, List.length_cons, List.length_nil, Array.size_setIfInBounds]); (first | omega | exact of_decide_eq_true (by rfl))))) | exact Cel.rdsB (by with_reducible (repeat first | apply In.here | apply In.there)) (getML (d := (0 : Nat)) (by ((try simp only [List.length_set, List.length_map, List.length_append, List.length_replicate, List.size_toArray, List.length_cons, List.length_nil, Array.size_setIfInBounds]); (first | omega | exact of_decide_eq_true (by rfl))))) | exact Cel.owns (by with_reducible (repeat first | apply In.here | apply In.there)) (getML (d := (0 : Nat)) (by ((try simp only [List.length_set, List.length_map, List.length_append, List.length_replicate, List.size_toArray, List.length_cons, List.length_nil, Array.size_setIfInBounds]); (first | omega | exact of_decide_eq_true (by rfl))))) | exact Cel.reads (by assumption) (by with_reducible (repeat first | apply In.here | apply In.there)) (getML (d := (0 : Nat)) (by ((try simp only [List.length_set, List.length_map, List.length_append, List.length_replicate, List.size_toArray, List.length_cons, List.length_nil, Array.size_setIfInBounds]); (first | omega | exact of_decide_eq_true (by rfl))))) | exact Cel.rds0 (by with_reducible (repeat first | apply In.here | apply In.there)) (getML (d := (0 : Nat)) (by ((try simp only [List.length_set, List.length_map, List.length_append, List.length_replicate, List.size_toArray, List.length_cons, List.length_nil, Array.size_setIfInBounds]); (first | omega | exact of_decide_eq_true (by rfl))))) | exact Cel.owns0 (by with_reducible (repeat first | apply In.here | apply In.there)) (getML (d := (0 : Nat)) (by ((try simp only [List.length_set, List.length_map, List.length_append, List.length_replicate, List.size_toArray, List.length_cons, List.length_nil, Array.size_setIfInBounds]); (first | omega | exact of_decide_eq_true (by rfl))))))) ?_
                refine TL.as (vI ll) (by rfl) ?_
                refine TL.valG rfl rfl rfl (Y.move rfl rfl) ?_
                refine TL.valG rfl rfl rfl (Y.bin rfl rfl rfl (br_eqI)) ?_
                refine TL.val rfl rfl rfl (Y.pick_t rfl rfl rfl) ?_
                refine TL.nil ?_
                refine TQ.next ?_
                refine TC.cond rfl (fun c4 => ?_) (fun c4 => ?_)
                · try simp only [decide_eq_true_eq, decide_eq_false_iff_not, Bool.not_eq_true', Bool.not_eq_false', Bool.and_eq_true, Bool.or_eq_true, Nat.not_lt, Nat.not_le, beq_iff_eq, bne_iff_ne] at c4
                  have hB : gs2 x rid l src xs n = fin l src n lr := by rw [gs2, if_neg (by rintro ⟨h1, h2⟩; first | exact absurd h2 (by omega) | exact absurd (h1.symm.trans g9_1) (by decide)), hg, if_pos ⟨g13_1, c4⟩]
                  refine TC.region ?_
                  refine TL.val rfl rfl rfl (by first | exact Y.fieldAddrJ rfl fo59_1 rfl (by ((try simp only [Nat.zero_add, Nat.add_zero, Nat.mul_one, Nat.one_mul, Nat.mul_zero, Nat.zero_mul]) <;> rfl)) | exact Y.fieldAddr rfl fo59_1 rfl (by ((try simp only [Nat.zero_add, Nat.add_zero, Nat.mul_one, Nat.one_mul, Nat.mul_zero, Nat.zero_mul]) <;> rfl))) ?_
                  refine TL.val rfl rfl rfl (Y.load rfl sc9 rfl (by first | exact Cel.at0 Reads.owns (by with_reducible (repeat first | apply In.here | apply In.there)) (by assumption) (by rfl) | exact Cel.at Reads.owns (by with_reducible (repeat first | apply In.here | apply In.there)) (by assumption) (by rfl) | exact Cel.datAt0 (by with_reducible (repeat first | apply In.here | apply In.there)) (by assumption) (by rfl) | exact Cel.datAt (by with_reducible (repeat first | apply In.here | apply In.there)) (by assumption) (by rfl) | exact Cel.datAtS (by with_reducible (repeat first | apply In.here | apply In.there)) (by assumption) (by rfl) | exact Cel.blk (by with_reducible (repeat first | apply In.here | apply In.there)) (by first | exact getM (d := default) (by ((try simp only [List.length_set, List.length_map, List.length_append, List.length_replicate, List.size_toArray, List.length_cons, List.length_nil, Array.size_setIfInBounds]); (first | omega | exact of_decide_eq_true (by rfl)))) | rfl) | exact Cel.rblk (by with_reducible (repeat first | apply In.here | apply In.there)) (by first | exact getM (d := default) (by ((try simp only [List.length_set, List.length_map, List.length_append, List.length_replicate, List.size_toArray, List.length_cons, List.length_nil, Array.size_setIfInBounds]); (first | omega | exact of_decide_eq_true (by rfl)))) | rfl) | exact Cel.rds (by with_reducible (repeat first | apply In.here | apply In.there)) (getML (d := default) (by ((try simp only [List.length_set, List.length_map, List.length_append, List.length_replicate, List.size_toArray, List.length_cons, List.length_nil, Array.size_setIfInBounds]); (first | omega | exact of_decide_eq_true (by rfl))))) | exact Cel.rdsB (by with_reducible (repeat first | apply In.here | apply In.there)) (getML (d := default) (by ((try simp only [List.length_set, List.length_map, List.length_append, List.length_replicate, List.size_toArray, List.length_cons, List.length_nil, Array.size_setIfInBounds]); (first | omega | exact of_decide_eq_true (by rfl))))) | exact Cel.owns (by with_reducible (repeat first | apply In.here | apply In.there)) (getML (d := default) (by ((try simp only [List.length_set, List.length_map, List.length_append, List.length_replicate, List.size_toArray, List.length_cons, List.length_nil, Array.size_setIfInBounds]); (first | omega | exact of_decide_eq_true (by rfl))))) | exact Cel.reads (by assumption) (by with_reducible (repeat first | apply In.here | apply In.there)) (getML (d := default) (by ((try simp only [List.length_set, List.length_map, List.length_append, List.length_replicate, List.size_toArray, List.length_cons, List.length_nil, Array.size_setIfInBounds]); (first | omega | exact of_decide_eq_true (by rfl))))) | exact Cel.rds0 (by with_reducible (repeat first | apply In.here | apply In.there)) (getML (d := default) (by ((try simp only [List.length_set, List.length_map, List.length_append, List.length_replicate, List.size_toArray, List.length_cons, List.length_nil, Array.size_setIfInBounds]); (first | omega | exact of_decide_eq_true (by rfl))))) | exact Cel.owns0 (by with_reducible (repeat first | apply In.here | apply In.there)) (getML (d := default) (by ((try simp only [List.length_set, List.length_map, List.length_append, List.length_replicate, List.size_toArray, List.length_cons, List.length_nil, Array.size_setIfInBounds]); (first | omega | exact of_decide_eq_true (by rfl))))))) ?_
                  refine TL.as (vS lr) (by rfl) ?_
                  refine TL.val rfl rfl rfl (Y.assign rfl rfl) ?_
                  refine TL.nil ?_
                  refine TQ.meetF ((by first | (have := hA; exact bstr (fv xs rid)) | (have := hB; exact lr) | exact .empty)) ((by first | exact hA | exact hB | exact hC | exact hD g13_1)) ⟨rfl, trivial⟩ (by (repeat first | apply Grow.refl | apply Grow.step | apply Grow.app)) ?_ ?_
                  · kernel_rfl
                  · simp only [List.cons_append, List.nil_append]
                    exact (by (repeat first | (with_reducible apply Ent.refl) | (with_reducible apply Ent.nil) | refine Ent.cons (by first | (with_reducible (repeat first | apply Pull.here | apply Pull.there); done) | (repeat first | apply Pull.here | apply Pull.there)) ?_ | refine Ent.skip ?_))
                · try simp only [decide_eq_true_eq, decide_eq_false_iff_not, Bool.not_eq_true', Bool.not_eq_false', Bool.and_eq_true, Bool.or_eq_true, Nat.not_lt, Nat.not_le, beq_iff_eq, bne_iff_ne] at c4
                  have hC : gs2 x rid l src xs n = fin l src n .empty := by rw [gs2, if_neg (by rintro ⟨h1, h2⟩; first | exact absurd h2 (by omega) | exact absurd (h1.symm.trans g9_1) (by decide)), hg, if_neg (by rintro ⟨h1, h2⟩; exact c4 h2)]
                  refine TC.skip ?_
                  refine TQ.meetF ((by first | (have := hA; exact bstr (fv xs rid)) | (have := hB; exact lr) | exact .empty)) ((by first | exact hA | exact hB | exact hC | exact hD g13_1)) ⟨rfl, trivial⟩ (by (repeat first | apply Grow.refl | apply Grow.step | apply Grow.app)) ?_ ?_
                  · kernel_rfl
                  · simp only [List.cons_append, List.nil_append]
                    exact (by (repeat first | (with_reducible apply Ent.refl) | (with_reducible apply Ent.nil) | refine Ent.cons (by first | (with_reducible (repeat first | apply Pull.here | apply Pull.there); done) | (repeat first | apply Pull.here | apply Pull.there)) ?_ | refine Ent.skip ?_))
              · try simp only [decide_eq_true_eq, decide_eq_false_iff_not, Bool.not_eq_true', Bool.not_eq_false', Nat.not_lt, Nat.not_le, beq_iff_eq, bne_iff_ne] at g13_1
                refine TL.not rfl rfl rfl ?_
                refine TL.not rfl rfl rfl ?_
                refine TL.not rfl rfl rfl ?_
                refine TL.not rfl rfl rfl ?_
                refine TL.val rfl rfl rfl (Y.pick_f rfl rfl rfl) ?_
                refine TL.nil ?_
                refine TQ.next ?_
                refine TC.cond_f rfl ?_
                refine TC.skip ?_
                refine TQ.meetF ((by first | (have := hA; exact bstr (fv xs rid)) | (have := hB; exact lr) | exact .empty)) ((by first | exact hA | exact hB | exact hC | exact hD g13_1)) ⟨rfl, trivial⟩ (by (repeat first | apply Grow.refl | apply Grow.step | apply Grow.app)) ?_ ?_
                · kernel_rfl
                · simp only [List.cons_append, List.nil_append]
                  exact (by (repeat first | (with_reducible apply Ent.refl) | (with_reducible apply Ent.nil) | refine Ent.cons (by first | (with_reducible (repeat first | apply Pull.here | apply Pull.there); done) | (repeat first | apply Pull.here | apply Pull.there)) ?_ | refine Ent.skip ?_))
          · try simp only [decide_eq_true_eq, decide_eq_false_iff_not, Bool.not_eq_true', Bool.not_eq_false', Nat.not_lt, Nat.not_le, beq_iff_eq, bne_iff_ne] at g9_1
            refine TL.not rfl rfl rfl ?_
            refine TL.not rfl rfl rfl ?_
            refine TL.not rfl rfl rfl ?_
            refine TL.not rfl rfl rfl ?_
            refine TL.not rfl rfl rfl ?_
            refine TL.val rfl rfl rfl (Y.pick_f rfl rfl rfl) ?_
            refine TL.nil ?_
            refine TQ.next ?_
            refine TC.cond_f rfl ?_
            refine TC.seq ?_
            have hD : ok = false → gs2 x rid l src xs n = fin l src n .empty := fun hk => by
              rw [gs2, if_neg (by rintro ⟨h1, h2⟩; first | exact absurd h2 (by omega) | exact absurd (h1.symm.trans g9_1) (by decide)), hg, if_neg (by rintro ⟨h1, h2⟩; exact absurd (h1.symm.trans hk) (by decide))]
            refine TC.region ?_
            refine TL.val rfl rfl rfl (Y.move rfl rfl) ?_
            refine TL.as (.bool ok) (by rfl) ?_
            refine TL.val rfl rfl rfl (Y.move rfl rfl) ?_
            refine TL.case (fun g13_1 => ?_) (fun g13_1 => ?_)
            · try simp only [decide_eq_true_eq, decide_eq_false_iff_not, Bool.not_eq_true', Bool.not_eq_false', Nat.not_lt, Nat.not_le, beq_iff_eq, bne_iff_ne] at g13_1
              refine TL.valG rfl rfl rfl (by first | exact Y.fieldAddrJ rfl fo59_0 rfl (by ((try simp only [Nat.zero_add, Nat.add_zero, Nat.mul_one, Nat.one_mul, Nat.mul_zero, Nat.zero_mul]) <;> rfl)) | exact Y.fieldAddr rfl fo59_0 rfl (by ((try simp only [Nat.zero_add, Nat.add_zero, Nat.mul_one, Nat.one_mul, Nat.mul_zero, Nat.zero_mul]) <;> rfl))) ?_
              refine TL.valG rfl rfl rfl (Y.load rfl sc3 rfl (by first | exact Cel.at0 Reads.owns (by with_reducible (repeat first | apply In.here | apply In.there)) (by assumption) (by rfl) | exact Cel.at Reads.owns (by with_reducible (repeat first | apply In.here | apply In.there)) (by assumption) (by rfl) | exact Cel.datAt0 (by with_reducible (repeat first | apply In.here | apply In.there)) (by assumption) (by rfl) | exact Cel.datAt (by with_reducible (repeat first | apply In.here | apply In.there)) (by assumption) (by rfl) | exact Cel.datAtS (by with_reducible (repeat first | apply In.here | apply In.there)) (by assumption) (by rfl) | exact Cel.blk (by with_reducible (repeat first | apply In.here | apply In.there)) (by first | exact getM (d := (0 : Nat)) (by ((try simp only [List.length_set, List.length_map, List.length_append, List.length_replicate, List.size_toArray, List.length_cons, List.length_nil, Array.size_setIfInBounds]); (first | omega | exact of_decide_eq_true (by rfl)))) | rfl) | exact Cel.rblk (by with_reducible (repeat first | apply In.here | apply In.there)) (by first | exact getM (d := (0 : Nat)) (by ((try simp only [List.length_set, List.length_map, List.length_append, List.length_replicate, List.size_toArray, List.length_cons, List.length_nil, Array.size_setIfInBounds]); (first | omega | exact of_decide_eq_true (by rfl)))) | rfl) | exact Cel.rds (by with_reducible (repeat first | apply In.here | apply In.there)) (getML (d := (0 : Nat)) (by ((try simp only [List.length_set, List.length_map, List.length_append, List.length_replicate, List.size_toArray, List.length_cons, List.length_nil, Array.size_setIfInBounds]); (first | omega | exact of_decide_eq_true (by rfl))))) | exact Cel.rdsB (by with_reducible (repeat first | apply In.here | apply In.there)) (getML (d := (0 : Nat)) (by ((try simp only [List.length_set, List.length_map, List.length_append, List.length_replicate, List.size_toArray, List.length_cons, List.length_nil, Array.size_setIfInBounds]); (first | omega | exact of_decide_eq_true (by rfl))))) | exact Cel.owns (by with_reducible (repeat first | apply In.here | apply In.there)) (getML (d := (0 : Nat)) (by ((try simp only [List.length_set, List.length_map, List.length_append, List.length_replicate, List.size_toArray, List.length_cons, List.length_nil, Array.size_setIfInBounds]); (first | omega | exact of_decide_eq_true (by rfl))))) | exact Cel.reads (by assumption) (by with_reducible (repeat first | apply In.here | apply In.there)) (getML (d := (0 : Nat)) (by ((try simp only [List.length_set, List.length_map, List.length_append, List.length_replicate, List.size_toArray, List.length_cons, List.length_nil, Array.size_setIfInBounds]); (first | omega | exact of_decide_eq_true (by rfl))))) | exact Cel.rds0 (by with_reducible (repeat first | apply In.here | apply In.there)) (getML (d := (0 : Nat)) (by ((try simp only [List.length_set, List.length_map, List.length_append, List.length_replicate, List.size_toArray, List.length_cons, List.length_nil, Array.size_setIfInBounds]); (first | omega | exact of_decide_eq_true (by rfl))))) | exact Cel.owns0 (by with_reducible (repeat first | apply In.here | apply In.there)) (getML (d := (0 : Nat)) (by ((try simp only [List.length_set, List.length_map, List.length_append, List.length_replicate, List.size_toArray, List.length_cons, List.length_nil, Array.size_setIfInBounds]); (first | omega | exact of_decide_eq_true (by rfl))))))) ?_
              refine TL.as (vI ll) (by rfl) ?_
              refine TL.valG rfl rfl rfl (Y.move rfl rfl) ?_
              refine TL.valG rfl rfl rfl (Y.bin rfl rfl rfl (br_eqI)) ?_
              refine TL.val rfl rfl rfl (Y.pick_t rfl rfl rfl) ?_
              refine TL.nil ?_
              refine TQ.next ?_
              refine TC.cond rfl (fun c4 => ?_) (fun c4 => ?_)
              · try simp only [decide_eq_true_eq, decide_eq_false_iff_not, Bool.not_eq_true', Bool.not_eq_false', Bool.and_eq_true, Bool.or_eq_true, Nat.not_lt, Nat.not_le, beq_iff_eq, bne_iff_ne] at c4
                have hB : gs2 x rid l src xs n = fin l src n lr := by rw [gs2, if_neg (by rintro ⟨h1, h2⟩; first | exact absurd h2 (by omega) | exact absurd (h1.symm.trans g9_1) (by decide)), hg, if_pos ⟨g13_1, c4⟩]
                refine TC.region ?_
                refine TL.val rfl rfl rfl (by first | exact Y.fieldAddrJ rfl fo59_1 rfl (by ((try simp only [Nat.zero_add, Nat.add_zero, Nat.mul_one, Nat.one_mul, Nat.mul_zero, Nat.zero_mul]) <;> rfl)) | exact Y.fieldAddr rfl fo59_1 rfl (by ((try simp only [Nat.zero_add, Nat.add_zero, Nat.mul_one, Nat.one_mul, Nat.mul_zero, Nat.zero_mul]) <;> rfl))) ?_
                refine TL.val rfl rfl rfl (Y.load rfl sc9 rfl (by first | exact Cel.at0 Reads.owns (by with_reducible (repeat first | apply In.here | apply In.there)) (by assumption) (by rfl) | exact Cel.at Reads.owns (by with_reducible (repeat first | apply In.here | apply In.there)) (by assumption) (by rfl) | exact Cel.datAt0 (by with_reducible (repeat first | apply In.here | apply In.there)) (by assumption) (by rfl) | exact Cel.datAt (by with_reducible (repeat first | apply In.here | apply In.there)) (by assumption) (by rfl) | exact Cel.datAtS (by with_reducible (repeat first | apply In.here | apply In.there)) (by assumption) (by rfl) | exact Cel.blk (by with_reducible (repeat first | apply In.here | apply In.there)) (by first | exact getM (d := default) (by ((try simp only [List.length_set, List.length_map, List.length_append, List.length_replicate, List.size_toArray, List.length_cons, List.length_nil, Array.size_setIfInBounds]); (first | omega | exact of_decide_eq_true (by rfl)))) | rfl) | exact Cel.rblk (by with_reducible (repeat first | apply In.here | apply In.there)) (by first | exact getM (d := default) (by ((try simp only [List.length_set, List.length_map, List.length_append, List.length_replicate, List.size_toArray, List.length_cons, List.length_nil, Array.size_setIfInBounds]); (first | omega | exact of_decide_eq_true (by rfl)))) | rfl) | exact Cel.rds (by with_reducible (repeat first | apply In.here | apply In.there)) (getML (d := default) (by ((try simp only [List.length_set, List.length_map, List.length_append, List.length_replicate, List.size_toArray, List.length_cons, List.length_nil, Array.size_setIfInBounds]); (first | omega | exact of_decide_eq_true (by rfl))))) | exact Cel.rdsB (by with_reducible (repeat first | apply In.here | apply In.there)) (getML (d := default) (by ((try simp only [List.length_set, List.length_map, List.length_append, List.length_replicate, List.size_toArray, List.length_cons, List.length_nil, Array.size_setIfInBounds]); (first | omega | exact of_decide_eq_true (by rfl))))) | exact Cel.owns (by with_reducible (repeat first | apply In.here | apply In.there)) (getML (d := default) (by ((try simp only [List.length_set, List.length_map, List.length_append, List.length_replicate, List.size_toArray, List.length_cons, List.length_nil, Array.size_setIfInBounds]); (first | omega | exact of_decide_eq_true (by rfl))))) | exact Cel.reads (by assumption) (by with_reducible (repeat first | apply In.here | apply In.there)) (getML (d := default) (by ((try simp only [List.length_set, List.length_map, List.length_append, List.length_replicate, List.size_toArray, List.length_cons, List.length_nil, Array.size_setIfInBounds]); (first | omega | exact of_decide_eq_true (by rfl))))) | exact Cel.rds0 (by with_reducible (repeat first | apply In.here | apply In.there)) (getML (d := default) (by ((try simp only [List.length_set, List.length_map, List.length_append, List.length_replicate, List.size_toArray, List.length_cons, List.length_nil, Array.size_setIfInBounds]); (first | omega | exact of_decide_eq_true (by rfl))))) | exact Cel.owns0 (by with_reducible (repeat first | apply In.here | apply In.there)) (getML (d := default) (by ((try simp only [List.length_set, List.length_map, List.length_append, List.length_replicate, List.size_toArray, List.length_cons, List.length_nil, Array.size_setIfInBounds]); (first | omega | exact of_decide_eq_true (by rfl))))))) ?_
                refine TL.as (vS lr) (by rfl) ?_
                refine TL.val rfl rfl rfl (Y.assign rfl rfl) ?_
                refine TL.nil ?_
                refine TQ.meetF ((by first | (have := hA; exact bstr (fv xs rid)) | (have := hB; exact lr) | exact .empty)) ((by first | exact hA | exact hB | exact hC | exact hD g13_1)) ⟨rfl, trivial⟩ (by (repeat first | apply Grow.refl | apply Grow.step | apply Grow.app)) ?_ ?_
                · kernel_rfl
                · simp only [List.cons_append, List.nil_append]
                  exact (by (repeat first | (with_reducible apply Ent.refl) | (with_reducible apply Ent.nil) | refine Ent.cons (by first | (with_reducible (repeat first | apply Pull.here | apply Pull.there); done) | (repeat first | apply Pull.here | apply Pull.there)) ?_ | refine Ent.skip ?_))
              · try simp only [decide_eq_true_eq, decide_eq_false_iff_not, Bool.not_eq_true', Bool.not_eq_false', Bool.and_eq_true, Bool.or_eq_true, Nat.not_lt, Nat.not_le, beq_iff_eq, bne_iff_ne] at c4
                have hC : gs2 x rid l src xs n = fin l src n .empty := by rw [gs2, if_neg (by rintro ⟨h1, h2⟩; first | exact absurd h2 (by omega) | exact absurd (h1.symm.trans g9_1) (by decide)), hg, if_neg (by rintro ⟨h1, h2⟩; exact c4 h2)]
                refine TC.skip ?_
                refine TQ.meetF ((by first | (have := hA; exact bstr (fv xs rid)) | (have := hB; exact lr) | exact .empty)) ((by first | exact hA | exact hB | exact hC | exact hD g13_1)) ⟨rfl, trivial⟩ (by (repeat first | apply Grow.refl | apply Grow.step | apply Grow.app)) ?_ ?_
                · kernel_rfl
                · simp only [List.cons_append, List.nil_append]
                  exact (by (repeat first | (with_reducible apply Ent.refl) | (with_reducible apply Ent.nil) | refine Ent.cons (by first | (with_reducible (repeat first | apply Pull.here | apply Pull.there); done) | (repeat first | apply Pull.here | apply Pull.there)) ?_ | refine Ent.skip ?_))
            · try simp only [decide_eq_true_eq, decide_eq_false_iff_not, Bool.not_eq_true', Bool.not_eq_false', Nat.not_lt, Nat.not_le, beq_iff_eq, bne_iff_ne] at g13_1
              refine TL.not rfl rfl rfl ?_
              refine TL.not rfl rfl rfl ?_
              refine TL.not rfl rfl rfl ?_
              refine TL.not rfl rfl rfl ?_
              refine TL.val rfl rfl rfl (Y.pick_f rfl rfl rfl) ?_
              refine TL.nil ?_
              refine TQ.next ?_
              refine TC.cond_f rfl ?_
              refine TC.skip ?_
              refine TQ.meetF ((by first | (have := hA; exact bstr (fv xs rid)) | (have := hB; exact lr) | exact .empty)) ((by first | exact hA | exact hB | exact hC | exact hD g13_1)) ⟨rfl, trivial⟩ (by (repeat first | apply Grow.refl | apply Grow.step | apply Grow.app)) ?_ ?_
              · kernel_rfl
              · simp only [List.cons_append, List.nil_append]
                exact (by (repeat first | (with_reducible apply Ent.refl) | (with_reducible apply Ent.nil) | refine Ent.cons (by first | (with_reducible (repeat first | apply Pull.here | apply Pull.there); done) | (repeat first | apply Pull.here | apply Pull.there)) ?_ | refine Ent.skip ?_))
        · rintro r hr F' L' rfl hL'
          simp only [List.cons_append, List.nil_append] at hL'
          subst hL'
          refine TC.seq ?_
          refine TC.seq ?_
          refine TC.region ?_
          refine TL.val rfl rfl rfl (Y.move rfl rfl) ?_
          refine TL.as (.bool ok) (by rfl) ?_
          refine TL.val rfl rfl rfl (Y.not rfl rfl) ?_
          refine TL.val rfl rfl rfl (Y.move rfl rfl) ?_
          refine TL.case (fun g15_2 => ?_) (fun g15_2 => ?_)
          · try simp only [decide_eq_true_eq, decide_eq_false_iff_not, Bool.not_eq_true', Bool.not_eq_false', Nat.not_lt, Nat.not_le, beq_iff_eq, bne_iff_ne] at g15_2
            refine TL.valG rfl rfl rfl (Y.move rfl rfl) ?_
            refine TL.valG rfl rfl rfl (Y.nilCheck rfl rfl) ?_
            refine TL.valG rfl rfl rfl (by first | exact Y.fieldAddrJ rfl fo61_3 rfl (by ((try simp only [Nat.zero_add, Nat.add_zero, Nat.mul_one, Nat.one_mul, Nat.mul_zero, Nat.zero_mul]) <;> rfl)) | exact Y.fieldAddr rfl fo61_3 rfl (by ((try simp only [Nat.zero_add, Nat.add_zero, Nat.mul_one, Nat.one_mul, Nat.mul_zero, Nat.zero_mul]) <;> rfl))) ?_
            refine TL.valG rfl rfl rfl (Y.load rfl sc56 rfl (by first | exact Cel.at0 Reads.owns (by with_reducible (repeat first | apply In.here | apply In.there)) (by assumption) (by rfl) | exact Cel.at Reads.owns (by with_reducible (repeat first | apply In.here | apply In.there)) (by assumption) (by rfl) | exact Cel.datAt0 (by with_reducible (repeat first | apply In.here | apply In.there)) (by assumption) (by rfl) | exact Cel.datAt (by with_reducible (repeat first | apply In.here | apply In.there)) (by assumption) (by rfl) | exact Cel.datAtS (by with_reducible (repeat first | apply In.here | apply In.there)) (by assumption) (by rfl) | exact Cel.blk (by with_reducible (repeat first | apply In.here | apply In.there)) (by first | exact getM (d := default) (by ((try simp only [List.length_set, List.length_map, List.length_append, List.length_replicate, List.size_toArray, List.length_cons, List.length_nil, Array.size_setIfInBounds]); (first | omega | exact of_decide_eq_true (by rfl)))) | rfl) | exact Cel.rblk (by with_reducible (repeat first | apply In.here | apply In.there)) (by first | exact getM (d := default) (by ((try simp only [List.length_set, List.length_map, List.length_append, List.length_replicate, List.size_toArray, List.length_cons, List.length_nil, Array.size_setIfInBounds]); (first | omega | exact of_decide_eq_true (by rfl)))) | rfl) | exact Cel.rds (by with_reducible (repeat first | apply In.here | apply In.there)) (getML (d := default) (by ((try simp only [List.length_set, List.length_map, List.length_append, List.length_replicate, List.size_toArray, List.length_cons, List.length_nil, Array.size_setIfInBounds]); (first | omega | exact of_decide_eq_true (by rfl))))) | exact Cel.rdsB (by with_reducible (repeat first | apply In.here | apply In.there)) (getML (d := default) (by ((try simp only [List.length_set, List.length_map, List.length_append, List.length_replicate, List.size_toArray, List.length_cons, List.length_nil, Array.size_setIfInBounds]); (first | omega | exact of_decide_eq_true (by rfl))))) | exact Cel.owns (by with_reducible (repeat first | apply In.here | apply In.there)) (getML (d := default) (by ((try simp only [List.length_set, List.length_map, List.length_append, List.length_replicate, List.size_toArray, List.length_cons, List.length_nil, Array.size_setIfInBounds]); (first | omega | exact of_decide_eq_true (by rfl))))) | exact Cel.reads (by assumption) (by with_reducible (repeat first | apply In.here | apply In.there)) (getML (d := default) (by ((try simp only [List.length_set, List.length_map, List.length_append, List.length_replicate, List.size_toArray, List.length_cons, List.length_nil, Array.size_setIfInBounds]); (first | omega | exact of_decide_eq_true (by rfl))))) | exact Cel.rds0 (by with_reducible (repeat first | apply In.here | apply In.there)) (getML (d := default) (by ((try simp only [List.length_set, List.length_map, List.length_append, List.length_replicate, List.size_toArray, List.length_cons, List.length_nil, Array.size_setIfInBounds]); (first | omega | exact of_decide_eq_true (by rfl))))) | exact Cel.owns0 (by with_reducible (repeat first | apply In.here | apply In.there)) (getML (d := default) (by ((try simp only [List.length_set, List.length_map, List.length_append, List.length_replicate, List.size_toArray, List.length_cons, List.length_nil, Array.size_setIfInBounds]); (first | omega | exact of_decide_eq_true (by rfl))))))) ?_
            refine TL.as (pt tb 0) (by rfl) ?_
            refine TL.effG rfl rfl rfl (X.call rfl Try.func20 (by kernel_rfl) rfl rfl (Fn.preE (by repeat first | (with_reducible apply Ent.refl) | (apply Ent.cons; case h => first | (with_reducible (repeat first | apply Pull.here | apply Pull.there); done) | (repeat first | apply Pull.here | apply Pull.there))) (tbl.Len_fn _ _ l _))) ?_
            rintro _ _ ⟨rfl, rfl⟩
            refine TL.valG rfl rfl rfl (Y.bin rfl rfl rfl (br_eqN (n := 32))) ?_
            refine TL.val rfl rfl rfl (Y.pick_t rfl rfl rfl) ?_
            refine TL.nil ?_
            refine TQ.next ?_
            refine TC.cond rfl (fun c5 => ?_) (fun c5 => ?_)
            · try simp only [decide_eq_true_eq, decide_eq_false_iff_not, Bool.not_eq_true', Bool.not_eq_false', Bool.and_eq_true, Bool.or_eq_true, Nat.not_lt, Nat.not_le, beq_iff_eq, bne_iff_ne] at c5
              refine TC.seq ?_
              have hs : gs ls mid rid l ty src xs = (0, .empty, 6) := by rw [hgs2, hr, fin, hg, if_pos ⟨g15_2, c5⟩]
              refine TC.region ?_
              refine TL.val rfl rfl rfl (Y.assign rfl rfl) ?_
              refine TL.val rfl rfl rfl (Y.assign rfl rfl) ?_
              refine TL.val rfl rfl rfl (Y.assign rfl rfl) ?_
              refine TL.nil ?_
              refine TQ.next ?_
              refine TC.ret ?_
              refine TQ.then_ret ?_
              refine TQ.retE (resL rfl (Res.tmp rfl (Res.tmp rfl (Res.tmp rfl Res.nil)))) (⟨by (rw [hs]) <;> rfl, rfl⟩) ?_
              exact (by (repeat first | (with_reducible apply Ent.refl) | (with_reducible apply Ent.nil) | refine Ent.cons (by first | (with_reducible (repeat first | apply Pull.here | apply Pull.there); done) | (repeat first | apply Pull.here | apply Pull.there)) ?_ | refine Ent.skip ?_))
            · try simp only [decide_eq_true_eq, decide_eq_false_iff_not, Bool.not_eq_true', Bool.not_eq_false', Bool.and_eq_true, Bool.or_eq_true, Nat.not_lt, Nat.not_le, beq_iff_eq, bne_iff_ne] at c5
              refine TC.skip ?_
              refine TQ.next ?_
              refine TC.seq ?_
              have hs : gs ls mid rid l ty src xs = (n, r, 0) := by rw [hgs2, hr, fin, hg, if_neg (by rintro ⟨h1, h2⟩; first | exact absurd h2 c5 | exact absurd (h1.symm.trans g15_2) (by decide))]
              refine TC.region ?_
              refine TL.val rfl rfl rfl (Y.move rfl rfl) ?_
              refine TL.val rfl rfl rfl (Y.move rfl rfl) ?_
              refine TL.val rfl rfl rfl (Y.assign rfl rfl) ?_
              refine TL.val rfl rfl rfl (Y.assign rfl rfl) ?_
              refine TL.val rfl rfl rfl (Y.assign rfl rfl) ?_
              refine TL.nil ?_
              refine TQ.next ?_
              refine TC.ret ?_
              refine TQ.retE (resL rfl (Res.tmp rfl (Res.tmp rfl (Res.tmp rfl Res.nil)))) (⟨by (rw [hs]) <;> rfl, rfl⟩) ?_
              exact (by (repeat first | (with_reducible apply Ent.refl) | (with_reducible apply Ent.nil) | refine Ent.cons (by first | (with_reducible (repeat first | apply Pull.here | apply Pull.there); done) | (repeat first | apply Pull.here | apply Pull.there)) ?_ | refine Ent.skip ?_))
          · try simp only [decide_eq_true_eq, decide_eq_false_iff_not, Bool.not_eq_true', Bool.not_eq_false', Nat.not_lt, Nat.not_le, beq_iff_eq, bne_iff_ne] at g15_2
            refine TL.not rfl rfl rfl ?_
            refine TL.not rfl rfl rfl ?_
            refine TL.not rfl rfl rfl ?_
            refine TL.not rfl rfl rfl ?_
            refine TL.not rfl rfl rfl ?_
            refine TL.not rfl rfl rfl ?_
            refine TL.val rfl rfl rfl (Y.pick_f rfl rfl rfl) ?_
            refine TL.nil ?_
            refine TQ.next ?_
            refine TC.cond_f rfl ?_
            refine TC.skip ?_
            refine TQ.next ?_
            refine TC.seq ?_
            have hs : gs ls mid rid l ty src xs = (n, r, 0) := by rw [hgs2, hr, fin, hg, if_neg (by rintro ⟨h1, h2⟩; first | exact absurd h2 c5 | exact absurd (h1.symm.trans g15_2) (by decide))]
            refine TC.region ?_
            refine TL.val rfl rfl rfl (Y.move rfl rfl) ?_
            refine TL.val rfl rfl rfl (Y.move rfl rfl) ?_
            refine TL.val rfl rfl rfl (Y.assign rfl rfl) ?_
            refine TL.val rfl rfl rfl (Y.assign rfl rfl) ?_
            refine TL.val rfl rfl rfl (Y.assign rfl rfl) ?_
            refine TL.nil ?_
            refine TQ.next ?_
            refine TC.ret ?_
            refine TQ.retE (resL rfl (Res.tmp rfl (Res.tmp rfl (Res.tmp rfl Res.nil)))) (⟨by (rw [hs]) <;> rfl, rfl⟩) ?_
            exact (by (repeat first | (with_reducible apply Ent.refl) | (with_reducible apply Ent.nil) | refine Ent.cons (by first | (with_reducible (repeat first | apply Pull.here | apply Pull.there); done) | (repeat first | apply Pull.here | apply Pull.there)) ?_ | refine Ent.skip ?_))
end dm
end Go.Proofs.Ytmdahgmlccmdoaa
