/- demux: what is answered depends on what the lines say alone. -/
import Derived.Test.YtmdahgmlccmdoaaDmxS
import Derived.Test.YtmdahgmlccmdoaaHAuto
namespace Go.Proofs.Ytmdahgmlccmdoaa
set_option linter.unusedVariables false
set_option linter.unusedSimpArgs false
open Go.RowKit
namespace dm
namespace FxDmxP
set_option maxRecDepth 100000
theorem el27 : Elt Try.prog 27 50 4 88 (.agg #[.string .empty, .slice none 0 0, .slice none 0 0, .slice none 0 0]) := ⟨Try.underlying27, by kernel_rfl, rfl, by decide, by simp [Value.cells, Value.oneCell']⟩
theorem el35 : Elt Try.prog 35 34 1 4 (.int .u32 0) := ⟨Try.underlying35, by kernel_rfl, rfl, by decide, by simp [Value.cells, Value.oneCell']⟩
theorem el47 : Elt Try.prog 47 3 1 8 (.int .i64 0) := ⟨Try.underlying47, by kernel_rfl, rfl, by decide, by simp [Value.cells, Value.oneCell']⟩
theorem el48 : Elt Try.prog 48 9 1 16 (.string .empty) := ⟨Try.underlying48, by kernel_rfl, rfl, by decide, by simp [Value.cells, Value.oneCell']⟩
theorem fo65_0 : Program.fieldOff Try.prog 65 0 = some 0 := by kernel_rfl
theorem fo65_1 : Program.fieldOff Try.prog 65 1 = some 1 := by kernel_rfl
theorem fo65_2 : Program.fieldOff Try.prog 65 2 = some 2 := by kernel_rfl
theorem fo65_3 : Program.fieldOff Try.prog 65 3 = some 3 := by kernel_rfl
theorem pl50 : Program.places Try.prog 50 = some [(0, 1), (1, 1), (2, 1), (3, 1)] := by kernel_rfl
theorem sc35 : Program.isSc Try.prog 35 = true := by kernel_rfl
theorem sc47 : Program.isSc Try.prog 47 = true := by kernel_rfl
theorem sc48 : Program.isSc Try.prog 48 = true := by kernel_rfl
theorem sc9 : Program.isSc Try.prog 9 = true := by kernel_rfl
theorem sl22 : Program.slI Try.prog 22 = some 4 := by kernel_rfl
theorem zc50 : Program.zeroC Try.prog 50 = some #[.string .empty, .slice none 0 0, .slice none 0 0, .slice none 0 0] := by kernel_rfl
end FxDmxP
open FxDmxP
theorem idx_congr {p : LnD → Bool} {q : ByteArray × (List Int × (List UInt32 × List ByteArray)) → Bool} (hp : ∀ x, p x = q (lp x)) {ls ls' : List LnD} (h : ls'.map lp = ls.map lp) : ixd.idx p ls' = ixd.idx p ls := by
  have e : ∀ l : List LnD, l.findIdx? p = (l.map lp).findIdx? q := fun l => by
    rw [List.findIdx?_map]; congr 1; funext x; exact hp x
  unfold ixd.idx; rw [e, e, h]
theorem any_congr {p : LnD → Bool} {q : ByteArray × (List Int × (List UInt32 × List ByteArray)) → Bool} (hp : ∀ x, p x = q (lp x)) {ls ls' : List LnD} (h : ls'.map lp = ls.map lp) : ls'.any p = ls.any p := by
  have e : ∀ l : List LnD, l.any p = (l.map lp).any q := fun l => by
    rw [List.any_map]; congr 1; funext x; exact hp x
  rw [e, e, h]
theorem len_congr {ls ls' : List LnD} (h : ls'.map lp = ls.map lp) : ls'.length = ls.length := by have := congrArg List.length h; simpa using this
theorem okl_congr {ls ls' : List LnD} (h : ls'.map lp = ls.map lp) (ho : Okl ls) : Okl ls' := fun x hx => by
  have hm : lp x ∈ ls.map lp := by rw [← h]; exact List.mem_map_of_mem hx
  obtain ⟨y, hy, he⟩ := List.mem_map.1 hm
  have := ho y hy
  have e1 : y.2.1.l = x.2.1.l := congrArg (fun z => z.2.1) he
  have e2 : y.2.2.1.l = x.2.2.1.l := congrArg (fun z => z.2.2.1) he
  have e3 : y.2.2.2.l = x.2.2.2.l := congrArg (fun z => z.2.2.2) he
  rw [e1, e2, e3] at this
  exact this
theorem getD_congr {ls ls' : List LnD} (h : ls'.map lp = ls.map lp) (n : Nat) : lp (ls'.getD n Dat.dflt) = lp (ls.getD n Dat.dflt) := by
  have e : ∀ l : List LnD, lp (l.getD n Dat.dflt) = (l.map lp).getD n (lp Dat.dflt) := fun l => by
    rw [List.getD_eq_getElem?_getD, List.getD_eq_getElem?_getD, List.getElem?_map]
    cases l[n]? <;> rfl
  rw [e, e, h]
theorem lnT_congr {ls ls' : List LnD} (h : ls'.map lp = ls.map lp) (ty : Int) : lnT ls' ty = lnT ls ty := by
  unfold lnT
  rw [idx_congr (p := pT ty) (q := fun y => decide (ty ∈ y.2.1)) (fun _ => rfl) h, any_congr (p := pT ty) (q := fun y => decide (ty ∈ y.2.1)) (fun _ => rfl) (ls := ls.drop _) (ls' := ls'.drop _) (by rw [List.map_drop, List.map_drop, h])]
theorem lnS_congr {ls ls' : List LnD} (h : ls'.map lp = ls.map lp) (mid : Int) (l : LTB) (ty : Int) (src : UInt32) (xs : List XD) : lnS ls' mid l ty src xs = lnS ls mid l ty src xs := by
  unfold lnS
  rw [lnT_congr h, idx_congr (p := pS src) (q := fun y => decide (src ∈ y.2.2.1)) (fun _ => rfl) h, idx_congr (p := pM (fv xs mid)) (q := fun y => y.1 == bstr (fv xs mid)) (fun _ => rfl) h]
theorem gs_congr {ls ls' : List LnD} (h : ls'.map lp = ls.map lp) (mid rid : Int) (l : LTB) (ty : Int) (src : UInt32) (xs : List XD) : gs ls' mid rid l ty src xs = gs ls mid rid l ty src xs := by
  unfold gs
  rw [lnS_congr h]
  have e := getD_congr h (lnS ls mid l ty src xs).toNat
  have e1 : (ls'.getD (lnS ls mid l ty src xs).toNat Dat.dflt).2.1.l = (ls.getD (lnS ls mid l ty src xs).toNat Dat.dflt).2.1.l := congrArg (fun y => y.2.1) e
  have e2 : (ls'.getD (lnS ls mid l ty src xs).toNat Dat.dflt).2.2.2.l = (ls.getD (lnS ls mid l ty src xs).toNat Dat.dflt).2.2.2.l := congrArg (fun y => y.2.2.2) e
  have e3 : ∀ n, gs2 (ls'.getD (lnS ls mid l ty src xs).toNat Dat.dflt) rid l src xs n = gs2 (ls.getD (lnS ls mid l ty src xs).toNat Dat.dflt) rid l src xs n := fun n => by unfold gs2; rw [e2]
  rw [e1, e3]
theorem fin_ok {l : LTB} {src : UInt32} {n : Int} {r : ByteArray} (h : (fin l src n r).2.2 = 0) : fin l src n r = (n, r, 0) := by
  unfold fin at h ⊢; split at h
  · simp at h
  · rename_i hc; rw [if_neg hc]
theorem gs2_ok {x : LnD} {rid : Int} {l : LTB} {src : UInt32} {xs : List XD} {n : Int} (h : (gs2 x rid l src xs n).2.2 = 0) : (gs2 x rid l src xs n).1 = n := by
  unfold gs2 at h ⊢
  split at h
  · split at h
    · rw [if_pos ‹_›, if_pos ‹_›, fin_ok h]
    · simp at h
  · rw [if_neg ‹_›, fin_ok h]
/-- what is told of one that is let through -/
theorem gs_ok {ls : List LnD} {mid rid : Int} {l : LTB} {ty : Int} {src : UInt32} {xs : List XD} (hl : OkL ls l) (h : (gs ls mid rid l ty src xs).2.2 = 0) :
    (gs ls mid rid l ty src xs).1 = lnS ls mid l ty src xs ∧ 0 ≤ lnS ls mid l ty src xs ∧ lnS ls mid l ty src xs < ls.length ∧ ty ∈ (ls.getD (lnS ls mid l ty src xs).toNat Dat.dflt).2.1.l := by
  unfold gs at h ⊢
  split at h
  · simp at h
  · rename_i hc
    rw [if_neg hc, gs2_ok h]
    have h2 := (lnS_lt (mid := mid) (ty := ty) (src := src) (xs := xs) hl).2
    exact ⟨rfl, by omega, h2, Decidable.byContradiction fun hn => hc (Or.inr hn)⟩
theorem tput_ok {ls : List LnD} {l : LTB} {src : UInt32} {n : Int} {r : ByteArray} (hl : OkL ls l) (h0 : 0 ≤ n) (h1 : n < ls.length) : OkL ls (tput 32 l src (n, r)).1 := by
  unfold tput
  split
  · intro e he
    rcases List.mem_or_eq_of_mem_set he with he | rfl
    · exact hl e he
    · exact ⟨h0, h1⟩
  · split
    · exact hl
    · intro e he
      rcases List.mem_append.1 he with he | he
      · exact hl e he
      · simp at he; subst he; exact ⟨h0, h1⟩
theorem rt_ok {ls : List LnD} {mid rid : Int} {l : LTB} {ty : Int} {src : UInt32} {xs : List XD} (hl : OkL ls l) : OkL ls (rt (gs ls mid rid l ty src xs) l src) := by
  unfold rt; split
  · rename_i h
    obtain ⟨h1, h2, h3, -⟩ := gs_ok hl h
    rw [h1]; exact tput_ok hl h2 h3
  · exact hl
theorem rt_len {g : GR} {l : LTB} {src : UInt32} (h : l.length ≤ 32) : (rt g l src).length ≤ 32 ∧ (rt g l src).length ≤ l.length + 1 := by
  unfold rt; split
  · refine ⟨tput_len h, ?_⟩
    unfold tput; split
    · simp
    · split <;> simp
  · omega
theorem rt_no {g : GR} {l : LTB} {src : UInt32} (h : ¬ g.2.2 = 0) : rt g l src = l := if_neg h
set_option maxHeartbeats 4000000 in
theorem lines_fn (a : Option Addr) (cap : Nat) (ls : List LnD) (hln : ls.length ≤ 1599289640355) (hls : Okl ls) (L : List SA) :
    Fn Try.prog 9 [.slice a ls.length cap] (SA.dat (⟨a, cap, ls⟩ : Sl LnD) :: L)
      (fun v L' => ∃ la lc ls', v = .slice la ls'.length lc ∧ ls'.map lp = ls.map lp ∧ L' = SA.dat (⟨la, lc, ls'⟩ : Sl LnD) :: SA.dat (⟨a, cap, ls⟩ : Sl LnD) :: L) := by
  refine Fn.of (N := 42) Try.func9 rfl rfl ?_
  intro Xh
  refine TC.know (dat_cap (a := a) inn) ?_
  rintro ⟨hc1, hc2, -⟩
  refine TC.to (Ent.nilOwn 50 4) ?_
  refine TC.to (Ent.rdss0 (L := _)) ?_
  refine TC.seq ?_
  refine TC.region ?_
  refine TL.val rfl rfl rfl (Y.assign rfl rfl) ?_
  refine TL.nil ?_
  refine TQ.next ?_
  refine TC.seq ?_
  refine TC.region ?_
  refine TL.val rfl rfl rfl (Y.assign rfl rfl) ?_
  refine TL.nil ?_
  refine TQ.next ?_
  refine TC.seq ?_
  refine TC.seq ?_
  refine TC.region ?_
  refine TL.val rfl rfl rfl (Y.move rfl rfl) ?_
  refine TL.val rfl rfl rfl (Y.len rfl Try.underlying22 rfl) ?_
  refine TL.val rfl rfl rfl (Y.move rfl rfl) ?_
  refine TL.nil ?_
  refine TQ.next ?_
  refine TC.block ?_
  refine TC.loopF (ι := List LnD × Option Addr × Nat) [] (fun i => i.1.length ≤ ls.length ∧ i.1.map lp = (ls.take i.1.length).map lp) (fun i => [(7, some (vN i.1.length)), (3, some (.slice i.2.1 i.1.length i.2.2))]) (fun i => [SA.owns 50 4 (.slice i.2.1 i.1.length i.2.2) i.1.length (Dat.cs i.1), SA.rdss (i.1.flatMap Dat.g)]) (fun i => ls.length - i.1.length) (([], none, 0)) (⟨Nat.zero_le _, rfl⟩) ⟨rfl, rfl, trivial⟩ (Pulls.cons pul (Pulls.cons pul Pulls.nil)) ?_
  rintro ⟨m, ma, mc⟩ ⟨hk, hm⟩ F' L' rfl hL'
  simp only [List.cons_append, List.nil_append] at hL'
  subst hL'
  simp only at hk hm ⊢
  refine TC.seq ?_
  refine TC.region ?_
  refine TL.val rfl rfl rfl (Y.bin rfl rfl rfl (br_ltN)) ?_
  refine TL.nil ?_
  refine TQ.next ?_
  refine TC.seq ?_
  refine TC.cond rfl (fun c0 => ?_) (fun c0 => ?_)
  · try simp only [decide_eq_true_eq, decide_eq_false_iff_not, Bool.not_eq_true', Bool.not_eq_false', Bool.and_eq_true, Bool.or_eq_true, Nat.not_lt, Nat.not_le, beq_iff_eq, bne_iff_ne] at c0
    refine TC.skip ?_
    refine TQ.next ?_
    refine TC.cutF (ι := List LnD × Option Addr × Nat) [] (fun i => i.1.length = m.length + 1 ∧ i.1.map lp = (ls.take (m.length + 1)).map lp) (fun i => [(3, some (.slice i.2.1 i.1.length i.2.2))]) (fun i => [SA.owns 50 4 (.slice i.2.1 i.1.length i.2.2) i.1.length (Dat.cs i.1), SA.rdss (i.1.flatMap Dat.g)]) (Ao := [SA.owns 50 4 (.slice ma m.length mc) m.length (Dat.cs m), SA.rdss (m.flatMap Dat.g)]) (Pulls.cons pul (Pulls.cons pul Pulls.nil)) ?_ ?_
    · rintro L' hL'
      simp only [List.cons_append, List.nil_append] at hL'
      subst hL'
      refine TC.block ?_
      refine TC.seq ?_
      refine TC.region ?_
      refine TL.val rfl rfl rfl (Y.move rfl rfl) ?_
      refine TL.val rfl rfl rfl (Y.assign rfl rfl) ?_
      refine TL.nil ?_
      refine TQ.next ?_
      refine TC.know (dat_some (a := a) inn (by omega)) ?_
      rintro ⟨g, off, rfl⟩
      obtain ⟨x, hx, hxm⟩ := getS (l := ls) (i := m.length) (by omega)
      obtain ⟨hx1, hx2, hx3⟩ := hls x hxm
      refine TC.to (Ent.trans (Pull.ent (A := SA.dat (⟨some ⟨g, off, none⟩, cap, ls⟩ : Sl LnD)) pul) (Ent.elem hxm)) ?_
      obtain ⟨xm, xt, xs, xr⟩ := x
      simp only at hx1 hx2 hx3
      have hr1 : Reads (SA.dat ((xm, xt, xs, xr) : LnD)) 1 xt.v xt.l.length (Dat.cs xt.l) := fun w O R h => Reads.dat w O R (fun q hq => h q (List.mem_append_right _ (List.mem_append_left _ hq)))
      have hr2 : Reads (SA.dat ((xm, xt, xs, xr) : LnD)) 1 xs.v xs.l.length (Dat.cs xs.l) := fun w O R h => Reads.dat w O R (fun q hq => h q (List.mem_append_right _ (List.mem_append_right _ (List.mem_append_left _ hq))))
      have hr3 : Reads (SA.dat ((xm, xt, xs, xr) : LnD)) 1 xr.v xr.l.length (Dat.cs xr.l) := fun w O R h => Reads.dat w O R (fun q hq => h q (List.mem_append_right _ (List.mem_append_right _ (List.mem_append_right _ hq))))
      refine TC.draws 31 [SA.dat (⟨some ⟨g, off, none⟩, cap, ls⟩ : Sl LnD)] (by kernel_rfl) (by kernel_rfl) (by repeat first | exact holds_nil | refine holds_cons inn ?_) ?_
      refine TA.take 0 rfl rfl rfl rfl (by kernel_rfl) (by kernel_rfl) (by kernel_rfl) rfl (by kernel_rfl) (by kernel_rfl) (fun _ _ _ h => h) (Y.move rfl rfl) ?_
      refine TA.take 1 rfl rfl rfl rfl (by kernel_rfl) (by kernel_rfl) (by kernel_rfl) rfl (by kernel_rfl) (by kernel_rfl) (fun _ _ _ h => h) (Y.move rfl rfl) ?_
      refine TA.take 2 rfl rfl rfl rfl (by kernel_rfl) (by kernel_rfl) (by kernel_rfl) rfl (by kernel_rfl) (by kernel_rfl) (fun _ _ _ h => h) (Y.move rfl rfl) ?_
      refine TA.take 3 rfl rfl rfl rfl (by kernel_rfl) (by kernel_rfl) (by kernel_rfl) rfl (by kernel_rfl) (by kernel_rfl) (fun _ _ _ h => h) (by first | exact Y.indexSlB rfl sl22 rfl rfl (by omega) nqq | exact Y.indexSl rfl sl22 rfl rfl (by omega) nqq) ?_
      refine TA.take 4 rfl rfl rfl rfl (by kernel_rfl) (by kernel_rfl) (by kernel_rfl) rfl (by kernel_rfl) (by kernel_rfl) (fun _ _ _ h => h) (by first | exact Y.fieldAddrJ rfl fo65_0 rfl nqq | exact Y.fieldAddr rfl fo65_0 rfl nqq) ?_
      refine TA.take 5 rfl rfl rfl rfl (by kernel_rfl) (by kernel_rfl) (by kernel_rfl) rfl (by kernel_rfl) (by kernel_rfl) (fun _ _ _ h => h) (Y.load rfl sc9 rfl celD) ?_
      refine TA.as (vS xm) (by rfl) ?_
      refine TA.take 7 rfl rfl rfl rfl (by kernel_rfl) (by kernel_rfl) (by kernel_rfl) rfl (by kernel_rfl) (by kernel_rfl) (fun _ _ _ h => h) (Y.move rfl rfl) ?_
      refine TA.take 8 rfl rfl rfl rfl (by kernel_rfl) (by kernel_rfl) (by kernel_rfl) rfl (by kernel_rfl) (by kernel_rfl) (fun _ _ _ h => h) (Y.move rfl rfl) ?_
      refine TA.take 9 rfl rfl rfl rfl (by kernel_rfl) (by kernel_rfl) (by kernel_rfl) rfl (by kernel_rfl) (by kernel_rfl) (fun _ _ _ h => h) (by first | exact Y.indexSlB rfl sl22 rfl rfl (by omega) nqq | exact Y.indexSl rfl sl22 rfl rfl (by omega) nqq) ?_
      refine TA.take 10 rfl rfl rfl rfl (by kernel_rfl) (by kernel_rfl) (by kernel_rfl) rfl (by kernel_rfl) (by kernel_rfl) (fun _ _ _ h => h) (by first | exact Y.fieldAddrJ rfl fo65_1 rfl nqq | exact Y.fieldAddr rfl fo65_1 rfl nqq) ?_
      refine TA.take 11 rfl rfl rfl rfl (by kernel_rfl) (by kernel_rfl) (by kernel_rfl) rfl (by kernel_rfl) (by kernel_rfl) (fun _ _ _ h => h) (Y.load rfl sc47 rfl celD) ?_
      refine TA.as (xt.v) (by rfl) ?_
      refine TA.take 14 rfl rfl rfl rfl (by kernel_rfl) (by kernel_rfl) (by kernel_rfl) rfl (by kernel_rfl) (by kernel_rfl) (fun _ _ _ h => h) (Y.move rfl rfl) ?_
      refine TA.take 15 rfl rfl rfl rfl (by kernel_rfl) (by kernel_rfl) (by kernel_rfl) rfl (by kernel_rfl) (by kernel_rfl) (fun _ _ _ h => h) (Y.move rfl rfl) ?_
      refine TA.take 16 rfl rfl rfl rfl (by kernel_rfl) (by kernel_rfl) (by kernel_rfl) rfl (by kernel_rfl) (by kernel_rfl) (fun _ _ _ h => h) (by first | exact Y.indexSlB rfl sl22 rfl rfl (by omega) nqq | exact Y.indexSl rfl sl22 rfl rfl (by omega) nqq) ?_
      refine TA.take 17 rfl rfl rfl rfl (by kernel_rfl) (by kernel_rfl) (by kernel_rfl) rfl (by kernel_rfl) (by kernel_rfl) (fun _ _ _ h => h) (by first | exact Y.fieldAddrJ rfl fo65_2 rfl nqq | exact Y.fieldAddr rfl fo65_2 rfl nqq) ?_
      refine TA.take 18 rfl rfl rfl rfl (by kernel_rfl) (by kernel_rfl) (by kernel_rfl) rfl (by kernel_rfl) (by kernel_rfl) (fun _ _ _ h => h) (Y.load rfl sc35 rfl celD) ?_
      refine TA.as (xs.v) (by rfl) ?_
      refine TA.take 21 rfl rfl rfl rfl (by kernel_rfl) (by kernel_rfl) (by kernel_rfl) rfl (by kernel_rfl) (by kernel_rfl) (fun _ _ _ h => h) (Y.move rfl rfl) ?_
      refine TA.take 22 rfl rfl rfl rfl (by kernel_rfl) (by kernel_rfl) (by kernel_rfl) rfl (by kernel_rfl) (by kernel_rfl) (fun _ _ _ h => h) (Y.move rfl rfl) ?_
      refine TA.take 23 rfl rfl rfl rfl (by kernel_rfl) (by kernel_rfl) (by kernel_rfl) rfl (by kernel_rfl) (by kernel_rfl) (fun _ _ _ h => h) (by first | exact Y.indexSlB rfl sl22 rfl rfl (by omega) nqq | exact Y.indexSl rfl sl22 rfl rfl (by omega) nqq) ?_
      refine TA.take 24 rfl rfl rfl rfl (by kernel_rfl) (by kernel_rfl) (by kernel_rfl) rfl (by kernel_rfl) (by kernel_rfl) (fun _ _ _ h => h) (by first | exact Y.fieldAddrJ rfl fo65_3 rfl nqq | exact Y.fieldAddr rfl fo65_3 rfl nqq) ?_
      refine TA.take 25 rfl rfl rfl rfl (by kernel_rfl) (by kernel_rfl) (by kernel_rfl) rfl (by kernel_rfl) (by kernel_rfl) (fun _ _ _ h => h) (Y.load rfl sc48 rfl celD) ?_
      refine TA.as (xr.v) (by rfl) ?_
      refine TA.any (rs := [6, 13, 20]) (by kernel_rfl) (by simp) ?_
      simp only [List.forall_mem_cons, List.not_mem_nil, false_implies, implies_true, and_true]
      refine ⟨?_, ?_, ?_⟩
      · skip
        refine TAo.eff rfl rfl rfl rfl (X.lit rfl el47 rfl rfl rfl (by decide) rfl) ?_
        rintro _ _ ⟨g16, rfl, rfl⟩
        refine ⟨(Or.inr (by repeat first | exact holds_nil | refine holds_cons inn ?_)), ?_⟩
        refine TA.any (rs := [12, 13, 20]) (by kernel_rfl) (by simp) ?_
        simp only [List.forall_mem_cons, List.not_mem_nil, false_implies, implies_true, and_true]
        refine ⟨?_, ?_, ?_⟩
        · skip
          refine TAo.eff rfl rfl rfl rfl (X.appendS rfl el47 rfl pul rfl (Src.reads hr1 Try.underlying47 inn) (by simp only [maxLen]; omega) (by omega)) ?_
          rintro _ _ ⟨a22, c22, rfl, rfl⟩
          simp only [Nat.zero_add, List.nil_append]
          refine ⟨(Or.inr (by repeat first | exact holds_nil | refine holds_cons inn ?_)), ?_⟩
          refine TA.any (rs := [13, 20]) (by kernel_rfl) (by simp) ?_
          simp only [List.forall_mem_cons, List.not_mem_nil, false_implies, implies_true, and_true]
          refine ⟨?_, ?_⟩
          · skip
            refine TAo.eff rfl rfl rfl rfl (X.lit rfl el35 rfl rfl rfl (by decide) rfl) ?_
            rintro _ _ ⟨g23, rfl, rfl⟩
            refine ⟨(Or.inr (by repeat first | exact holds_nil | refine holds_cons inn ?_)), ?_⟩
            refine TA.any (rs := [19, 20]) (by kernel_rfl) (by simp) ?_
            simp only [List.forall_mem_cons, List.not_mem_nil, false_implies, implies_true, and_true]
            refine ⟨?_, ?_⟩
            · skip
              refine TAo.eff rfl rfl rfl rfl (X.appendS rfl el35 rfl pul rfl (Src.reads hr2 Try.underlying35 inn) (by simp only [maxLen]; omega) (by omega)) ?_
              rintro _ _ ⟨a29, c29, rfl, rfl⟩
              simp only [Nat.zero_add, List.nil_append]
              refine ⟨(Or.inr (by repeat first | exact holds_nil | refine holds_cons inn ?_)), ?_⟩
              refine TA.one 20 (by kernel_rfl) rfl rfl rfl rfl (X.lit rfl el48 rfl rfl rfl (by decide) rfl) ?_
              rintro _ _ ⟨g30, rfl, rfl⟩
              refine ⟨(Or.inr (by repeat first | exact holds_nil | refine holds_cons inn ?_)), ?_⟩
              refine TA.one 26 (by kernel_rfl) rfl rfl rfl rfl (X.appendS rfl el48 rfl pul rfl (Src.reads hr3 Try.underlying48 inn) (by simp only [maxLen]; omega) (by omega)) ?_
              rintro _ _ ⟨a36, c36, rfl, rfl⟩
              simp only [Nat.zero_add, List.nil_append]
              refine ⟨(Or.inr (by repeat first | exact holds_nil | refine holds_cons inn ?_)), ?_⟩
              refine TA.to (Ent.line (mid := xm) (ty := ⟨a22, c22, xt.l⟩) (so := ⟨a29, c29, xs.l⟩) (ri := ⟨a36, c36, xr.l⟩) pul pul pul) ?_
              obtain ⟨y, hy⟩ : ∃ y : LnD, y = (xm, ⟨a22, c22, xt.l⟩, ⟨a29, c29, xs.l⟩, ⟨a36, c36, xr.l⟩) := ⟨_, rfl⟩
              rw [← hy]
              have hly : lp y = lp (xm, xt, xs, xr) := by rw [hy]; rfl
              refine TA.take 27 rfl rfl rfl rfl (by kernel_rfl) (by kernel_rfl) (by kernel_rfl) rfl (by kernel_rfl) (by kernel_rfl) (fun _ _ _ h => h) (Y.buildS rfl rfl pl50 zc50 rfl) ?_
              refine TA.as (.agg (Dat.c y).toArray) (by (rw [hy]; rfl)) ?_
              refine TA.one 28 (by kernel_rfl) rfl rfl rfl rfl (X.litD (sz := 4) y rfl Try.underlying27 (by kernel_rfl) rfl rfl (by decide)) ?_
              rintro _ _ ⟨g38, rfl, rfl⟩
              refine ⟨(Or.inr (by repeat first | exact holds_nil | refine holds_cons inn ?_)), ?_⟩
              refine TA.one 29 (by kernel_rfl) rfl rfl rfl rfl (X.appendS rfl el27 rfl pul rfl (by first | exact Src.owns Try.underlying27 inn | exact Src.rds Try.underlying27 inn | exact Src.reads (by assumption) Try.underlying27 inn) (by simp only [maxLen]; omega) (by omega)) ?_
              rintro _ _ ⟨a39, c39, rfl, rfl⟩
              rw [show Dat.cs m ++ Dat.c y = Dat.cs (m ++ [y]) by rw [Dat.cs_app, Dat.cs_one], show m.length + 1 = (m ++ [y]).length by simp]
              refine ⟨(Or.inr (by repeat first | exact holds_nil | refine holds_cons inn ?_)), ?_⟩
              refine TA.take 30 rfl rfl rfl rfl (by kernel_rfl) (by kernel_rfl) (by kernel_rfl) rfl (by kernel_rfl) (by kernel_rfl) (fun _ _ _ h => h) (Y.assign rfl rfl) ?_
              refine TA.done (by kernel_rfl) ?_
              refine TQ.to (Ent.addEl (ys := m) (x := y) pul pul) ?_
              refine TQ.block_normal ?_
              refine TQ.meetF ((m ++ [y], a39, c39)) (⟨by simp, by (try simp only [List.length_append, List.length_singleton]); exact take_lp hm hx hly⟩) ⟨rfl, trivial⟩ (by (repeat first | apply Grow.refl | apply Grow.step | apply Grow.app)) ?_ ?_
              · kernel_rfl
              · simp only [List.cons_append, List.nil_append]
                exact ett
            · skip
              refine TAo.eff rfl rfl rfl rfl (X.lit rfl el48 rfl rfl rfl (by decide) rfl) ?_
              rintro _ _ ⟨g30, rfl, rfl⟩
              refine ⟨(Or.inr (by repeat first | exact holds_nil | refine holds_cons inn ?_)), ?_⟩
              refine TA.one 19 (by kernel_rfl) rfl rfl rfl rfl (X.appendS rfl el35 rfl pul rfl (Src.reads hr2 Try.underlying35 inn) (by simp only [maxLen]; omega) (by omega)) ?_
              rintro _ _ ⟨a29, c29, rfl, rfl⟩
              simp only [Nat.zero_add, List.nil_append]
              refine ⟨(Or.inr (by repeat first | exact holds_nil | refine holds_cons inn ?_)), ?_⟩
              refine TA.one 26 (by kernel_rfl) rfl rfl rfl rfl (X.appendS rfl el48 rfl pul rfl (Src.reads hr3 Try.underlying48 inn) (by simp only [maxLen]; omega) (by omega)) ?_
              rintro _ _ ⟨a36, c36, rfl, rfl⟩
              simp only [Nat.zero_add, List.nil_append]
              refine ⟨(Or.inr (by repeat first | exact holds_nil | refine holds_cons inn ?_)), ?_⟩
              refine TA.to (Ent.line (mid := xm) (ty := ⟨a22, c22, xt.l⟩) (so := ⟨a29, c29, xs.l⟩) (ri := ⟨a36, c36, xr.l⟩) pul pul pul) ?_
              obtain ⟨y, hy⟩ : ∃ y : LnD, y = (xm, ⟨a22, c22, xt.l⟩, ⟨a29, c29, xs.l⟩, ⟨a36, c36, xr.l⟩) := ⟨_, rfl⟩
              rw [← hy]
              have hly : lp y = lp (xm, xt, xs, xr) := by rw [hy]; rfl
              refine TA.take 27 rfl rfl rfl rfl (by kernel_rfl) (by kernel_rfl) (by kernel_rfl) rfl (by kernel_rfl) (by kernel_rfl) (fun _ _ _ h => h) (Y.buildS rfl rfl pl50 zc50 rfl) ?_
              refine TA.as (.agg (Dat.c y).toArray) (by (rw [hy]; rfl)) ?_
              refine TA.one 28 (by kernel_rfl) rfl rfl rfl rfl (X.litD (sz := 4) y rfl Try.underlying27 (by kernel_rfl) rfl rfl (by decide)) ?_
              rintro _ _ ⟨g38, rfl, rfl⟩
              refine ⟨(Or.inr (by repeat first | exact holds_nil | refine holds_cons inn ?_)), ?_⟩
              refine TA.one 29 (by kernel_rfl) rfl rfl rfl rfl (X.appendS rfl el27 rfl pul rfl (by first | exact Src.owns Try.underlying27 inn | exact Src.rds Try.underlying27 inn | exact Src.reads (by assumption) Try.underlying27 inn) (by simp only [maxLen]; omega) (by omega)) ?_
              rintro _ _ ⟨a39, c39, rfl, rfl⟩
              rw [show Dat.cs m ++ Dat.c y = Dat.cs (m ++ [y]) by rw [Dat.cs_app, Dat.cs_one], show m.length + 1 = (m ++ [y]).length by simp]
              refine ⟨(Or.inr (by repeat first | exact holds_nil | refine holds_cons inn ?_)), ?_⟩
              refine TA.take 30 rfl rfl rfl rfl (by kernel_rfl) (by kernel_rfl) (by kernel_rfl) rfl (by kernel_rfl) (by kernel_rfl) (fun _ _ _ h => h) (Y.assign rfl rfl) ?_
              refine TA.done (by kernel_rfl) ?_
              refine TQ.to (Ent.addEl (ys := m) (x := y) pul pul) ?_
              refine TQ.block_normal ?_
              refine TQ.meetF ((m ++ [y], a39, c39)) (⟨by simp, by (try simp only [List.length_append, List.length_singleton]); exact take_lp hm hx hly⟩) ⟨rfl, trivial⟩ (by (repeat first | apply Grow.refl | apply Grow.step | apply Grow.app)) ?_ ?_
              · kernel_rfl
              · simp only [List.cons_append, List.nil_append]
                exact ett
          · skip
            refine TAo.eff rfl rfl rfl rfl (X.lit rfl el48 rfl rfl rfl (by decide) rfl) ?_
            rintro _ _ ⟨g30, rfl, rfl⟩
            refine ⟨(Or.inr (by repeat first | exact holds_nil | refine holds_cons inn ?_)), ?_⟩
            refine TA.one 13 (by kernel_rfl) rfl rfl rfl rfl (X.lit rfl el35 rfl rfl rfl (by decide) rfl) ?_
            rintro _ _ ⟨g23, rfl, rfl⟩
            refine ⟨(Or.inr (by repeat first | exact holds_nil | refine holds_cons inn ?_)), ?_⟩
            refine TA.one 19 (by kernel_rfl) rfl rfl rfl rfl (X.appendS rfl el35 rfl pul rfl (Src.reads hr2 Try.underlying35 inn) (by simp only [maxLen]; omega) (by omega)) ?_
            rintro _ _ ⟨a29, c29, rfl, rfl⟩
            simp only [Nat.zero_add, List.nil_append]
            refine ⟨(Or.inr (by repeat first | exact holds_nil | refine holds_cons inn ?_)), ?_⟩
            refine TA.one 26 (by kernel_rfl) rfl rfl rfl rfl (X.appendS rfl el48 rfl pul rfl (Src.reads hr3 Try.underlying48 inn) (by simp only [maxLen]; omega) (by omega)) ?_
            rintro _ _ ⟨a36, c36, rfl, rfl⟩
            simp only [Nat.zero_add, List.nil_append]
            refine ⟨(Or.inr (by repeat first | exact holds_nil | refine holds_cons inn ?_)), ?_⟩
            refine TA.to (Ent.line (mid := xm) (ty := ⟨a22, c22, xt.l⟩) (so := ⟨a29, c29, xs.l⟩) (ri := ⟨a36, c36, xr.l⟩) pul pul pul) ?_
            obtain ⟨y, hy⟩ : ∃ y : LnD, y = (xm, ⟨a22, c22, xt.l⟩, ⟨a29, c29, xs.l⟩, ⟨a36, c36, xr.l⟩) := ⟨_, rfl⟩
            rw [← hy]
            have hly : lp y = lp (xm, xt, xs, xr) := by rw [hy]; rfl
            refine TA.take 27 rfl rfl rfl rfl (by kernel_rfl) (by kernel_rfl) (by kernel_rfl) rfl (by kernel_rfl) (by kernel_rfl) (fun _ _ _ h => h) (Y.buildS rfl rfl pl50 zc50 rfl) ?_
            refine TA.as (.agg (Dat.c y).toArray) (by (rw [hy]; rfl)) ?_
            refine TA.one 28 (by kernel_rfl) rfl rfl rfl rfl (X.litD (sz := 4) y rfl Try.underlying27 (by kernel_rfl) rfl rfl (by decide)) ?_
            rintro _ _ ⟨g38, rfl, rfl⟩
            refine ⟨(Or.inr (by repeat first | exact holds_nil | refine holds_cons inn ?_)), ?_⟩
            refine TA.one 29 (by kernel_rfl) rfl rfl rfl rfl (X.appendS rfl el27 rfl pul rfl (by first | exact Src.owns Try.underlying27 inn | exact Src.rds Try.underlying27 inn | exact Src.reads (by assumption) Try.underlying27 inn) (by simp only [maxLen]; omega) (by omega)) ?_
            rintro _ _ ⟨a39, c39, rfl, rfl⟩
            rw [show Dat.cs m ++ Dat.c y = Dat.cs (m ++ [y]) by rw [Dat.cs_app, Dat.cs_one], show m.length + 1 = (m ++ [y]).length by simp]
            refine ⟨(Or.inr (by repeat first | exact holds_nil | refine holds_cons inn ?_)), ?_⟩
            refine TA.take 30 rfl rfl rfl rfl (by kernel_rfl) (by kernel_rfl) (by kernel_rfl) rfl (by kernel_rfl) (by kernel_rfl) (fun _ _ _ h => h) (Y.assign rfl rfl) ?_
            refine TA.done (by kernel_rfl) ?_
            refine TQ.to (Ent.addEl (ys := m) (x := y) pul pul) ?_
            refine TQ.block_normal ?_
            refine TQ.meetF ((m ++ [y], a39, c39)) (⟨by simp, by (try simp only [List.length_append, List.length_singleton]); exact take_lp hm hx hly⟩) ⟨rfl, trivial⟩ (by (repeat first | apply Grow.refl | apply Grow.step | apply Grow.app)) ?_ ?_
            · kernel_rfl
            · simp only [List.cons_append, List.nil_append]
              exact ett
        · skip
          refine TAo.eff rfl rfl rfl rfl (X.lit rfl el35 rfl rfl rfl (by decide) rfl) ?_
          rintro _ _ ⟨g23, rfl, rfl⟩
          refine ⟨(Or.inr (by repeat first | exact holds_nil | refine holds_cons inn ?_)), ?_⟩
          refine TA.any (rs := [12, 20]) (by kernel_rfl) (by simp) ?_
          simp only [List.forall_mem_cons, List.not_mem_nil, false_implies, implies_true, and_true]
          refine ⟨?_, ?_⟩
          · skip
            refine TAo.eff rfl rfl rfl rfl (X.appendS rfl el47 rfl pul rfl (Src.reads hr1 Try.underlying47 inn) (by simp only [maxLen]; omega) (by omega)) ?_
            rintro _ _ ⟨a22, c22, rfl, rfl⟩
            simp only [Nat.zero_add, List.nil_append]
            refine ⟨(Or.inr (by repeat first | exact holds_nil | refine holds_cons inn ?_)), ?_⟩
            refine TA.any (rs := [19, 20]) (by kernel_rfl) (by simp) ?_
            simp only [List.forall_mem_cons, List.not_mem_nil, false_implies, implies_true, and_true]
            refine ⟨?_, ?_⟩
            · skip
              refine TAo.eff rfl rfl rfl rfl (X.appendS rfl el35 rfl pul rfl (Src.reads hr2 Try.underlying35 inn) (by simp only [maxLen]; omega) (by omega)) ?_
              rintro _ _ ⟨a29, c29, rfl, rfl⟩
              simp only [Nat.zero_add, List.nil_append]
              refine ⟨(Or.inr (by repeat first | exact holds_nil | refine holds_cons inn ?_)), ?_⟩
              refine TA.one 20 (by kernel_rfl) rfl rfl rfl rfl (X.lit rfl el48 rfl rfl rfl (by decide) rfl) ?_
              rintro _ _ ⟨g30, rfl, rfl⟩
              refine ⟨(Or.inr (by repeat first | exact holds_nil | refine holds_cons inn ?_)), ?_⟩
              refine TA.one 26 (by kernel_rfl) rfl rfl rfl rfl (X.appendS rfl el48 rfl pul rfl (Src.reads hr3 Try.underlying48 inn) (by simp only [maxLen]; omega) (by omega)) ?_
              rintro _ _ ⟨a36, c36, rfl, rfl⟩
              simp only [Nat.zero_add, List.nil_append]
              refine ⟨(Or.inr (by repeat first | exact holds_nil | refine holds_cons inn ?_)), ?_⟩
              refine TA.to (Ent.line (mid := xm) (ty := ⟨a22, c22, xt.l⟩) (so := ⟨a29, c29, xs.l⟩) (ri := ⟨a36, c36, xr.l⟩) pul pul pul) ?_
              obtain ⟨y, hy⟩ : ∃ y : LnD, y = (xm, ⟨a22, c22, xt.l⟩, ⟨a29, c29, xs.l⟩, ⟨a36, c36, xr.l⟩) := ⟨_, rfl⟩
              rw [← hy]
              have hly : lp y = lp (xm, xt, xs, xr) := by rw [hy]; rfl
              refine TA.take 27 rfl rfl rfl rfl (by kernel_rfl) (by kernel_rfl) (by kernel_rfl) rfl (by kernel_rfl) (by kernel_rfl) (fun _ _ _ h => h) (Y.buildS rfl rfl pl50 zc50 rfl) ?_
              refine TA.as (.agg (Dat.c y).toArray) (by (rw [hy]; rfl)) ?_
              refine TA.one 28 (by kernel_rfl) rfl rfl rfl rfl (X.litD (sz := 4) y rfl Try.underlying27 (by kernel_rfl) rfl rfl (by decide)) ?_
              rintro _ _ ⟨g38, rfl, rfl⟩
              refine ⟨(Or.inr (by repeat first | exact holds_nil | refine holds_cons inn ?_)), ?_⟩
              refine TA.one 29 (by kernel_rfl) rfl rfl rfl rfl (X.appendS rfl el27 rfl pul rfl (by first | exact Src.owns Try.underlying27 inn | exact Src.rds Try.underlying27 inn | exact Src.reads (by assumption) Try.underlying27 inn) (by simp only [maxLen]; omega) (by omega)) ?_
              rintro _ _ ⟨a39, c39, rfl, rfl⟩
              rw [show Dat.cs m ++ Dat.c y = Dat.cs (m ++ [y]) by rw [Dat.cs_app, Dat.cs_one], show m.length + 1 = (m ++ [y]).length by simp]
              refine ⟨(Or.inr (by repeat first | exact holds_nil | refine holds_cons inn ?_)), ?_⟩
              refine TA.take 30 rfl rfl rfl rfl (by kernel_rfl) (by kernel_rfl) (by kernel_rfl) rfl (by kernel_rfl) (by kernel_rfl) (fun _ _ _ h => h) (Y.assign rfl rfl) ?_
              refine TA.done (by kernel_rfl) ?_
              refine TQ.to (Ent.addEl (ys := m) (x := y) pul pul) ?_
              refine TQ.block_normal ?_
              refine TQ.meetF ((m ++ [y], a39, c39)) (⟨by simp, by (try simp only [List.length_append, List.length_singleton]); exact take_lp hm hx hly⟩) ⟨rfl, trivial⟩ (by (repeat first | apply Grow.refl | apply Grow.step | apply Grow.app)) ?_ ?_
              · kernel_rfl
              · simp only [List.cons_append, List.nil_append]
                exact ett
            · skip
              refine TAo.eff rfl rfl rfl rfl (X.lit rfl el48 rfl rfl rfl (by decide) rfl) ?_
              rintro _ _ ⟨g30, rfl, rfl⟩
              refine ⟨(Or.inr (by repeat first | exact holds_nil | refine holds_cons inn ?_)), ?_⟩
              refine TA.one 19 (by kernel_rfl) rfl rfl rfl rfl (X.appendS rfl el35 rfl pul rfl (Src.reads hr2 Try.underlying35 inn) (by simp only [maxLen]; omega) (by omega)) ?_
              rintro _ _ ⟨a29, c29, rfl, rfl⟩
              simp only [Nat.zero_add, List.nil_append]
              refine ⟨(Or.inr (by repeat first | exact holds_nil | refine holds_cons inn ?_)), ?_⟩
              refine TA.one 26 (by kernel_rfl) rfl rfl rfl rfl (X.appendS rfl el48 rfl pul rfl (Src.reads hr3 Try.underlying48 inn) (by simp only [maxLen]; omega) (by omega)) ?_
              rintro _ _ ⟨a36, c36, rfl, rfl⟩
              simp only [Nat.zero_add, List.nil_append]
              refine ⟨(Or.inr (by repeat first | exact holds_nil | refine holds_cons inn ?_)), ?_⟩
              refine TA.to (Ent.line (mid := xm) (ty := ⟨a22, c22, xt.l⟩) (so := ⟨a29, c29, xs.l⟩) (ri := ⟨a36, c36, xr.l⟩) pul pul pul) ?_
              obtain ⟨y, hy⟩ : ∃ y : LnD, y = (xm, ⟨a22, c22, xt.l⟩, ⟨a29, c29, xs.l⟩, ⟨a36, c36, xr.l⟩) := ⟨_, rfl⟩
              rw [← hy]
              have hly : lp y = lp (xm, xt, xs, xr) := by rw [hy]; rfl
              refine TA.take 27 rfl rfl rfl rfl (by kernel_rfl) (by kernel_rfl) (by kernel_rfl) rfl (by kernel_rfl) (by kernel_rfl) (fun _ _ _ h => h) (Y.buildS rfl rfl pl50 zc50 rfl) ?_
              refine TA.as (.agg (Dat.c y).toArray) (by (rw [hy]; rfl)) ?_
              refine TA.one 28 (by kernel_rfl) rfl rfl rfl rfl (X.litD (sz := 4) y rfl Try.underlying27 (by kernel_rfl) rfl rfl (by decide)) ?_
              rintro _ _ ⟨g38, rfl, rfl⟩
              refine ⟨(Or.inr (by repeat first | exact holds_nil | refine holds_cons inn ?_)), ?_⟩
              refine TA.one 29 (by kernel_rfl) rfl rfl rfl rfl (X.appendS rfl el27 rfl pul rfl (by first | exact Src.owns Try.underlying27 inn | exact Src.rds Try.underlying27 inn | exact Src.reads (by assumption) Try.underlying27 inn) (by simp only [maxLen]; omega) (by omega)) ?_
              rintro _ _ ⟨a39, c39, rfl, rfl⟩
              rw [show Dat.cs m ++ Dat.c y = Dat.cs (m ++ [y]) by rw [Dat.cs_app, Dat.cs_one], show m.length + 1 = (m ++ [y]).length by simp]
              refine ⟨(Or.inr (by repeat first | exact holds_nil | refine holds_cons inn ?_)), ?_⟩
              refine TA.take 30 rfl rfl rfl rfl (by kernel_rfl) (by kernel_rfl) (by kernel_rfl) rfl (by kernel_rfl) (by kernel_rfl) (fun _ _ _ h => h) (Y.assign rfl rfl) ?_
              refine TA.done (by kernel_rfl) ?_
              refine TQ.to (Ent.addEl (ys := m) (x := y) pul pul) ?_
              refine TQ.block_normal ?_
              refine TQ.meetF ((m ++ [y], a39, c39)) (⟨by simp, by (try simp only [List.length_append, List.length_singleton]); exact take_lp hm hx hly⟩) ⟨rfl, trivial⟩ (by (repeat first | apply Grow.refl | apply Grow.step | apply Grow.app)) ?_ ?_
              · kernel_rfl
              · simp only [List.cons_append, List.nil_append]
                exact ett
          · skip
            refine TAo.eff rfl rfl rfl rfl (X.lit rfl el48 rfl rfl rfl (by decide) rfl) ?_
            rintro _ _ ⟨g30, rfl, rfl⟩
            refine ⟨(Or.inr (by repeat first | exact holds_nil | refine holds_cons inn ?_)), ?_⟩
            refine TA.one 12 (by kernel_rfl) rfl rfl rfl rfl (X.appendS rfl el47 rfl pul rfl (Src.reads hr1 Try.underlying47 inn) (by simp only [maxLen]; omega) (by omega)) ?_
            rintro _ _ ⟨a22, c22, rfl, rfl⟩
            simp only [Nat.zero_add, List.nil_append]
            refine ⟨(Or.inr (by repeat first | exact holds_nil | refine holds_cons inn ?_)), ?_⟩
            refine TA.one 19 (by kernel_rfl) rfl rfl rfl rfl (X.appendS rfl el35 rfl pul rfl (Src.reads hr2 Try.underlying35 inn) (by simp only [maxLen]; omega) (by omega)) ?_
            rintro _ _ ⟨a29, c29, rfl, rfl⟩
            simp only [Nat.zero_add, List.nil_append]
            refine ⟨(Or.inr (by repeat first | exact holds_nil | refine holds_cons inn ?_)), ?_⟩
            refine TA.one 26 (by kernel_rfl) rfl rfl rfl rfl (X.appendS rfl el48 rfl pul rfl (Src.reads hr3 Try.underlying48 inn) (by simp only [maxLen]; omega) (by omega)) ?_
            rintro _ _ ⟨a36, c36, rfl, rfl⟩
            simp only [Nat.zero_add, List.nil_append]
            refine ⟨(Or.inr (by repeat first | exact holds_nil | refine holds_cons inn ?_)), ?_⟩
            refine TA.to (Ent.line (mid := xm) (ty := ⟨a22, c22, xt.l⟩) (so := ⟨a29, c29, xs.l⟩) (ri := ⟨a36, c36, xr.l⟩) pul pul pul) ?_
            obtain ⟨y, hy⟩ : ∃ y : LnD, y = (xm, ⟨a22, c22, xt.l⟩, ⟨a29, c29, xs.l⟩, ⟨a36, c36, xr.l⟩) := ⟨_, rfl⟩
            rw [← hy]
            have hly : lp y = lp (xm, xt, xs, xr) := by rw [hy]; rfl
            refine TA.take 27 rfl rfl rfl rfl (by kernel_rfl) (by kernel_rfl) (by kernel_rfl) rfl (by kernel_rfl) (by kernel_rfl) (fun _ _ _ h => h) (Y.buildS rfl rfl pl50 zc50 rfl) ?_
            refine TA.as (.agg (Dat.c y).toArray) (by (rw [hy]; rfl)) ?_
            refine TA.one 28 (by kernel_rfl) rfl rfl rfl rfl (X.litD (sz := 4) y rfl Try.underlying27 (by kernel_rfl) rfl rfl (by decide)) ?_
            rintro _ _ ⟨g38, rfl, rfl⟩
            refine ⟨(Or.inr (by repeat first | exact holds_nil | refine holds_cons inn ?_)), ?_⟩
            refine TA.one 29 (by kernel_rfl) rfl rfl rfl rfl (X.appendS rfl el27 rfl pul rfl (by first | exact Src.owns Try.underlying27 inn | exact Src.rds Try.underlying27 inn | exact Src.reads (by assumption) Try.underlying27 inn) (by simp only [maxLen]; omega) (by omega)) ?_
            rintro _ _ ⟨a39, c39, rfl, rfl⟩
            rw [show Dat.cs m ++ Dat.c y = Dat.cs (m ++ [y]) by rw [Dat.cs_app, Dat.cs_one], show m.length + 1 = (m ++ [y]).length by simp]
            refine ⟨(Or.inr (by repeat first | exact holds_nil | refine holds_cons inn ?_)), ?_⟩
            refine TA.take 30 rfl rfl rfl rfl (by kernel_rfl) (by kernel_rfl) (by kernel_rfl) rfl (by kernel_rfl) (by kernel_rfl) (fun _ _ _ h => h) (Y.assign rfl rfl) ?_
            refine TA.done (by kernel_rfl) ?_
            refine TQ.to (Ent.addEl (ys := m) (x := y) pul pul) ?_
            refine TQ.block_normal ?_
            refine TQ.meetF ((m ++ [y], a39, c39)) (⟨by simp, by (try simp only [List.length_append, List.length_singleton]); exact take_lp hm hx hly⟩) ⟨rfl, trivial⟩ (by (repeat first | apply Grow.refl | apply Grow.step | apply Grow.app)) ?_ ?_
            · kernel_rfl
            · simp only [List.cons_append, List.nil_append]
              exact ett
        · skip
          refine TAo.eff rfl rfl rfl rfl (X.lit rfl el48 rfl rfl rfl (by decide) rfl) ?_
          rintro _ _ ⟨g30, rfl, rfl⟩
          refine ⟨(Or.inr (by repeat first | exact holds_nil | refine holds_cons inn ?_)), ?_⟩
          refine TA.any (rs := [12, 13]) (by kernel_rfl) (by simp) ?_
          simp only [List.forall_mem_cons, List.not_mem_nil, false_implies, implies_true, and_true]
          refine ⟨?_, ?_⟩
          · skip
            refine TAo.eff rfl rfl rfl rfl (X.appendS rfl el47 rfl pul rfl (Src.reads hr1 Try.underlying47 inn) (by simp only [maxLen]; omega) (by omega)) ?_
            rintro _ _ ⟨a22, c22, rfl, rfl⟩
            simp only [Nat.zero_add, List.nil_append]
            refine ⟨(Or.inr (by repeat first | exact holds_nil | refine holds_cons inn ?_)), ?_⟩
            refine TA.one 13 (by kernel_rfl) rfl rfl rfl rfl (X.lit rfl el35 rfl rfl rfl (by decide) rfl) ?_
            rintro _ _ ⟨g23, rfl, rfl⟩
            refine ⟨(Or.inr (by repeat first | exact holds_nil | refine holds_cons inn ?_)), ?_⟩
            refine TA.one 19 (by kernel_rfl) rfl rfl rfl rfl (X.appendS rfl el35 rfl pul rfl (Src.reads hr2 Try.underlying35 inn) (by simp only [maxLen]; omega) (by omega)) ?_
            rintro _ _ ⟨a29, c29, rfl, rfl⟩
            simp only [Nat.zero_add, List.nil_append]
            refine ⟨(Or.inr (by repeat first | exact holds_nil | refine holds_cons inn ?_)), ?_⟩
            refine TA.one 26 (by kernel_rfl) rfl rfl rfl rfl (X.appendS rfl el48 rfl pul rfl (Src.reads hr3 Try.underlying48 inn) (by simp only [maxLen]; omega) (by omega)) ?_
            rintro _ _ ⟨a36, c36, rfl, rfl⟩
            simp only [Nat.zero_add, List.nil_append]
            refine ⟨(Or.inr (by repeat first | exact holds_nil | refine holds_cons inn ?_)), ?_⟩
            refine TA.to (Ent.line (mid := xm) (ty := ⟨a22, c22, xt.l⟩) (so := ⟨a29, c29, xs.l⟩) (ri := ⟨a36, c36, xr.l⟩) pul pul pul) ?_
            obtain ⟨y, hy⟩ : ∃ y : LnD, y = (xm, ⟨a22, c22, xt.l⟩, ⟨a29, c29, xs.l⟩, ⟨a36, c36, xr.l⟩) := ⟨_, rfl⟩
            rw [← hy]
            have hly : lp y = lp (xm, xt, xs, xr) := by rw [hy]; rfl
            refine TA.take 27 rfl rfl rfl rfl (by kernel_rfl) (by kernel_rfl) (by kernel_rfl) rfl (by kernel_rfl) (by kernel_rfl) (fun _ _ _ h => h) (Y.buildS rfl rfl pl50 zc50 rfl) ?_
            refine TA.as (.agg (Dat.c y).toArray) (by (rw [hy]; rfl)) ?_
            refine TA.one 28 (by kernel_rfl) rfl rfl rfl rfl (X.litD (sz := 4) y rfl Try.underlying27 (by kernel_rfl) rfl rfl (by decide)) ?_
            rintro _ _ ⟨g38, rfl, rfl⟩
            refine ⟨(Or.inr (by repeat first | exact holds_nil | refine holds_cons inn ?_)), ?_⟩
            refine TA.one 29 (by kernel_rfl) rfl rfl rfl rfl (X.appendS rfl el27 rfl pul rfl (by first | exact Src.owns Try.underlying27 inn | exact Src.rds Try.underlying27 inn | exact Src.reads (by assumption) Try.underlying27 inn) (by simp only [maxLen]; omega) (by omega)) ?_
            rintro _ _ ⟨a39, c39, rfl, rfl⟩
            rw [show Dat.cs m ++ Dat.c y = Dat.cs (m ++ [y]) by rw [Dat.cs_app, Dat.cs_one], show m.length + 1 = (m ++ [y]).length by simp]
            refine ⟨(Or.inr (by repeat first | exact holds_nil | refine holds_cons inn ?_)), ?_⟩
            refine TA.take 30 rfl rfl rfl rfl (by kernel_rfl) (by kernel_rfl) (by kernel_rfl) rfl (by kernel_rfl) (by kernel_rfl) (fun _ _ _ h => h) (Y.assign rfl rfl) ?_
            refine TA.done (by kernel_rfl) ?_
            refine TQ.to (Ent.addEl (ys := m) (x := y) pul pul) ?_
            refine TQ.block_normal ?_
            refine TQ.meetF ((m ++ [y], a39, c39)) (⟨by simp, by (try simp only [List.length_append, List.length_singleton]); exact take_lp hm hx hly⟩) ⟨rfl, trivial⟩ (by (repeat first | apply Grow.refl | apply Grow.step | apply Grow.app)) ?_ ?_
            · kernel_rfl
            · simp only [List.cons_append, List.nil_append]
              exact ett
          · skip
            refine TAo.eff rfl rfl rfl rfl (X.lit rfl el35 rfl rfl rfl (by decide) rfl) ?_
            rintro _ _ ⟨g23, rfl, rfl⟩
            refine ⟨(Or.inr (by repeat first | exact holds_nil | refine holds_cons inn ?_)), ?_⟩
            refine TA.one 12 (by kernel_rfl) rfl rfl rfl rfl (X.appendS rfl el47 rfl pul rfl (Src.reads hr1 Try.underlying47 inn) (by simp only [maxLen]; omega) (by omega)) ?_
            rintro _ _ ⟨a22, c22, rfl, rfl⟩
            simp only [Nat.zero_add, List.nil_append]
            refine ⟨(Or.inr (by repeat first | exact holds_nil | refine holds_cons inn ?_)), ?_⟩
            refine TA.one 19 (by kernel_rfl) rfl rfl rfl rfl (X.appendS rfl el35 rfl pul rfl (Src.reads hr2 Try.underlying35 inn) (by simp only [maxLen]; omega) (by omega)) ?_
            rintro _ _ ⟨a29, c29, rfl, rfl⟩
            simp only [Nat.zero_add, List.nil_append]
            refine ⟨(Or.inr (by repeat first | exact holds_nil | refine holds_cons inn ?_)), ?_⟩
            refine TA.one 26 (by kernel_rfl) rfl rfl rfl rfl (X.appendS rfl el48 rfl pul rfl (Src.reads hr3 Try.underlying48 inn) (by simp only [maxLen]; omega) (by omega)) ?_
            rintro _ _ ⟨a36, c36, rfl, rfl⟩
            simp only [Nat.zero_add, List.nil_append]
            refine ⟨(Or.inr (by repeat first | exact holds_nil | refine holds_cons inn ?_)), ?_⟩
            refine TA.to (Ent.line (mid := xm) (ty := ⟨a22, c22, xt.l⟩) (so := ⟨a29, c29, xs.l⟩) (ri := ⟨a36, c36, xr.l⟩) pul pul pul) ?_
            obtain ⟨y, hy⟩ : ∃ y : LnD, y = (xm, ⟨a22, c22, xt.l⟩, ⟨a29, c29, xs.l⟩, ⟨a36, c36, xr.l⟩) := ⟨_, rfl⟩
            rw [← hy]
            have hly : lp y = lp (xm, xt, xs, xr) := by rw [hy]; rfl
            refine TA.take 27 rfl rfl rfl rfl (by kernel_rfl) (by kernel_rfl) (by kernel_rfl) rfl (by kernel_rfl) (by kernel_rfl) (fun _ _ _ h => h) (Y.buildS rfl rfl pl50 zc50 rfl) ?_
            refine TA.as (.agg (Dat.c y).toArray) (by (rw [hy]; rfl)) ?_
            refine TA.one 28 (by kernel_rfl) rfl rfl rfl rfl (X.litD (sz := 4) y rfl Try.underlying27 (by kernel_rfl) rfl rfl (by decide)) ?_
            rintro _ _ ⟨g38, rfl, rfl⟩
            refine ⟨(Or.inr (by repeat first | exact holds_nil | refine holds_cons inn ?_)), ?_⟩
            refine TA.one 29 (by kernel_rfl) rfl rfl rfl rfl (X.appendS rfl el27 rfl pul rfl (by first | exact Src.owns Try.underlying27 inn | exact Src.rds Try.underlying27 inn | exact Src.reads (by assumption) Try.underlying27 inn) (by simp only [maxLen]; omega) (by omega)) ?_
            rintro _ _ ⟨a39, c39, rfl, rfl⟩
            rw [show Dat.cs m ++ Dat.c y = Dat.cs (m ++ [y]) by rw [Dat.cs_app, Dat.cs_one], show m.length + 1 = (m ++ [y]).length by simp]
            refine ⟨(Or.inr (by repeat first | exact holds_nil | refine holds_cons inn ?_)), ?_⟩
            refine TA.take 30 rfl rfl rfl rfl (by kernel_rfl) (by kernel_rfl) (by kernel_rfl) rfl (by kernel_rfl) (by kernel_rfl) (fun _ _ _ h => h) (Y.assign rfl rfl) ?_
            refine TA.done (by kernel_rfl) ?_
            refine TQ.to (Ent.addEl (ys := m) (x := y) pul pul) ?_
            refine TQ.block_normal ?_
            refine TQ.meetF ((m ++ [y], a39, c39)) (⟨by simp, by (try simp only [List.length_append, List.length_singleton]); exact take_lp hm hx hly⟩) ⟨rfl, trivial⟩ (by (repeat first | apply Grow.refl | apply Grow.step | apply Grow.app)) ?_ ?_
            · kernel_rfl
            · simp only [List.cons_append, List.nil_append]
              exact ett
      · skip
        refine TAo.eff rfl rfl rfl rfl (X.lit rfl el35 rfl rfl rfl (by decide) rfl) ?_
        rintro _ _ ⟨g23, rfl, rfl⟩
        refine ⟨(Or.inr (by repeat first | exact holds_nil | refine holds_cons inn ?_)), ?_⟩
        refine TA.any (rs := [6, 20]) (by kernel_rfl) (by simp) ?_
        simp only [List.forall_mem_cons, List.not_mem_nil, false_implies, implies_true, and_true]
        refine ⟨?_, ?_⟩
        · skip
          refine TAo.eff rfl rfl rfl rfl (X.lit rfl el47 rfl rfl rfl (by decide) rfl) ?_
          rintro _ _ ⟨g16, rfl, rfl⟩
          refine ⟨(Or.inr (by repeat first | exact holds_nil | refine holds_cons inn ?_)), ?_⟩
          refine TA.any (rs := [12, 20]) (by kernel_rfl) (by simp) ?_
          simp only [List.forall_mem_cons, List.not_mem_nil, false_implies, implies_true, and_true]
          refine ⟨?_, ?_⟩
          · skip
            refine TAo.eff rfl rfl rfl rfl (X.appendS rfl el47 rfl pul rfl (Src.reads hr1 Try.underlying47 inn) (by simp only [maxLen]; omega) (by omega)) ?_
            rintro _ _ ⟨a22, c22, rfl, rfl⟩
            simp only [Nat.zero_add, List.nil_append]
            refine ⟨(Or.inr (by repeat first | exact holds_nil | refine holds_cons inn ?_)), ?_⟩
            refine TA.any (rs := [19, 20]) (by kernel_rfl) (by simp) ?_
            simp only [List.forall_mem_cons, List.not_mem_nil, false_implies, implies_true, and_true]
            refine ⟨?_, ?_⟩
            · skip
              refine TAo.eff rfl rfl rfl rfl (X.appendS rfl el35 rfl pul rfl (Src.reads hr2 Try.underlying35 inn) (by simp only [maxLen]; omega) (by omega)) ?_
              rintro _ _ ⟨a29, c29, rfl, rfl⟩
              simp only [Nat.zero_add, List.nil_append]
              refine ⟨(Or.inr (by repeat first | exact holds_nil | refine holds_cons inn ?_)), ?_⟩
              refine TA.one 20 (by kernel_rfl) rfl rfl rfl rfl (X.lit rfl el48 rfl rfl rfl (by decide) rfl) ?_
              rintro _ _ ⟨g30, rfl, rfl⟩
              refine ⟨(Or.inr (by repeat first | exact holds_nil | refine holds_cons inn ?_)), ?_⟩
              refine TA.one 26 (by kernel_rfl) rfl rfl rfl rfl (X.appendS rfl el48 rfl pul rfl (Src.reads hr3 Try.underlying48 inn) (by simp only [maxLen]; omega) (by omega)) ?_
              rintro _ _ ⟨a36, c36, rfl, rfl⟩
              simp only [Nat.zero_add, List.nil_append]
              refine ⟨(Or.inr (by repeat first | exact holds_nil | refine holds_cons inn ?_)), ?_⟩
              refine TA.to (Ent.line (mid := xm) (ty := ⟨a22, c22, xt.l⟩) (so := ⟨a29, c29, xs.l⟩) (ri := ⟨a36, c36, xr.l⟩) pul pul pul) ?_
              obtain ⟨y, hy⟩ : ∃ y : LnD, y = (xm, ⟨a22, c22, xt.l⟩, ⟨a29, c29, xs.l⟩, ⟨a36, c36, xr.l⟩) := ⟨_, rfl⟩
              rw [← hy]
              have hly : lp y = lp (xm, xt, xs, xr) := by rw [hy]; rfl
              refine TA.take 27 rfl rfl rfl rfl (by kernel_rfl) (by kernel_rfl) (by kernel_rfl) rfl (by kernel_rfl) (by kernel_rfl) (fun _ _ _ h => h) (Y.buildS rfl rfl pl50 zc50 rfl) ?_
              refine TA.as (.agg (Dat.c y).toArray) (by (rw [hy]; rfl)) ?_
              refine TA.one 28 (by kernel_rfl) rfl rfl rfl rfl (X.litD (sz := 4) y rfl Try.underlying27 (by kernel_rfl) rfl rfl (by decide)) ?_
              rintro _ _ ⟨g38, rfl, rfl⟩
              refine ⟨(Or.inr (by repeat first | exact holds_nil | refine holds_cons inn ?_)), ?_⟩
              refine TA.one 29 (by kernel_rfl) rfl rfl rfl rfl (X.appendS rfl el27 rfl pul rfl (by first | exact Src.owns Try.underlying27 inn | exact Src.rds Try.underlying27 inn | exact Src.reads (by assumption) Try.underlying27 inn) (by simp only [maxLen]; omega) (by omega)) ?_
              rintro _ _ ⟨a39, c39, rfl, rfl⟩
              rw [show Dat.cs m ++ Dat.c y = Dat.cs (m ++ [y]) by rw [Dat.cs_app, Dat.cs_one], show m.length + 1 = (m ++ [y]).length by simp]
              refine ⟨(Or.inr (by repeat first | exact holds_nil | refine holds_cons inn ?_)), ?_⟩
              refine TA.take 30 rfl rfl rfl rfl (by kernel_rfl) (by kernel_rfl) (by kernel_rfl) rfl (by kernel_rfl) (by kernel_rfl) (fun _ _ _ h => h) (Y.assign rfl rfl) ?_
              refine TA.done (by kernel_rfl) ?_
              refine TQ.to (Ent.addEl (ys := m) (x := y) pul pul) ?_
              refine TQ.block_normal ?_
              refine TQ.meetF ((m ++ [y], a39, c39)) (⟨by simp, by (try simp only [List.length_append, List.length_singleton]); exact take_lp hm hx hly⟩) ⟨rfl, trivial⟩ (by (repeat first | apply Grow.refl | apply Grow.step | apply Grow.app)) ?_ ?_
              · kernel_rfl
              · simp only [List.cons_append, List.nil_append]
                exact ett
            · skip
              refine TAo.eff rfl rfl rfl rfl (X.lit rfl el48 rfl rfl rfl (by decide) rfl) ?_
              rintro _ _ ⟨g30, rfl, rfl⟩
              refine ⟨(Or.inr (by repeat first | exact holds_nil | refine holds_cons inn ?_)), ?_⟩
              refine TA.one 19 (by kernel_rfl) rfl rfl rfl rfl (X.appendS rfl el35 rfl pul rfl (Src.reads hr2 Try.underlying35 inn) (by simp only [maxLen]; omega) (by omega)) ?_
              rintro _ _ ⟨a29, c29, rfl, rfl⟩
              simp only [Nat.zero_add, List.nil_append]
              refine ⟨(Or.inr (by repeat first | exact holds_nil | refine holds_cons inn ?_)), ?_⟩
              refine TA.one 26 (by kernel_rfl) rfl rfl rfl rfl (X.appendS rfl el48 rfl pul rfl (Src.reads hr3 Try.underlying48 inn) (by simp only [maxLen]; omega) (by omega)) ?_
              rintro _ _ ⟨a36, c36, rfl, rfl⟩
              simp only [Nat.zero_add, List.nil_append]
              refine ⟨(Or.inr (by repeat first | exact holds_nil | refine holds_cons inn ?_)), ?_⟩
              refine TA.to (Ent.line (mid := xm) (ty := ⟨a22, c22, xt.l⟩) (so := ⟨a29, c29, xs.l⟩) (ri := ⟨a36, c36, xr.l⟩) pul pul pul) ?_
              obtain ⟨y, hy⟩ : ∃ y : LnD, y = (xm, ⟨a22, c22, xt.l⟩, ⟨a29, c29, xs.l⟩, ⟨a36, c36, xr.l⟩) := ⟨_, rfl⟩
              rw [← hy]
              have hly : lp y = lp (xm, xt, xs, xr) := by rw [hy]; rfl
              refine TA.take 27 rfl rfl rfl rfl (by kernel_rfl) (by kernel_rfl) (by kernel_rfl) rfl (by kernel_rfl) (by kernel_rfl) (fun _ _ _ h => h) (Y.buildS rfl rfl pl50 zc50 rfl) ?_
              refine TA.as (.agg (Dat.c y).toArray) (by (rw [hy]; rfl)) ?_
              refine TA.one 28 (by kernel_rfl) rfl rfl rfl rfl (X.litD (sz := 4) y rfl Try.underlying27 (by kernel_rfl) rfl rfl (by decide)) ?_
              rintro _ _ ⟨g38, rfl, rfl⟩
              refine ⟨(Or.inr (by repeat first | exact holds_nil | refine holds_cons inn ?_)), ?_⟩
              refine TA.one 29 (by kernel_rfl) rfl rfl rfl rfl (X.appendS rfl el27 rfl pul rfl (by first | exact Src.owns Try.underlying27 inn | exact Src.rds Try.underlying27 inn | exact Src.reads (by assumption) Try.underlying27 inn) (by simp only [maxLen]; omega) (by omega)) ?_
              rintro _ _ ⟨a39, c39, rfl, rfl⟩
              rw [show Dat.cs m ++ Dat.c y = Dat.cs (m ++ [y]) by rw [Dat.cs_app, Dat.cs_one], show m.length + 1 = (m ++ [y]).length by simp]
              refine ⟨(Or.inr (by repeat first | exact holds_nil | refine holds_cons inn ?_)), ?_⟩
              refine TA.take 30 rfl rfl rfl rfl (by kernel_rfl) (by kernel_rfl) (by kernel_rfl) rfl (by kernel_rfl) (by kernel_rfl) (fun _ _ _ h => h) (Y.assign rfl rfl) ?_
              refine TA.done (by kernel_rfl) ?_
              refine TQ.to (Ent.addEl (ys := m) (x := y) pul pul) ?_
              refine TQ.block_normal ?_
              refine TQ.meetF ((m ++ [y], a39, c39)) (⟨by simp, by (try simp only [List.length_append, List.length_singleton]); exact take_lp hm hx hly⟩) ⟨rfl, trivial⟩ (by (repeat first | apply Grow.refl | apply Grow.step | apply Grow.app)) ?_ ?_
              · kernel_rfl
              · simp only [List.cons_append, List.nil_append]
                exact ett
          · skip
            refine TAo.eff rfl rfl rfl rfl (X.lit rfl el48 rfl rfl rfl (by decide) rfl) ?_
            rintro _ _ ⟨g30, rfl, rfl⟩
            refine ⟨(Or.inr (by repeat first | exact holds_nil | refine holds_cons inn ?_)), ?_⟩
            refine TA.one 12 (by kernel_rfl) rfl rfl rfl rfl (X.appendS rfl el47 rfl pul rfl (Src.reads hr1 Try.underlying47 inn) (by simp only [maxLen]; omega) (by omega)) ?_
            rintro _ _ ⟨a22, c22, rfl, rfl⟩
            simp only [Nat.zero_add, List.nil_append]
            refine ⟨(Or.inr (by repeat first | exact holds_nil | refine holds_cons inn ?_)), ?_⟩
            refine TA.one 19 (by kernel_rfl) rfl rfl rfl rfl (X.appendS rfl el35 rfl pul rfl (Src.reads hr2 Try.underlying35 inn) (by simp only [maxLen]; omega) (by omega)) ?_
            rintro _ _ ⟨a29, c29, rfl, rfl⟩
            simp only [Nat.zero_add, List.nil_append]
            refine ⟨(Or.inr (by repeat first | exact holds_nil | refine holds_cons inn ?_)), ?_⟩
            refine TA.one 26 (by kernel_rfl) rfl rfl rfl rfl (X.appendS rfl el48 rfl pul rfl (Src.reads hr3 Try.underlying48 inn) (by simp only [maxLen]; omega) (by omega)) ?_
            rintro _ _ ⟨a36, c36, rfl, rfl⟩
            simp only [Nat.zero_add, List.nil_append]
            refine ⟨(Or.inr (by repeat first | exact holds_nil | refine holds_cons inn ?_)), ?_⟩
            refine TA.to (Ent.line (mid := xm) (ty := ⟨a22, c22, xt.l⟩) (so := ⟨a29, c29, xs.l⟩) (ri := ⟨a36, c36, xr.l⟩) pul pul pul) ?_
            obtain ⟨y, hy⟩ : ∃ y : LnD, y = (xm, ⟨a22, c22, xt.l⟩, ⟨a29, c29, xs.l⟩, ⟨a36, c36, xr.l⟩) := ⟨_, rfl⟩
            rw [← hy]
            have hly : lp y = lp (xm, xt, xs, xr) := by rw [hy]; rfl
            refine TA.take 27 rfl rfl rfl rfl (by kernel_rfl) (by kernel_rfl) (by kernel_rfl) rfl (by kernel_rfl) (by kernel_rfl) (fun _ _ _ h => h) (Y.buildS rfl rfl pl50 zc50 rfl) ?_
            refine TA.as (.agg (Dat.c y).toArray) (by (rw [hy]; rfl)) ?_
            refine TA.one 28 (by kernel_rfl) rfl rfl rfl rfl (X.litD (sz := 4) y rfl Try.underlying27 (by kernel_rfl) rfl rfl (by decide)) ?_
            rintro _ _ ⟨g38, rfl, rfl⟩
            refine ⟨(Or.inr (by repeat first | exact holds_nil | refine holds_cons inn ?_)), ?_⟩
            refine TA.one 29 (by kernel_rfl) rfl rfl rfl rfl (X.appendS rfl el27 rfl pul rfl (by first | exact Src.owns Try.underlying27 inn | exact Src.rds Try.underlying27 inn | exact Src.reads (by assumption) Try.underlying27 inn) (by simp only [maxLen]; omega) (by omega)) ?_
            rintro _ _ ⟨a39, c39, rfl, rfl⟩
            rw [show Dat.cs m ++ Dat.c y = Dat.cs (m ++ [y]) by rw [Dat.cs_app, Dat.cs_one], show m.length + 1 = (m ++ [y]).length by simp]
            refine ⟨(Or.inr (by repeat first | exact holds_nil | refine holds_cons inn ?_)), ?_⟩
            refine TA.take 30 rfl rfl rfl rfl (by kernel_rfl) (by kernel_rfl) (by kernel_rfl) rfl (by kernel_rfl) (by kernel_rfl) (fun _ _ _ h => h) (Y.assign rfl rfl) ?_
            refine TA.done (by kernel_rfl) ?_
            refine TQ.to (Ent.addEl (ys := m) (x := y) pul pul) ?_
            refine TQ.block_normal ?_
            refine TQ.meetF ((m ++ [y], a39, c39)) (⟨by simp, by (try simp only [List.length_append, List.length_singleton]); exact take_lp hm hx hly⟩) ⟨rfl, trivial⟩ (by (repeat first | apply Grow.refl | apply Grow.step | apply Grow.app)) ?_ ?_
            · kernel_rfl
            · simp only [List.cons_append, List.nil_append]
              exact ett
        · skip
          refine TAo.eff rfl rfl rfl rfl (X.lit rfl el48 rfl rfl rfl (by decide) rfl) ?_
          rintro _ _ ⟨g30, rfl, rfl⟩
          refine ⟨(Or.inr (by repeat first | exact holds_nil | refine holds_cons inn ?_)), ?_⟩
          refine TA.one 6 (by kernel_rfl) rfl rfl rfl rfl (X.lit rfl el47 rfl rfl rfl (by decide) rfl) ?_
          rintro _ _ ⟨g16, rfl, rfl⟩
          refine ⟨(Or.inr (by repeat first | exact holds_nil | refine holds_cons inn ?_)), ?_⟩
          refine TA.one 12 (by kernel_rfl) rfl rfl rfl rfl (X.appendS rfl el47 rfl pul rfl (Src.reads hr1 Try.underlying47 inn) (by simp only [maxLen]; omega) (by omega)) ?_
          rintro _ _ ⟨a22, c22, rfl, rfl⟩
          simp only [Nat.zero_add, List.nil_append]
          refine ⟨(Or.inr (by repeat first | exact holds_nil | refine holds_cons inn ?_)), ?_⟩
          refine TA.one 19 (by kernel_rfl) rfl rfl rfl rfl (X.appendS rfl el35 rfl pul rfl (Src.reads hr2 Try.underlying35 inn) (by simp only [maxLen]; omega) (by omega)) ?_
          rintro _ _ ⟨a29, c29, rfl, rfl⟩
          simp only [Nat.zero_add, List.nil_append]
          refine ⟨(Or.inr (by repeat first | exact holds_nil | refine holds_cons inn ?_)), ?_⟩
          refine TA.one 26 (by kernel_rfl) rfl rfl rfl rfl (X.appendS rfl el48 rfl pul rfl (Src.reads hr3 Try.underlying48 inn) (by simp only [maxLen]; omega) (by omega)) ?_
          rintro _ _ ⟨a36, c36, rfl, rfl⟩
          simp only [Nat.zero_add, List.nil_append]
          refine ⟨(Or.inr (by repeat first | exact holds_nil | refine holds_cons inn ?_)), ?_⟩
          refine TA.to (Ent.line (mid := xm) (ty := ⟨a22, c22, xt.l⟩) (so := ⟨a29, c29, xs.l⟩) (ri := ⟨a36, c36, xr.l⟩) pul pul pul) ?_
          obtain ⟨y, hy⟩ : ∃ y : LnD, y = (xm, ⟨a22, c22, xt.l⟩, ⟨a29, c29, xs.l⟩, ⟨a36, c36, xr.l⟩) := ⟨_, rfl⟩
          rw [← hy]
          have hly : lp y = lp (xm, xt, xs, xr) := by rw [hy]; rfl
          refine TA.take 27 rfl rfl rfl rfl (by kernel_rfl) (by kernel_rfl) (by kernel_rfl) rfl (by kernel_rfl) (by kernel_rfl) (fun _ _ _ h => h) (Y.buildS rfl rfl pl50 zc50 rfl) ?_
          refine TA.as (.agg (Dat.c y).toArray) (by (rw [hy]; rfl)) ?_
          refine TA.one 28 (by kernel_rfl) rfl rfl rfl rfl (X.litD (sz := 4) y rfl Try.underlying27 (by kernel_rfl) rfl rfl (by decide)) ?_
          rintro _ _ ⟨g38, rfl, rfl⟩
          refine ⟨(Or.inr (by repeat first | exact holds_nil | refine holds_cons inn ?_)), ?_⟩
          refine TA.one 29 (by kernel_rfl) rfl rfl rfl rfl (X.appendS rfl el27 rfl pul rfl (by first | exact Src.owns Try.underlying27 inn | exact Src.rds Try.underlying27 inn | exact Src.reads (by assumption) Try.underlying27 inn) (by simp only [maxLen]; omega) (by omega)) ?_
          rintro _ _ ⟨a39, c39, rfl, rfl⟩
          rw [show Dat.cs m ++ Dat.c y = Dat.cs (m ++ [y]) by rw [Dat.cs_app, Dat.cs_one], show m.length + 1 = (m ++ [y]).length by simp]
          refine ⟨(Or.inr (by repeat first | exact holds_nil | refine holds_cons inn ?_)), ?_⟩
          refine TA.take 30 rfl rfl rfl rfl (by kernel_rfl) (by kernel_rfl) (by kernel_rfl) rfl (by kernel_rfl) (by kernel_rfl) (fun _ _ _ h => h) (Y.assign rfl rfl) ?_
          refine TA.done (by kernel_rfl) ?_
          refine TQ.to (Ent.addEl (ys := m) (x := y) pul pul) ?_
          refine TQ.block_normal ?_
          refine TQ.meetF ((m ++ [y], a39, c39)) (⟨by simp, by (try simp only [List.length_append, List.length_singleton]); exact take_lp hm hx hly⟩) ⟨rfl, trivial⟩ (by (repeat first | apply Grow.refl | apply Grow.step | apply Grow.app)) ?_ ?_
          · kernel_rfl
          · simp only [List.cons_append, List.nil_append]
            exact ett
      · skip
        refine TAo.eff rfl rfl rfl rfl (X.lit rfl el48 rfl rfl rfl (by decide) rfl) ?_
        rintro _ _ ⟨g30, rfl, rfl⟩
        refine ⟨(Or.inr (by repeat first | exact holds_nil | refine holds_cons inn ?_)), ?_⟩
        refine TA.any (rs := [6, 13]) (by kernel_rfl) (by simp) ?_
        simp only [List.forall_mem_cons, List.not_mem_nil, false_implies, implies_true, and_true]
        refine ⟨?_, ?_⟩
        · skip
          refine TAo.eff rfl rfl rfl rfl (X.lit rfl el47 rfl rfl rfl (by decide) rfl) ?_
          rintro _ _ ⟨g16, rfl, rfl⟩
          refine ⟨(Or.inr (by repeat first | exact holds_nil | refine holds_cons inn ?_)), ?_⟩
          refine TA.any (rs := [12, 13]) (by kernel_rfl) (by simp) ?_
          simp only [List.forall_mem_cons, List.not_mem_nil, false_implies, implies_true, and_true]
          refine ⟨?_, ?_⟩
          · skip
            refine TAo.eff rfl rfl rfl rfl (X.appendS rfl el47 rfl pul rfl (Src.reads hr1 Try.underlying47 inn) (by simp only [maxLen]; omega) (by omega)) ?_
            rintro _ _ ⟨a22, c22, rfl, rfl⟩
            simp only [Nat.zero_add, List.nil_append]
            refine ⟨(Or.inr (by repeat first | exact holds_nil | refine holds_cons inn ?_)), ?_⟩
            refine TA.one 13 (by kernel_rfl) rfl rfl rfl rfl (X.lit rfl el35 rfl rfl rfl (by decide) rfl) ?_
            rintro _ _ ⟨g23, rfl, rfl⟩
            refine ⟨(Or.inr (by repeat first | exact holds_nil | refine holds_cons inn ?_)), ?_⟩
            refine TA.one 19 (by kernel_rfl) rfl rfl rfl rfl (X.appendS rfl el35 rfl pul rfl (Src.reads hr2 Try.underlying35 inn) (by simp only [maxLen]; omega) (by omega)) ?_
            rintro _ _ ⟨a29, c29, rfl, rfl⟩
            simp only [Nat.zero_add, List.nil_append]
            refine ⟨(Or.inr (by repeat first | exact holds_nil | refine holds_cons inn ?_)), ?_⟩
            refine TA.one 26 (by kernel_rfl) rfl rfl rfl rfl (X.appendS rfl el48 rfl pul rfl (Src.reads hr3 Try.underlying48 inn) (by simp only [maxLen]; omega) (by omega)) ?_
            rintro _ _ ⟨a36, c36, rfl, rfl⟩
            simp only [Nat.zero_add, List.nil_append]
            refine ⟨(Or.inr (by repeat first | exact holds_nil | refine holds_cons inn ?_)), ?_⟩
            refine TA.to (Ent.line (mid := xm) (ty := ⟨a22, c22, xt.l⟩) (so := ⟨a29, c29, xs.l⟩) (ri := ⟨a36, c36, xr.l⟩) pul pul pul) ?_
            obtain ⟨y, hy⟩ : ∃ y : LnD, y = (xm, ⟨a22, c22, xt.l⟩, ⟨a29, c29, xs.l⟩, ⟨a36, c36, xr.l⟩) := ⟨_, rfl⟩
            rw [← hy]
            have hly : lp y = lp (xm, xt, xs, xr) := by rw [hy]; rfl
            refine TA.take 27 rfl rfl rfl rfl (by kernel_rfl) (by kernel_rfl) (by kernel_rfl) rfl (by kernel_rfl) (by kernel_rfl) (fun _ _ _ h => h) (Y.buildS rfl rfl pl50 zc50 rfl) ?_
            refine TA.as (.agg (Dat.c y).toArray) (by (rw [hy]; rfl)) ?_
            refine TA.one 28 (by kernel_rfl) rfl rfl rfl rfl (X.litD (sz := 4) y rfl Try.underlying27 (by kernel_rfl) rfl rfl (by decide)) ?_
            rintro _ _ ⟨g38, rfl, rfl⟩
            refine ⟨(Or.inr (by repeat first | exact holds_nil | refine holds_cons inn ?_)), ?_⟩
            refine TA.one 29 (by kernel_rfl) rfl rfl rfl rfl (X.appendS rfl el27 rfl pul rfl (by first | exact Src.owns Try.underlying27 inn | exact Src.rds Try.underlying27 inn | exact Src.reads (by assumption) Try.underlying27 inn) (by simp only [maxLen]; omega) (by omega)) ?_
            rintro _ _ ⟨a39, c39, rfl, rfl⟩
            rw [show Dat.cs m ++ Dat.c y = Dat.cs (m ++ [y]) by rw [Dat.cs_app, Dat.cs_one], show m.length + 1 = (m ++ [y]).length by simp]
            refine ⟨(Or.inr (by repeat first | exact holds_nil | refine holds_cons inn ?_)), ?_⟩
            refine TA.take 30 rfl rfl rfl rfl (by kernel_rfl) (by kernel_rfl) (by kernel_rfl) rfl (by kernel_rfl) (by kernel_rfl) (fun _ _ _ h => h) (Y.assign rfl rfl) ?_
            refine TA.done (by kernel_rfl) ?_
            refine TQ.to (Ent.addEl (ys := m) (x := y) pul pul) ?_
            refine TQ.block_normal ?_
            refine TQ.meetF ((m ++ [y], a39, c39)) (⟨by simp, by (try simp only [List.length_append, List.length_singleton]); exact take_lp hm hx hly⟩) ⟨rfl, trivial⟩ (by (repeat first | apply Grow.refl | apply Grow.step | apply Grow.app)) ?_ ?_
            · kernel_rfl
            · simp only [List.cons_append, List.nil_append]
              exact ett
          · skip
            refine TAo.eff rfl rfl rfl rfl (X.lit rfl el35 rfl rfl rfl (by decide) rfl) ?_
            rintro _ _ ⟨g23, rfl, rfl⟩
            refine ⟨(Or.inr (by repeat first | exact holds_nil | refine holds_cons inn ?_)), ?_⟩
            refine TA.one 12 (by kernel_rfl) rfl rfl rfl rfl (X.appendS rfl el47 rfl pul rfl (Src.reads hr1 Try.underlying47 inn) (by simp only [maxLen]; omega) (by omega)) ?_
            rintro _ _ ⟨a22, c22, rfl, rfl⟩
            simp only [Nat.zero_add, List.nil_append]
            refine ⟨(Or.inr (by repeat first | exact holds_nil | refine holds_cons inn ?_)), ?_⟩
            refine TA.one 19 (by kernel_rfl) rfl rfl rfl rfl (X.appendS rfl el35 rfl pul rfl (Src.reads hr2 Try.underlying35 inn) (by simp only [maxLen]; omega) (by omega)) ?_
            rintro _ _ ⟨a29, c29, rfl, rfl⟩
            simp only [Nat.zero_add, List.nil_append]
            refine ⟨(Or.inr (by repeat first | exact holds_nil | refine holds_cons inn ?_)), ?_⟩
            refine TA.one 26 (by kernel_rfl) rfl rfl rfl rfl (X.appendS rfl el48 rfl pul rfl (Src.reads hr3 Try.underlying48 inn) (by simp only [maxLen]; omega) (by omega)) ?_
            rintro _ _ ⟨a36, c36, rfl, rfl⟩
            simp only [Nat.zero_add, List.nil_append]
            refine ⟨(Or.inr (by repeat first | exact holds_nil | refine holds_cons inn ?_)), ?_⟩
            refine TA.to (Ent.line (mid := xm) (ty := ⟨a22, c22, xt.l⟩) (so := ⟨a29, c29, xs.l⟩) (ri := ⟨a36, c36, xr.l⟩) pul pul pul) ?_
            obtain ⟨y, hy⟩ : ∃ y : LnD, y = (xm, ⟨a22, c22, xt.l⟩, ⟨a29, c29, xs.l⟩, ⟨a36, c36, xr.l⟩) := ⟨_, rfl⟩
            rw [← hy]
            have hly : lp y = lp (xm, xt, xs, xr) := by rw [hy]; rfl
            refine TA.take 27 rfl rfl rfl rfl (by kernel_rfl) (by kernel_rfl) (by kernel_rfl) rfl (by kernel_rfl) (by kernel_rfl) (fun _ _ _ h => h) (Y.buildS rfl rfl pl50 zc50 rfl) ?_
            refine TA.as (.agg (Dat.c y).toArray) (by (rw [hy]; rfl)) ?_
            refine TA.one 28 (by kernel_rfl) rfl rfl rfl rfl (X.litD (sz := 4) y rfl Try.underlying27 (by kernel_rfl) rfl rfl (by decide)) ?_
            rintro _ _ ⟨g38, rfl, rfl⟩
            refine ⟨(Or.inr (by repeat first | exact holds_nil | refine holds_cons inn ?_)), ?_⟩
            refine TA.one 29 (by kernel_rfl) rfl rfl rfl rfl (X.appendS rfl el27 rfl pul rfl (by first | exact Src.owns Try.underlying27 inn | exact Src.rds Try.underlying27 inn | exact Src.reads (by assumption) Try.underlying27 inn) (by simp only [maxLen]; omega) (by omega)) ?_
            rintro _ _ ⟨a39, c39, rfl, rfl⟩
            rw [show Dat.cs m ++ Dat.c y = Dat.cs (m ++ [y]) by rw [Dat.cs_app, Dat.cs_one], show m.length + 1 = (m ++ [y]).length by simp]
            refine ⟨(Or.inr (by repeat first | exact holds_nil | refine holds_cons inn ?_)), ?_⟩
            refine TA.take 30 rfl rfl rfl rfl (by kernel_rfl) (by kernel_rfl) (by kernel_rfl) rfl (by kernel_rfl) (by kernel_rfl) (fun _ _ _ h => h) (Y.assign rfl rfl) ?_
            refine TA.done (by kernel_rfl) ?_
            refine TQ.to (Ent.addEl (ys := m) (x := y) pul pul) ?_
            refine TQ.block_normal ?_
            refine TQ.meetF ((m ++ [y], a39, c39)) (⟨by simp, by (try simp only [List.length_append, List.length_singleton]); exact take_lp hm hx hly⟩) ⟨rfl, trivial⟩ (by (repeat first | apply Grow.refl | apply Grow.step | apply Grow.app)) ?_ ?_
            · kernel_rfl
            · simp only [List.cons_append, List.nil_append]
              exact ett
        · skip
          refine TAo.eff rfl rfl rfl rfl (X.lit rfl el35 rfl rfl rfl (by decide) rfl) ?_
          rintro _ _ ⟨g23, rfl, rfl⟩
          refine ⟨(Or.inr (by repeat first | exact holds_nil | refine holds_cons inn ?_)), ?_⟩
          refine TA.one 6 (by kernel_rfl) rfl rfl rfl rfl (X.lit rfl el47 rfl rfl rfl (by decide) rfl) ?_
          rintro _ _ ⟨g16, rfl, rfl⟩
          refine ⟨(Or.inr (by repeat first | exact holds_nil | refine holds_cons inn ?_)), ?_⟩
          refine TA.one 12 (by kernel_rfl) rfl rfl rfl rfl (X.appendS rfl el47 rfl pul rfl (Src.reads hr1 Try.underlying47 inn) (by simp only [maxLen]; omega) (by omega)) ?_
          rintro _ _ ⟨a22, c22, rfl, rfl⟩
          simp only [Nat.zero_add, List.nil_append]
          refine ⟨(Or.inr (by repeat first | exact holds_nil | refine holds_cons inn ?_)), ?_⟩
          refine TA.one 19 (by kernel_rfl) rfl rfl rfl rfl (X.appendS rfl el35 rfl pul rfl (Src.reads hr2 Try.underlying35 inn) (by simp only [maxLen]; omega) (by omega)) ?_
          rintro _ _ ⟨a29, c29, rfl, rfl⟩
          simp only [Nat.zero_add, List.nil_append]
          refine ⟨(Or.inr (by repeat first | exact holds_nil | refine holds_cons inn ?_)), ?_⟩
          refine TA.one 26 (by kernel_rfl) rfl rfl rfl rfl (X.appendS rfl el48 rfl pul rfl (Src.reads hr3 Try.underlying48 inn) (by simp only [maxLen]; omega) (by omega)) ?_
          rintro _ _ ⟨a36, c36, rfl, rfl⟩
          simp only [Nat.zero_add, List.nil_append]
          refine ⟨(Or.inr (by repeat first | exact holds_nil | refine holds_cons inn ?_)), ?_⟩
          refine TA.to (Ent.line (mid := xm) (ty := ⟨a22, c22, xt.l⟩) (so := ⟨a29, c29, xs.l⟩) (ri := ⟨a36, c36, xr.l⟩) pul pul pul) ?_
          obtain ⟨y, hy⟩ : ∃ y : LnD, y = (xm, ⟨a22, c22, xt.l⟩, ⟨a29, c29, xs.l⟩, ⟨a36, c36, xr.l⟩) := ⟨_, rfl⟩
          rw [← hy]
          have hly : lp y = lp (xm, xt, xs, xr) := by rw [hy]; rfl
          refine TA.take 27 rfl rfl rfl rfl (by kernel_rfl) (by kernel_rfl) (by kernel_rfl) rfl (by kernel_rfl) (by kernel_rfl) (fun _ _ _ h => h) (Y.buildS rfl rfl pl50 zc50 rfl) ?_
          refine TA.as (.agg (Dat.c y).toArray) (by (rw [hy]; rfl)) ?_
          refine TA.one 28 (by kernel_rfl) rfl rfl rfl rfl (X.litD (sz := 4) y rfl Try.underlying27 (by kernel_rfl) rfl rfl (by decide)) ?_
          rintro _ _ ⟨g38, rfl, rfl⟩
          refine ⟨(Or.inr (by repeat first | exact holds_nil | refine holds_cons inn ?_)), ?_⟩
          refine TA.one 29 (by kernel_rfl) rfl rfl rfl rfl (X.appendS rfl el27 rfl pul rfl (by first | exact Src.owns Try.underlying27 inn | exact Src.rds Try.underlying27 inn | exact Src.reads (by assumption) Try.underlying27 inn) (by simp only [maxLen]; omega) (by omega)) ?_
          rintro _ _ ⟨a39, c39, rfl, rfl⟩
          rw [show Dat.cs m ++ Dat.c y = Dat.cs (m ++ [y]) by rw [Dat.cs_app, Dat.cs_one], show m.length + 1 = (m ++ [y]).length by simp]
          refine ⟨(Or.inr (by repeat first | exact holds_nil | refine holds_cons inn ?_)), ?_⟩
          refine TA.take 30 rfl rfl rfl rfl (by kernel_rfl) (by kernel_rfl) (by kernel_rfl) rfl (by kernel_rfl) (by kernel_rfl) (fun _ _ _ h => h) (Y.assign rfl rfl) ?_
          refine TA.done (by kernel_rfl) ?_
          refine TQ.to (Ent.addEl (ys := m) (x := y) pul pul) ?_
          refine TQ.block_normal ?_
          refine TQ.meetF ((m ++ [y], a39, c39)) (⟨by simp, by (try simp only [List.length_append, List.length_singleton]); exact take_lp hm hx hly⟩) ⟨rfl, trivial⟩ (by (repeat first | apply Grow.refl | apply Grow.step | apply Grow.app)) ?_ ?_
          · kernel_rfl
          · simp only [List.cons_append, List.nil_append]
            exact ett
    · rintro ⟨m', ma', mc'⟩ ⟨hml', hm'⟩ F' L' rfl hL'
      simp only [List.cons_append, List.nil_append] at hL'
      subst hL'
      simp only at hml' hm' ⊢
      refine TC.region ?_
      refine TL.val rfl rfl rfl (Y.bin rfl rfl rfl (br_addN (n := 1) (by omega))) ?_
      refine TL.val rfl rfl rfl (Y.move rfl rfl) ?_
      refine TL.nil ?_
      refine TQ.loopF ((m', ma', mc')) (⟨by simp only; omega, by simp only; rw [hml']; exact hm'⟩) (by simp only; omega) ⟨by simp only; rw [hml']; rfl, rfl, trivial⟩ (by (repeat first | apply Grow.refl | apply Grow.step | apply Grow.app)) ?_ ?_ ?_
      · kernel_rfl
      · rfl
      · simp only [List.cons_append, List.nil_append]
        exact ett
  · try simp only [decide_eq_true_eq, decide_eq_false_iff_not, Bool.not_eq_true', Bool.not_eq_false', Bool.and_eq_true, Bool.or_eq_true, Nat.not_lt, Nat.not_le, beq_iff_eq, bne_iff_ne] at c0
    have hml : m.length = ls.length := by omega
    rw [hml, List.take_length] at hm
    refine TC.to (Ent.mkOwn (l := m) pul pul rfl rfl rfl) ?_
    refine TC.exit ?_
    refine TQ.then_exit ?_
    refine TQ.then_exit ?_
    refine TQ.block_exit ?_
    refine TQ.next ?_
    refine TC.seq ?_
    refine TC.region ?_
    refine TL.val rfl rfl rfl (Y.move rfl rfl) ?_
    refine TL.val rfl rfl rfl (Y.assign rfl rfl) ?_
    refine TL.nil ?_
    refine TQ.next ?_
    refine TC.ret ?_
    refine TQ.retE (res1 rfl rfl) (⟨ma, mc, m, rfl, hm, rfl⟩) ?_
    exact ett
end dm
end Go.Proofs.Ytmdahgmlccmdoaa
