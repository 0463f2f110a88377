/- demux: lines that are owned, and turned. -/
import Derived.Test.YtmdahgmlccmdoaaDmxK
import Derived.Test.YtmdahgmlccmdoaaHAuto
namespace Go.Proofs.Ytmdahgmlccmdoaa
set_option linter.unusedVariables false
set_option linter.unusedSimpArgs false
open Go.RowKit
namespace dm
namespace FxDmxV
set_option maxRecDepth 100000
theorem el27 : Elt Try.prog 27 50 4 88 (.agg #[.string .empty, .slice none 0 0, .slice none 0 0, .slice none 0 0]) := ⟨Try.underlying27, by kernel_rfl, rfl, by decide, by simp [Value.cells, Value.oneCell']⟩
theorem el35 : Elt Try.prog 35 34 1 4 (.int .u32 0) := ⟨Try.underlying35, by kernel_rfl, rfl, by decide, by simp [Value.cells, Value.oneCell']⟩
theorem el47 : Elt Try.prog 47 3 1 8 (.int .i64 0) := ⟨Try.underlying47, by kernel_rfl, rfl, by decide, by simp [Value.cells, Value.oneCell']⟩
theorem el48 : Elt Try.prog 48 9 1 16 (.string .empty) := ⟨Try.underlying48, by kernel_rfl, rfl, by decide, by simp [Value.cells, Value.oneCell']⟩
theorem fo65_0 : Program.fieldOff Try.prog 65 0 = some 0 := by kernel_rfl
theorem fo65_1 : Program.fieldOff Try.prog 65 1 = some 1 := by kernel_rfl
theorem fo65_2 : Program.fieldOff Try.prog 65 2 = some 2 := by kernel_rfl
theorem fo65_3 : Program.fieldOff Try.prog 65 3 = some 3 := by kernel_rfl
theorem pl50 : Program.places Try.prog 50 = some [(0, 1), (1, 1), (2, 1), (3, 1)] := by kernel_rfl
theorem sc35 : Program.isSc Try.prog 35 = true := by kernel_rfl
theorem sc47 : Program.isSc Try.prog 47 = true := by kernel_rfl
theorem sc48 : Program.isSc Try.prog 48 = true := by kernel_rfl
theorem sc9 : Program.isSc Try.prog 9 = true := by kernel_rfl
theorem sl22 : Program.slI Try.prog 22 = some 4 := by kernel_rfl
theorem zc50 : Program.zeroC Try.prog 50 = some #[.string .empty, .slice none 0 0, .slice none 0 0, .slice none 0 0] := by kernel_rfl
end FxDmxV
open FxDmxV
abbrev tyE (x : LnD) : SA := SA.owns 3 1 x.2.1.v x.2.1.l.length (Dat.cs x.2.1.l)
def tyX (x : LnD) : SA := SA.ex fun cs : List Value => SA.owns 3 1 x.2.1.v x.2.1.l.length cs
def gSR (x : LnD) : List G := Dat.g x.2.2.1 ++ Dat.g x.2.2.2
def LNS (m : List LnD) : SA := SA.star (SA.all (m.map tyE)) (SA.rdss (m.flatMap gSR))
def LNO (x : LnD) : SA := SA.star (tyE x) (SA.rdss (gSR x))
theorem LNS.nil {L : List SA} : Ent L (LNS [] :: L) := Ent.rdss0.trans (Ent.empE.trans Ent.unstarE)
theorem LNO.mk {mid : ByteArray} {ty : Sl Int} {so : Sl UInt32} {ri : Sl ByteArray} {e2 e3 : Nat} {L L1 L2 L3 : List SA} (h1 : Pull (SA.owns 3 1 ty.v ty.l.length (Dat.cs ty.l)) L L1) (h2 : Pull (SA.owns e2 1 so.v so.l.length (Dat.cs so.l)) L1 L2) (h3 : Pull (SA.owns e3 1 ri.v ri.l.length (Dat.cs ri.l)) L2 L3) :
    Ent L (LNO ((mid, ty, so, ri) : LnD) :: L3) := by
  refine h1.ent.trans ((h2.ent.under _).trans (((h3.ent.under _).under _).trans ?_))
  have a2 := fun L => Ent.scalD (e := e2) (a := so.a) (cap := so.cap) (l := so.l) (L := SA.owns e2 1 so.v so.l.length (Dat.cs so.l) :: L) Pull.here rfl rfl (fun _ => rfl)
  have a3 := fun L => Ent.scalD (e := e3) (a := ri.a) (cap := ri.cap) (l := ri.l) (L := SA.owns e3 1 ri.v ri.l.length (Dat.cs ri.l) :: L) Pull.here rfl rfl (fun _ => rfl)
  exact (Ent.under _ (a2 _)).trans ((Ent.under _ (Ent.under _ (a3 _))).trans ((Ent.under _ Ent.rdssApp).trans Ent.unstarE))
theorem LNS.add {m : List LnD} {y : LnD} {L L1 L2 : List SA} (h1 : Pull (LNS m) L L1) (h2 : Pull (LNO y) L1 L2) : Ent L (LNS (m ++ [y]) :: L2) := by
  refine h1.ent.trans ((h2.ent.under _).trans (Ent.starE.trans ?_))
  refine (Ent.under _ (Ent.under _ Ent.starE)).trans ?_
  refine (Ent.under _ Ent.swap).trans ?_
  have e1 : ∀ X : List SA, Ent (SA.all (m.map tyE) :: tyE y :: X) (SA.all ((m ++ [y]).map tyE) :: X) := fun X => by
    refine (Ent.unall (m.map tyE)).trans ?_
    rw [List.map_append]
    have := Ent.doall (L := X) (m.map tyE ++ [tyE y])
    rw [List.append_assoc] at this
    exact this
  refine (e1 _).trans ((Ent.under _ Ent.rdssApp).trans ?_)
  unfold LNS
  rw [List.flatMap_append, List.flatMap_singleton]
  exact Ent.unstarE
/-- reading what a star has -/
theorem Reads.starL {A B : SA} {sz n : Nat} {v : Value} {cs : List Value} (h : Reads A sz v n cs) : Reads (SA.star A B) sz v n cs := fun w _ _ ⟨O1, R1, _, _, hA, _⟩ => h w O1 R1 hA
theorem Reads.starR {A B : SA} {sz n : Nat} {v : Value} {cs : List Value} (h : Reads B sz v n cs) : Reads (SA.star A B) sz v n cs := fun w _ _ ⟨_, _, O2, R2, _, hB, _⟩ => h w O2 R2 hB
theorem Reads.all {sz n : Nat} {v : Value} {cs : List Value} {A : SA} (h : Reads A sz v n cs) : ∀ {As : List SA}, A ∈ As → Reads (SA.all As) sz v n cs
  | [], hm => by cases hm
  | B :: As, hm => by
    rcases List.mem_cons.1 hm with rfl | hm
    · exact Reads.starL h
    · exact Reads.starR (Reads.all h hm)
abbrev LA (la : Option Addr) (lc : Nat) (ls : List LnD) : SA := SA.star (SA.owns 50 4 (.slice la ls.length lc) ls.length (Dat.cs ls)) (LNS ls)
theorem LA.ty {la : Option Addr} {lc : Nat} {ls : List LnD} {x : LnD} (hx : x ∈ ls) : Reads (LA la lc ls) 1 x.2.1.v x.2.1.l.length (Dat.cs x.2.1.l) := Reads.starR (Reads.starL (Reads.all (A := tyE x) Reads.owns (List.mem_map_of_mem hx)))
theorem LA.sr {la : Option Addr} {lc : Nat} {ls : List LnD} {x : LnD} (hx : x ∈ ls) {q : G} (hq : q ∈ gSR x) : Reads (LA la lc ls) q.sz q.v q.n q.cells := Reads.starR (Reads.starR fun w O R h => (h q (List.mem_flatMap.2 ⟨x, hx, hq⟩)).2)
theorem LA.so {la : Option Addr} {lc : Nat} {ls : List LnD} {x : LnD} (hx : x ∈ ls) : Reads (LA la lc ls) 1 x.2.2.1.v x.2.2.1.l.length (Dat.cs x.2.2.1.l) := LA.sr hx (q := ⟨1, x.2.2.1.v, x.2.2.1.l.length, Dat.cs x.2.2.1.l⟩) (List.mem_append_left _ (List.mem_cons_self ..))
theorem LA.ri {la : Option Addr} {lc : Nat} {ls : List LnD} {x : LnD} (hx : x ∈ ls) : Reads (LA la lc ls) 1 x.2.2.2.v x.2.2.2.l.length (Dat.cs x.2.2.2.l) := LA.sr hx (q := ⟨1, x.2.2.2.v, x.2.2.2.l.length, Dat.cs x.2.2.2.l⟩) (List.mem_append_right _ (List.mem_cons_self ..))
theorem Ent.toX {L : List SA} : ∀ l : List LnD, Ent (SA.all (l.map tyE) :: L) (SA.all (l.map tyX) :: L)
  | [] => Ent.refl
  | x :: l => by
    refine Ent.starE.trans ?_
    refine (Ent.exE (f := fun cs : List Value => SA.owns 3 1 x.2.1.v x.2.1.l.length cs) (Dat.cs x.2.1.l)).trans ?_
    exact (Ent.under (tyX x) (Ent.toX l)).trans Ent.unstarE
theorem Ent.focus {f : LnD → SA} {l : List LnD} {i : Nat} {x : LnD} (hx : l[i]? = some x) {L : List SA} : Ent (SA.all (l.map f) :: L) (f x :: SA.all ((l.eraseIdx i).map f) :: L) := by
  have e : l.map f = (l.take i).map f ++ f x :: (l.drop (i + 1)).map f := by conv => lhs; rw [split_at hx]
                                                                             simp
  refine (Ent.unall _).trans ?_
  rw [e, List.append_assoc, List.eraseIdx_eq_take_drop_succ, List.map_append]
  refine (pull_mid _).ent.trans (Ent.under _ ?_)
  have := Ent.doall (L := L) ((l.take i).map f ++ (l.drop (i + 1)).map f)
  rw [List.append_assoc] at this
  exact this
theorem Ent.unfocus {f : LnD → SA} {l : List LnD} {i : Nat} {x : LnD} (hx : l[i]? = some x) {L : List SA} : Ent (f x :: SA.all ((l.eraseIdx i).map f) :: L) (SA.all (l.map f) :: L) := by
  have e : l.map f = (l.take i).map f ++ f x :: (l.drop (i + 1)).map f := by conv => lhs; rw [split_at hx]
                                                                             simp
  refine Ent.trans ?_ (Ent.doall _)
  rw [e, List.append_assoc, List.eraseIdx_eq_take_drop_succ, List.map_append]
  refine (Ent.under _ (Ent.unall _)).trans ?_
  rw [List.append_assoc]
  exact (pull_mid (B := f x) (L0 := (l.drop (i + 1)).map f ++ L) ((l.take i).map f)).back
theorem tyX_eq {x y : LnD} (h : x.2 = y.2) : tyX x = tyX y := by unfold tyX; rw [h]
theorem fst_set {m : List LnD} {k : Nat} {q q' : ByteArray} {y : Sl Int × (Sl UInt32 × Sl ByteArray)} (hx : m[k]? = some (q, y)) : (Dat.cs m).set (k * 4) (vS q') = Dat.cs (m.set k (q', y)) := by
  have hk := (List.getElem?_eq_some_iff.1 hx).1
  have hkl : (m.take k).length = k := by rw [List.length_take]; omega
  have e0 : Dat.cs m = Dat.cs (m.take k) ++ (vS q :: (Dat.c y ++ Dat.cs (m.drop (k + 1)))) := by
    conv => lhs; rw [split_at hx]
    rw [Dat.cs_app, show (q, y) :: m.drop (k + 1) = [(q, y)] ++ m.drop (k + 1) from rfl, Dat.cs_app, Dat.cs_one]; rfl
  have e1 : Dat.cs (m.set k (q', y)) = Dat.cs (m.take k) ++ (vS q' :: (Dat.c y ++ Dat.cs (m.drop (k + 1)))) := by
    rw [set_at _ hx, Dat.cs_app, show (q', y) :: m.drop (k + 1) = [(q', y)] ++ m.drop (k + 1) from rfl, Dat.cs_app, Dat.cs_one]; rfl
  have e2 : (Dat.cs (m.take k)).length = k * 4 := by rw [Dat.cs_len, hkl]; rfl
  rw [e0, e1, List.set_append_right _ _ (by omega), e2, Nat.sub_self]; rfl
set_option maxHeartbeats 4000000 in
theorem linesO_fn (a : Option Addr) (cap : Nat) (ls : List LnD) (hln : ls.length ≤ 1599289640355) (hls : Okl ls) (L : List SA) :
    Fn Try.prog 9 [.slice a ls.length cap] (SA.dat (⟨a, cap, ls⟩ : Sl LnD) :: L)
      (fun v L' => ∃ la lc ls', v = .slice la ls'.length lc ∧ ls'.map lp = ls.map lp ∧ L' = SA.owns 50 4 (.slice la ls'.length lc) ls'.length (Dat.cs ls') :: LNS ls' :: SA.dat (⟨a, cap, ls⟩ : Sl LnD) :: L) := by
  refine Fn.of (N := 42) Try.func9 rfl rfl ?_
  intro Xh
  refine TC.know (dat_cap (a := a) inn) ?_
  rintro ⟨hc1, hc2, -⟩
  refine TC.to (Ent.nilOwn 50 4) ?_
  refine TC.to LNS.nil ?_
  refine TC.seq ?_
  refine TC.region ?_
  refine TL.val rfl rfl rfl (Y.assign rfl rfl) ?_
  refine TL.nil ?_
  refine TQ.next ?_
  refine TC.seq ?_
  refine TC.region ?_
  refine TL.val rfl rfl rfl (Y.assign rfl rfl) ?_
  refine TL.nil ?_
  refine TQ.next ?_
  refine TC.seq ?_
  refine TC.seq ?_
  refine TC.region ?_
  refine TL.val rfl rfl rfl (Y.move rfl rfl) ?_
  refine TL.val rfl rfl rfl (Y.len rfl Try.underlying22 rfl) ?_
  refine TL.val rfl rfl rfl (Y.move rfl rfl) ?_
  refine TL.nil ?_
  refine TQ.next ?_
  refine TC.block ?_
  refine TC.loopF (ι := List LnD × Option Addr × Nat) [] (fun i => i.1.length ≤ ls.length ∧ i.1.map lp = (ls.take i.1.length).map lp) (fun i => [(7, some (vN i.1.length)), (3, some (.slice i.2.1 i.1.length i.2.2))]) (fun i => [SA.owns 50 4 (.slice i.2.1 i.1.length i.2.2) i.1.length (Dat.cs i.1), LNS i.1]) (fun i => ls.length - i.1.length) (([], none, 0)) (⟨Nat.zero_le _, rfl⟩) ⟨rfl, rfl, trivial⟩ (Pulls.cons pul (Pulls.cons pul Pulls.nil)) ?_
  rintro ⟨m, ma, mc⟩ ⟨hk, hm⟩ F' L' rfl hL'
  simp only [List.cons_append, List.nil_append] at hL'
  subst hL'
  simp only at hk hm ⊢
  refine TC.seq ?_
  refine TC.region ?_
  refine TL.val rfl rfl rfl (Y.bin rfl rfl rfl (br_ltN)) ?_
  refine TL.nil ?_
  refine TQ.next ?_
  refine TC.seq ?_
  refine TC.cond rfl (fun c0 => ?_) (fun c0 => ?_)
  · try simp only [decide_eq_true_eq, decide_eq_false_iff_not, Bool.not_eq_true', Bool.not_eq_false', Bool.and_eq_true, Bool.or_eq_true, Nat.not_lt, Nat.not_le, beq_iff_eq, bne_iff_ne] at c0
    refine TC.skip ?_
    refine TQ.next ?_
    refine TC.cutF (ι := List LnD × Option Addr × Nat) [] (fun i => i.1.length = m.length + 1 ∧ i.1.map lp = (ls.take (m.length + 1)).map lp) (fun i => [(3, some (.slice i.2.1 i.1.length i.2.2))]) (fun i => [SA.owns 50 4 (.slice i.2.1 i.1.length i.2.2) i.1.length (Dat.cs i.1), LNS i.1]) (Ao := [SA.owns 50 4 (.slice ma m.length mc) m.length (Dat.cs m), LNS m]) (Pulls.cons pul (Pulls.cons pul Pulls.nil)) ?_ ?_
    · rintro L' hL'
      simp only [List.cons_append, List.nil_append] at hL'
      subst hL'
      refine TC.block ?_
      refine TC.seq ?_
      refine TC.region ?_
      refine TL.val rfl rfl rfl (Y.move rfl rfl) ?_
      refine TL.val rfl rfl rfl (Y.assign rfl rfl) ?_
      refine TL.nil ?_
      refine TQ.next ?_
      refine TC.know (dat_some (a := a) inn (by omega)) ?_
      rintro ⟨g, off, rfl⟩
      obtain ⟨x, hx, hxm⟩ := getS (l := ls) (i := m.length) (by omega)
      obtain ⟨hx1, hx2, hx3⟩ := hls x hxm
      refine TC.to (Ent.trans (Pull.ent (A := SA.dat (⟨some ⟨g, off, none⟩, cap, ls⟩ : Sl LnD)) pul) (Ent.elem hxm)) ?_
      obtain ⟨xm, xt, xs, xr⟩ := x
      simp only at hx1 hx2 hx3
      have hr1 : Reads (SA.dat ((xm, xt, xs, xr) : LnD)) 1 xt.v xt.l.length (Dat.cs xt.l) := fun w O R h => Reads.dat w O R (fun q hq => h q (List.mem_append_right _ (List.mem_append_left _ hq)))
      have hr2 : Reads (SA.dat ((xm, xt, xs, xr) : LnD)) 1 xs.v xs.l.length (Dat.cs xs.l) := fun w O R h => Reads.dat w O R (fun q hq => h q (List.mem_append_right _ (List.mem_append_right _ (List.mem_append_left _ hq))))
      have hr3 : Reads (SA.dat ((xm, xt, xs, xr) : LnD)) 1 xr.v xr.l.length (Dat.cs xr.l) := fun w O R h => Reads.dat w O R (fun q hq => h q (List.mem_append_right _ (List.mem_append_right _ (List.mem_append_right _ hq))))
      refine TC.draws 31 [SA.dat (⟨some ⟨g, off, none⟩, cap, ls⟩ : Sl LnD)] (by kernel_rfl) (by kernel_rfl) (by repeat first | exact holds_nil | refine holds_cons inn ?_) ?_
      refine TA.take 0 rfl rfl rfl rfl (by kernel_rfl) (by kernel_rfl) (by kernel_rfl) rfl (by kernel_rfl) (by kernel_rfl) (fun _ _ _ h => h) (Y.move rfl rfl) ?_
      refine TA.take 1 rfl rfl rfl rfl (by kernel_rfl) (by kernel_rfl) (by kernel_rfl) rfl (by kernel_rfl) (by kernel_rfl) (fun _ _ _ h => h) (Y.move rfl rfl) ?_
      refine TA.take 2 rfl rfl rfl rfl (by kernel_rfl) (by kernel_rfl) (by kernel_rfl) rfl (by kernel_rfl) (by kernel_rfl) (fun _ _ _ h => h) (Y.move rfl rfl) ?_
      refine TA.take 3 rfl rfl rfl rfl (by kernel_rfl) (by kernel_rfl) (by kernel_rfl) rfl (by kernel_rfl) (by kernel_rfl) (fun _ _ _ h => h) (by first | exact Y.indexSlB rfl sl22 rfl rfl (by omega) nqq | exact Y.indexSl rfl sl22 rfl rfl (by omega) nqq) ?_
      refine TA.take 4 rfl rfl rfl rfl (by kernel_rfl) (by kernel_rfl) (by kernel_rfl) rfl (by kernel_rfl) (by kernel_rfl) (fun _ _ _ h => h) (by first | exact Y.fieldAddrJ rfl fo65_0 rfl nqq | exact Y.fieldAddr rfl fo65_0 rfl nqq) ?_
      refine TA.take 5 rfl rfl rfl rfl (by kernel_rfl) (by kernel_rfl) (by kernel_rfl) rfl (by kernel_rfl) (by kernel_rfl) (fun _ _ _ h => h) (Y.load rfl sc9 rfl celD) ?_
      refine TA.as (vS xm) (by rfl) ?_
      refine TA.take 7 rfl rfl rfl rfl (by kernel_rfl) (by kernel_rfl) (by kernel_rfl) rfl (by kernel_rfl) (by kernel_rfl) (fun _ _ _ h => h) (Y.move rfl rfl) ?_
      refine TA.take 8 rfl rfl rfl rfl (by kernel_rfl) (by kernel_rfl) (by kernel_rfl) rfl (by kernel_rfl) (by kernel_rfl) (fun _ _ _ h => h) (Y.move rfl rfl) ?_
      refine TA.take 9 rfl rfl rfl rfl (by kernel_rfl) (by kernel_rfl) (by kernel_rfl) rfl (by kernel_rfl) (by kernel_rfl) (fun _ _ _ h => h) (by first | exact Y.indexSlB rfl sl22 rfl rfl (by omega) nqq | exact Y.indexSl rfl sl22 rfl rfl (by omega) nqq) ?_
      refine TA.take 10 rfl rfl rfl rfl (by kernel_rfl) (by kernel_rfl) (by kernel_rfl) rfl (by kernel_rfl) (by kernel_rfl) (fun _ _ _ h => h) (by first | exact Y.fieldAddrJ rfl fo65_1 rfl nqq | exact Y.fieldAddr rfl fo65_1 rfl nqq) ?_
      refine TA.take 11 rfl rfl rfl rfl (by kernel_rfl) (by kernel_rfl) (by kernel_rfl) rfl (by kernel_rfl) (by kernel_rfl) (fun _ _ _ h => h) (Y.load rfl sc47 rfl celD) ?_
      refine TA.as (xt.v) (by rfl) ?_
      refine TA.take 14 rfl rfl rfl rfl (by kernel_rfl) (by kernel_rfl) (by kernel_rfl) rfl (by kernel_rfl) (by kernel_rfl) (fun _ _ _ h => h) (Y.move rfl rfl) ?_
      refine TA.take 15 rfl rfl rfl rfl (by kernel_rfl) (by kernel_rfl) (by kernel_rfl) rfl (by kernel_rfl) (by kernel_rfl) (fun _ _ _ h => h) (Y.move rfl rfl) ?_
      refine TA.take 16 rfl rfl rfl rfl (by kernel_rfl) (by kernel_rfl) (by kernel_rfl) rfl (by kernel_rfl) (by kernel_rfl) (fun _ _ _ h => h) (by first | exact Y.indexSlB rfl sl22 rfl rfl (by omega) nqq | exact Y.indexSl rfl sl22 rfl rfl (by omega) nqq) ?_
      refine TA.take 17 rfl rfl rfl rfl (by kernel_rfl) (by kernel_rfl) (by kernel_rfl) rfl (by kernel_rfl) (by kernel_rfl) (fun _ _ _ h => h) (by first | exact Y.fieldAddrJ rfl fo65_2 rfl nqq | exact Y.fieldAddr rfl fo65_2 rfl nqq) ?_
      refine TA.take 18 rfl rfl rfl rfl (by kernel_rfl) (by kernel_rfl) (by kernel_rfl) rfl (by kernel_rfl) (by kernel_rfl) (fun _ _ _ h => h) (Y.load rfl sc35 rfl celD) ?_
      refine TA.as (xs.v) (by rfl) ?_
      refine TA.take 21 rfl rfl rfl rfl (by kernel_rfl) (by kernel_rfl) (by kernel_rfl) rfl (by kernel_rfl) (by kernel_rfl) (fun _ _ _ h => h) (Y.move rfl rfl) ?_
      refine TA.take 22 rfl rfl rfl rfl (by kernel_rfl) (by kernel_rfl) (by kernel_rfl) rfl (by kernel_rfl) (by kernel_rfl) (fun _ _ _ h => h) (Y.move rfl rfl) ?_
      refine TA.take 23 rfl rfl rfl rfl (by kernel_rfl) (by kernel_rfl) (by kernel_rfl) rfl (by kernel_rfl) (by kernel_rfl) (fun _ _ _ h => h) (by first | exact Y.indexSlB rfl sl22 rfl rfl (by omega) nqq | exact Y.indexSl rfl sl22 rfl rfl (by omega) nqq) ?_
      refine TA.take 24 rfl rfl rfl rfl (by kernel_rfl) (by kernel_rfl) (by kernel_rfl) rfl (by kernel_rfl) (by kernel_rfl) (fun _ _ _ h => h) (by first | exact Y.fieldAddrJ rfl fo65_3 rfl nqq | exact Y.fieldAddr rfl fo65_3 rfl nqq) ?_
      refine TA.take 25 rfl rfl rfl rfl (by kernel_rfl) (by kernel_rfl) (by kernel_rfl) rfl (by kernel_rfl) (by kernel_rfl) (fun _ _ _ h => h) (Y.load rfl sc48 rfl celD) ?_
      refine TA.as (xr.v) (by rfl) ?_
      refine TA.any (rs := [6, 13, 20]) (by kernel_rfl) (by simp) ?_
      simp only [List.forall_mem_cons, List.not_mem_nil, false_implies, implies_true, and_true]
      refine ⟨?_, ?_, ?_⟩
      · skip
        refine TAo.eff rfl rfl rfl rfl (X.lit rfl el47 rfl rfl rfl (by decide) rfl) ?_
        rintro _ _ ⟨g16, rfl, rfl⟩
        refine ⟨(Or.inr (by repeat first | exact holds_nil | refine holds_cons inn ?_)), ?_⟩
        refine TA.any (rs := [12, 13, 20]) (by kernel_rfl) (by simp) ?_
        simp only [List.forall_mem_cons, List.not_mem_nil, false_implies, implies_true, and_true]
        refine ⟨?_, ?_, ?_⟩
        · skip
          refine TAo.eff rfl rfl rfl rfl (X.appendS rfl el47 rfl pul rfl (Src.reads hr1 Try.underlying47 inn) (by simp only [maxLen]; omega) (by omega)) ?_
          rintro _ _ ⟨a22, c22, rfl, rfl⟩
          simp only [Nat.zero_add, List.nil_append]
          refine ⟨(Or.inr (by repeat first | exact holds_nil | refine holds_cons inn ?_)), ?_⟩
          refine TA.any (rs := [13, 20]) (by kernel_rfl) (by simp) ?_
          simp only [List.forall_mem_cons, List.not_mem_nil, false_implies, implies_true, and_true]
          refine ⟨?_, ?_⟩
          · skip
            refine TAo.eff rfl rfl rfl rfl (X.lit rfl el35 rfl rfl rfl (by decide) rfl) ?_
            rintro _ _ ⟨g23, rfl, rfl⟩
            refine ⟨(Or.inr (by repeat first | exact holds_nil | refine holds_cons inn ?_)), ?_⟩
            refine TA.any (rs := [19, 20]) (by kernel_rfl) (by simp) ?_
            simp only [List.forall_mem_cons, List.not_mem_nil, false_implies, implies_true, and_true]
            refine ⟨?_, ?_⟩
            · skip
              refine TAo.eff rfl rfl rfl rfl (X.appendS rfl el35 rfl pul rfl (Src.reads hr2 Try.underlying35 inn) (by simp only [maxLen]; omega) (by omega)) ?_
              rintro _ _ ⟨a29, c29, rfl, rfl⟩
              simp only [Nat.zero_add, List.nil_append]
              refine ⟨(Or.inr (by repeat first | exact holds_nil | refine holds_cons inn ?_)), ?_⟩
              refine TA.one 20 (by kernel_rfl) rfl rfl rfl rfl (X.lit rfl el48 rfl rfl rfl (by decide) rfl) ?_
              rintro _ _ ⟨g30, rfl, rfl⟩
              refine ⟨(Or.inr (by repeat first | exact holds_nil | refine holds_cons inn ?_)), ?_⟩
              refine TA.one 26 (by kernel_rfl) rfl rfl rfl rfl (X.appendS rfl el48 rfl pul rfl (Src.reads hr3 Try.underlying48 inn) (by simp only [maxLen]; omega) (by omega)) ?_
              rintro _ _ ⟨a36, c36, rfl, rfl⟩
              simp only [Nat.zero_add, List.nil_append]
              refine ⟨(Or.inr (by repeat first | exact holds_nil | refine holds_cons inn ?_)), ?_⟩
              refine TA.to (LNO.mk (mid := xm) (ty := ⟨a22, c22, xt.l⟩) (so := ⟨a29, c29, xs.l⟩) (ri := ⟨a36, c36, xr.l⟩) pul pul pul) ?_
              obtain ⟨y, hy⟩ : ∃ y : LnD, y = (xm, ⟨a22, c22, xt.l⟩, ⟨a29, c29, xs.l⟩, ⟨a36, c36, xr.l⟩) := ⟨_, rfl⟩
              rw [← hy]
              have hly : lp y = lp (xm, xt, xs, xr) := by rw [hy]; rfl
              refine TA.take 27 rfl rfl rfl rfl (by kernel_rfl) (by kernel_rfl) (by kernel_rfl) rfl (by kernel_rfl) (by kernel_rfl) (fun _ _ _ h => h) (Y.buildS rfl rfl pl50 zc50 rfl) ?_
              refine TA.as (.agg (Dat.c y).toArray) (by (rw [hy]; rfl)) ?_
              refine TA.one 28 (by kernel_rfl) rfl rfl rfl rfl (X.litD (sz := 4) y rfl Try.underlying27 (by kernel_rfl) rfl rfl (by decide)) ?_
              rintro _ _ ⟨g38, rfl, rfl⟩
              refine ⟨(Or.inr (by repeat first | exact holds_nil | refine holds_cons inn ?_)), ?_⟩
              refine TA.one 29 (by kernel_rfl) rfl rfl rfl rfl (X.appendS rfl el27 rfl pul rfl (by first | exact Src.owns Try.underlying27 inn | exact Src.rds Try.underlying27 inn | exact Src.reads (by assumption) Try.underlying27 inn) (by simp only [maxLen]; omega) (by omega)) ?_
              rintro _ _ ⟨a39, c39, rfl, rfl⟩
              rw [show Dat.cs m ++ Dat.c y = Dat.cs (m ++ [y]) by rw [Dat.cs_app, Dat.cs_one], show m.length + 1 = (m ++ [y]).length by simp]
              refine ⟨(Or.inr (by repeat first | exact holds_nil | refine holds_cons inn ?_)), ?_⟩
              refine TA.take 30 rfl rfl rfl rfl (by kernel_rfl) (by kernel_rfl) (by kernel_rfl) rfl (by kernel_rfl) (by kernel_rfl) (fun _ _ _ h => h) (Y.assign rfl rfl) ?_
              refine TA.done (by kernel_rfl) ?_
              refine TQ.to (LNS.add (m := m) (y := y) pul pul) ?_
              refine TQ.block_normal ?_
              refine TQ.meetF ((m ++ [y], a39, c39)) (⟨by simp, by (try simp only [List.length_append, List.length_singleton]); exact take_lp hm hx hly⟩) ⟨rfl, trivial⟩ (by (repeat first | apply Grow.refl | apply Grow.step | apply Grow.app)) ?_ ?_
              · kernel_rfl
              · simp only [List.cons_append, List.nil_append]
                exact ett
            · skip
              refine TAo.eff rfl rfl rfl rfl (X.lit rfl el48 rfl rfl rfl (by decide) rfl) ?_
              rintro _ _ ⟨g30, rfl, rfl⟩
              refine ⟨(Or.inr (by repeat first | exact holds_nil | refine holds_cons inn ?_)), ?_⟩
              refine TA.one 19 (by kernel_rfl) rfl rfl rfl rfl (X.appendS rfl el35 rfl pul rfl (Src.reads hr2 Try.underlying35 inn) (by simp only [maxLen]; omega) (by omega)) ?_
              rintro _ _ ⟨a29, c29, rfl, rfl⟩
              simp only [Nat.zero_add, List.nil_append]
              refine ⟨(Or.inr (by repeat first | exact holds_nil | refine holds_cons inn ?_)), ?_⟩
              refine TA.one 26 (by kernel_rfl) rfl rfl rfl rfl (X.appendS rfl el48 rfl pul rfl (Src.reads hr3 Try.underlying48 inn) (by simp only [maxLen]; omega) (by omega)) ?_
              rintro _ _ ⟨a36, c36, rfl, rfl⟩
              simp only [Nat.zero_add, List.nil_append]
              refine ⟨(Or.inr (by repeat first | exact holds_nil | refine holds_cons inn ?_)), ?_⟩
              refine TA.to (LNO.mk (mid := xm) (ty := ⟨a22, c22, xt.l⟩) (so := ⟨a29, c29, xs.l⟩) (ri := ⟨a36, c36, xr.l⟩) pul pul pul) ?_
              obtain ⟨y, hy⟩ : ∃ y : LnD, y = (xm, ⟨a22, c22, xt.l⟩, ⟨a29, c29, xs.l⟩, ⟨a36, c36, xr.l⟩) := ⟨_, rfl⟩
              rw [← hy]
              have hly : lp y = lp (xm, xt, xs, xr) := by rw [hy]; rfl
              refine TA.take 27 rfl rfl rfl rfl (by kernel_rfl) (by kernel_rfl) (by kernel_rfl) rfl (by kernel_rfl) (by kernel_rfl) (fun _ _ _ h => h) (Y.buildS rfl rfl pl50 zc50 rfl) ?_
              refine TA.as (.agg (Dat.c y).toArray) (by (rw [hy]; rfl)) ?_
              refine TA.one 28 (by kernel_rfl) rfl rfl rfl rfl (X.litD (sz := 4) y rfl Try.underlying27 (by kernel_rfl) rfl rfl (by decide)) ?_
              rintro _ _ ⟨g38, rfl, rfl⟩
              refine ⟨(Or.inr (by repeat first | exact holds_nil | refine holds_cons inn ?_)), ?_⟩
              refine TA.one 29 (by kernel_rfl) rfl rfl rfl rfl (X.appendS rfl el27 rfl pul rfl (by first | exact Src.owns Try.underlying27 inn | exact Src.rds Try.underlying27 inn | exact Src.reads (by assumption) Try.underlying27 inn) (by simp only [maxLen]; omega) (by omega)) ?_
              rintro _ _ ⟨a39, c39, rfl, rfl⟩
              rw [show Dat.cs m ++ Dat.c y = Dat.cs (m ++ [y]) by rw [Dat.cs_app, Dat.cs_one], show m.length + 1 = (m ++ [y]).length by simp]
              refine ⟨(Or.inr (by repeat first | exact holds_nil | refine holds_cons inn ?_)), ?_⟩
              refine TA.take 30 rfl rfl rfl rfl (by kernel_rfl) (by kernel_rfl) (by kernel_rfl) rfl (by kernel_rfl) (by kernel_rfl) (fun _ _ _ h => h) (Y.assign rfl rfl) ?_
              refine TA.done (by kernel_rfl) ?_
              refine TQ.to (LNS.add (m := m) (y := y) pul pul) ?_
              refine TQ.block_normal ?_
              refine TQ.meetF ((m ++ [y], a39, c39)) (⟨by simp, by (try simp only [List.length_append, List.length_singleton]); exact take_lp hm hx hly⟩) ⟨rfl, trivial⟩ (by (repeat first | apply Grow.refl | apply Grow.step | apply Grow.app)) ?_ ?_
              · kernel_rfl
              · simp only [List.cons_append, List.nil_append]
                exact ett
          · skip
            refine TAo.eff rfl rfl rfl rfl (X.lit rfl el48 rfl rfl rfl (by decide) rfl) ?_
            rintro _ _ ⟨g30, rfl, rfl⟩
            refine ⟨(Or.inr (by repeat first | exact holds_nil | refine holds_cons inn ?_)), ?_⟩
            refine TA.one 13 (by kernel_rfl) rfl rfl rfl rfl (X.lit rfl el35 rfl rfl rfl (by decide) rfl) ?_
            rintro _ _ ⟨g23, rfl, rfl⟩
            refine ⟨(Or.inr (by repeat first | exact holds_nil | refine holds_cons inn ?_)), ?_⟩
            refine TA.one 19 (by kernel_rfl) rfl rfl rfl rfl (X.appendS rfl el35 rfl pul rfl (Src.reads hr2 Try.underlying35 inn) (by simp only [maxLen]; omega) (by omega)) ?_
            rintro _ _ ⟨a29, c29, rfl, rfl⟩
            simp only [Nat.zero_add, List.nil_append]
            refine ⟨(Or.inr (by repeat first | exact holds_nil | refine holds_cons inn ?_)), ?_⟩
            refine TA.one 26 (by kernel_rfl) rfl rfl rfl rfl (X.appendS rfl el48 rfl pul rfl (Src.reads hr3 Try.underlying48 inn) (by simp only [maxLen]; omega) (by omega)) ?_
            rintro _ _ ⟨a36, c36, rfl, rfl⟩
            simp only [Nat.zero_add, List.nil_append]
            refine ⟨(Or.inr (by repeat first | exact holds_nil | refine holds_cons inn ?_)), ?_⟩
            refine TA.to (LNO.mk (mid := xm) (ty := ⟨a22, c22, xt.l⟩) (so := ⟨a29, c29, xs.l⟩) (ri := ⟨a36, c36, xr.l⟩) pul pul pul) ?_
            obtain ⟨y, hy⟩ : ∃ y : LnD, y = (xm, ⟨a22, c22, xt.l⟩, ⟨a29, c29, xs.l⟩, ⟨a36, c36, xr.l⟩) := ⟨_, rfl⟩
            rw [← hy]
            have hly : lp y = lp (xm, xt, xs, xr) := by rw [hy]; rfl
            refine TA.take 27 rfl rfl rfl rfl (by kernel_rfl) (by kernel_rfl) (by kernel_rfl) rfl (by kernel_rfl) (by kernel_rfl) (fun _ _ _ h => h) (Y.buildS rfl rfl pl50 zc50 rfl) ?_
            refine TA.as (.agg (Dat.c y).toArray) (by (rw [hy]; rfl)) ?_
            refine TA.one 28 (by kernel_rfl) rfl rfl rfl rfl (X.litD (sz := 4) y rfl Try.underlying27 (by kernel_rfl) rfl rfl (by decide)) ?_
            rintro _ _ ⟨g38, rfl, rfl⟩
            refine ⟨(Or.inr (by repeat first | exact holds_nil | refine holds_cons inn ?_)), ?_⟩
            refine TA.one 29 (by kernel_rfl) rfl rfl rfl rfl (X.appendS rfl el27 rfl pul rfl (by first | exact Src.owns Try.underlying27 inn | exact Src.rds Try.underlying27 inn | exact Src.reads (by assumption) Try.underlying27 inn) (by simp only [maxLen]; omega) (by omega)) ?_
            rintro _ _ ⟨a39, c39, rfl, rfl⟩
            rw [show Dat.cs m ++ Dat.c y = Dat.cs (m ++ [y]) by rw [Dat.cs_app, Dat.cs_one], show m.length + 1 = (m ++ [y]).length by simp]
            refine ⟨(Or.inr (by repeat first | exact holds_nil | refine holds_cons inn ?_)), ?_⟩
            refine TA.take 30 rfl rfl rfl rfl (by kernel_rfl) (by kernel_rfl) (by kernel_rfl) rfl (by kernel_rfl) (by kernel_rfl) (fun _ _ _ h => h) (Y.assign rfl rfl) ?_
            refine TA.done (by kernel_rfl) ?_
            refine TQ.to (LNS.add (m := m) (y := y) pul pul) ?_
            refine TQ.block_normal ?_
            refine TQ.meetF ((m ++ [y], a39, c39)) (⟨by simp, by (try simp only [List.length_append, List.length_singleton]); exact take_lp hm hx hly⟩) ⟨rfl, trivial⟩ (by (repeat first | apply Grow.refl | apply Grow.step | apply Grow.app)) ?_ ?_
            · kernel_rfl
            · simp only [List.cons_append, List.nil_append]
              exact ett
        · skip
          refine TAo.eff rfl rfl rfl rfl (X.lit rfl el35 rfl rfl rfl (by decide) rfl) ?_
          rintro _ _ ⟨g23, rfl, rfl⟩
          refine ⟨(Or.inr (by repeat first | exact holds_nil | refine holds_cons inn ?_)), ?_⟩
          refine TA.any (rs := [12, 20]) (by kernel_rfl) (by simp) ?_
          simp only [List.forall_mem_cons, List.not_mem_nil, false_implies, implies_true, and_true]
          refine ⟨?_, ?_⟩
          · skip
            refine TAo.eff rfl rfl rfl rfl (X.appendS rfl el47 rfl pul rfl (Src.reads hr1 Try.underlying47 inn) (by simp only [maxLen]; omega) (by omega)) ?_
            rintro _ _ ⟨a22, c22, rfl, rfl⟩
            simp only [Nat.zero_add, List.nil_append]
            refine ⟨(Or.inr (by repeat first | exact holds_nil | refine holds_cons inn ?_)), ?_⟩
            refine TA.any (rs := [19, 20]) (by kernel_rfl) (by simp) ?_
            simp only [List.forall_mem_cons, List.not_mem_nil, false_implies, implies_true, and_true]
            refine ⟨?_, ?_⟩
            · skip
              refine TAo.eff rfl rfl rfl rfl (X.appendS rfl el35 rfl pul rfl (Src.reads hr2 Try.underlying35 inn) (by simp only [maxLen]; omega) (by omega)) ?_
              rintro _ _ ⟨a29, c29, rfl, rfl⟩
              simp only [Nat.zero_add, List.nil_append]
              refine ⟨(Or.inr (by repeat first | exact holds_nil | refine holds_cons inn ?_)), ?_⟩
              refine TA.one 20 (by kernel_rfl) rfl rfl rfl rfl (X.lit rfl el48 rfl rfl rfl (by decide) rfl) ?_
              rintro _ _ ⟨g30, rfl, rfl⟩
              refine ⟨(Or.inr (by repeat first | exact holds_nil | refine holds_cons inn ?_)), ?_⟩
              refine TA.one 26 (by kernel_rfl) rfl rfl rfl rfl (X.appendS rfl el48 rfl pul rfl (Src.reads hr3 Try.underlying48 inn) (by simp only [maxLen]; omega) (by omega)) ?_
              rintro _ _ ⟨a36, c36, rfl, rfl⟩
              simp only [Nat.zero_add, List.nil_append]
              refine ⟨(Or.inr (by repeat first | exact holds_nil | refine holds_cons inn ?_)), ?_⟩
              refine TA.to (LNO.mk (mid := xm) (ty := ⟨a22, c22, xt.l⟩) (so := ⟨a29, c29, xs.l⟩) (ri := ⟨a36, c36, xr.l⟩) pul pul pul) ?_
              obtain ⟨y, hy⟩ : ∃ y : LnD, y = (xm, ⟨a22, c22, xt.l⟩, ⟨a29, c29, xs.l⟩, ⟨a36, c36, xr.l⟩) := ⟨_, rfl⟩
              rw [← hy]
              have hly : lp y = lp (xm, xt, xs, xr) := by rw [hy]; rfl
              refine TA.take 27 rfl rfl rfl rfl (by kernel_rfl) (by kernel_rfl) (by kernel_rfl) rfl (by kernel_rfl) (by kernel_rfl) (fun _ _ _ h => h) (Y.buildS rfl rfl pl50 zc50 rfl) ?_
              refine TA.as (.agg (Dat.c y).toArray) (by (rw [hy]; rfl)) ?_
              refine TA.one 28 (by kernel_rfl) rfl rfl rfl rfl (X.litD (sz := 4) y rfl Try.underlying27 (by kernel_rfl) rfl rfl (by decide)) ?_
              rintro _ _ ⟨g38, rfl, rfl⟩
              refine ⟨(Or.inr (by repeat first | exact holds_nil | refine holds_cons inn ?_)), ?_⟩
              refine TA.one 29 (by kernel_rfl) rfl rfl rfl rfl (X.appendS rfl el27 rfl pul rfl (by first | exact Src.owns Try.underlying27 inn | exact Src.rds Try.underlying27 inn | exact Src.reads (by assumption) Try.underlying27 inn) (by simp only [maxLen]; omega) (by omega)) ?_
              rintro _ _ ⟨a39, c39, rfl, rfl⟩
              rw [show Dat.cs m ++ Dat.c y = Dat.cs (m ++ [y]) by rw [Dat.cs_app, Dat.cs_one], show m.length + 1 = (m ++ [y]).length by simp]
              refine ⟨(Or.inr (by repeat first | exact holds_nil | refine holds_cons inn ?_)), ?_⟩
              refine TA.take 30 rfl rfl rfl rfl (by kernel_rfl) (by kernel_rfl) (by kernel_rfl) rfl (by kernel_rfl) (by kernel_rfl) (fun _ _ _ h => h) (Y.assign rfl rfl) ?_
              refine TA.done (by kernel_rfl) ?_
              refine TQ.to (LNS.add (m := m) (y := y) pul pul) ?_
              refine TQ.block_normal ?_
              refine TQ.meetF ((m ++ [y], a39, c39)) (⟨by simp, by (try simp only [List.length_append, List.length_singleton]); exact take_lp hm hx hly⟩) ⟨rfl, trivial⟩ (by (repeat first | apply Grow.refl | apply Grow.step | apply Grow.app)) ?_ ?_
              · kernel_rfl
              · simp only [List.cons_append, List.nil_append]
                exact ett
            · skip
              refine TAo.eff rfl rfl rfl rfl (X.lit rfl el48 rfl rfl rfl (by decide) rfl) ?_
              rintro _ _ ⟨g30, rfl, rfl⟩
              refine ⟨(Or.inr (by repeat first | exact holds_nil | refine holds_cons inn ?_)), ?_⟩
              refine TA.one 19 (by kernel_rfl) rfl rfl rfl rfl (X.appendS rfl el35 rfl pul rfl (Src.reads hr2 Try.underlying35 inn) (by simp only [maxLen]; omega) (by omega)) ?_
              rintro _ _ ⟨a29, c29, rfl, rfl⟩
              simp only [Nat.zero_add, List.nil_append]
              refine ⟨(Or.inr (by repeat first | exact holds_nil | refine holds_cons inn ?_)), ?_⟩
              refine TA.one 26 (by kernel_rfl) rfl rfl rfl rfl (X.appendS rfl el48 rfl pul rfl (Src.reads hr3 Try.underlying48 inn) (by simp only [maxLen]; omega) (by omega)) ?_
              rintro _ _ ⟨a36, c36, rfl, rfl⟩
              simp only [Nat.zero_add, List.nil_append]
              refine ⟨(Or.inr (by repeat first | exact holds_nil | refine holds_cons inn ?_)), ?_⟩
              refine TA.to (LNO.mk (mid := xm) (ty := ⟨a22, c22, xt.l⟩) (so := ⟨a29, c29, xs.l⟩) (ri := ⟨a36, c36, xr.l⟩) pul pul pul) ?_
              obtain ⟨y, hy⟩ : ∃ y : LnD, y = (xm, ⟨a22, c22, xt.l⟩, ⟨a29, c29, xs.l⟩, ⟨a36, c36, xr.l⟩) := ⟨_, rfl⟩
              rw [← hy]
              have hly : lp y = lp (xm, xt, xs, xr) := by rw [hy]; rfl
              refine TA.take 27 rfl rfl rfl rfl (by kernel_rfl) (by kernel_rfl) (by kernel_rfl) rfl (by kernel_rfl) (by kernel_rfl) (fun _ _ _ h => h) (Y.buildS rfl rfl pl50 zc50 rfl) ?_
              refine TA.as (.agg (Dat.c y).toArray) (by (rw [hy]; rfl)) ?_
              refine TA.one 28 (by kernel_rfl) rfl rfl rfl rfl (X.litD (sz := 4) y rfl Try.underlying27 (by kernel_rfl) rfl rfl (by decide)) ?_
              rintro _ _ ⟨g38, rfl, rfl⟩
              refine ⟨(Or.inr (by repeat first | exact holds_nil | refine holds_cons inn ?_)), ?_⟩
              refine TA.one 29 (by kernel_rfl) rfl rfl rfl rfl (X.appendS rfl el27 rfl pul rfl (by first | exact Src.owns Try.underlying27 inn | exact Src.rds Try.underlying27 inn | exact Src.reads (by assumption) Try.underlying27 inn) (by simp only [maxLen]; omega) (by omega)) ?_
              rintro _ _ ⟨a39, c39, rfl, rfl⟩
              rw [show Dat.cs m ++ Dat.c y = Dat.cs (m ++ [y]) by rw [Dat.cs_app, Dat.cs_one], show m.length + 1 = (m ++ [y]).length by simp]
              refine ⟨(Or.inr (by repeat first | exact holds_nil | refine holds_cons inn ?_)), ?_⟩
              refine TA.take 30 rfl rfl rfl rfl (by kernel_rfl) (by kernel_rfl) (by kernel_rfl) rfl (by kernel_rfl) (by kernel_rfl) (fun _ _ _ h => h) (Y.assign rfl rfl) ?_
              refine TA.done (by kernel_rfl) ?_
              refine TQ.to (LNS.add (m := m) (y := y) pul pul) ?_
              refine TQ.block_normal ?_
              refine TQ.meetF ((m ++ [y], a39, c39)) (⟨by simp, by (try simp only [List.length_append, List.length_singleton]); exact take_lp hm hx hly⟩) ⟨rfl, trivial⟩ (by (repeat first | apply Grow.refl | apply Grow.step | apply Grow.app)) ?_ ?_
              · kernel_rfl
              · simp only [List.cons_append, List.nil_append]
                exact ett
          · skip
            refine TAo.eff rfl rfl rfl rfl (X.lit rfl el48 rfl rfl rfl (by decide) rfl) ?_
            rintro _ _ ⟨g30, rfl, rfl⟩
            refine ⟨(Or.inr (by repeat first | exact holds_nil | refine holds_cons inn ?_)), ?_⟩
            refine TA.one 12 (by kernel_rfl) rfl rfl rfl rfl (X.appendS rfl el47 rfl pul rfl (Src.reads hr1 Try.underlying47 inn) (by simp only [maxLen]; omega) (by omega)) ?_
            rintro _ _ ⟨a22, c22, rfl, rfl⟩
            simp only [Nat.zero_add, List.nil_append]
            refine ⟨(Or.inr (by repeat first | exact holds_nil | refine holds_cons inn ?_)), ?_⟩
            refine TA.one 19 (by kernel_rfl) rfl rfl rfl rfl (X.appendS rfl el35 rfl pul rfl (Src.reads hr2 Try.underlying35 inn) (by simp only [maxLen]; omega) (by omega)) ?_
            rintro _ _ ⟨a29, c29, rfl, rfl⟩
            simp only [Nat.zero_add, List.nil_append]
            refine ⟨(Or.inr (by repeat first | exact holds_nil | refine holds_cons inn ?_)), ?_⟩
            refine TA.one 26 (by kernel_rfl) rfl rfl rfl rfl (X.appendS rfl el48 rfl pul rfl (Src.reads hr3 Try.underlying48 inn) (by simp only [maxLen]; omega) (by omega)) ?_
            rintro _ _ ⟨a36, c36, rfl, rfl⟩
            simp only [Nat.zero_add, List.nil_append]
            refine ⟨(Or.inr (by repeat first | exact holds_nil | refine holds_cons inn ?_)), ?_⟩
            refine TA.to (LNO.mk (mid := xm) (ty := ⟨a22, c22, xt.l⟩) (so := ⟨a29, c29, xs.l⟩) (ri := ⟨a36, c36, xr.l⟩) pul pul pul) ?_
            obtain ⟨y, hy⟩ : ∃ y : LnD, y = (xm, ⟨a22, c22, xt.l⟩, ⟨a29, c29, xs.l⟩, ⟨a36, c36, xr.l⟩) := ⟨_, rfl⟩
            rw [← hy]
            have hly : lp y = lp (xm, xt, xs, xr) := by rw [hy]; rfl
            refine TA.take 27 rfl rfl rfl rfl (by kernel_rfl) (by kernel_rfl) (by kernel_rfl) rfl (by kernel_rfl) (by kernel_rfl) (fun _ _ _ h => h) (Y.buildS rfl rfl pl50 zc50 rfl) ?_
            refine TA.as (.agg (Dat.c y).toArray) (by (rw [hy]; rfl)) ?_
            refine TA.one 28 (by kernel_rfl) rfl rfl rfl rfl (X.litD (sz := 4) y rfl Try.underlying27 (by kernel_rfl) rfl rfl (by decide)) ?_
            rintro _ _ ⟨g38, rfl, rfl⟩
            refine ⟨(Or.inr (by repeat first | exact holds_nil | refine holds_cons inn ?_)), ?_⟩
            refine TA.one 29 (by kernel_rfl) rfl rfl rfl rfl (X.appendS rfl el27 rfl pul rfl (by first | exact Src.owns Try.underlying27 inn | exact Src.rds Try.underlying27 inn | exact Src.reads (by assumption) Try.underlying27 inn) (by simp only [maxLen]; omega) (by omega)) ?_
            rintro _ _ ⟨a39, c39, rfl, rfl⟩
            rw [show Dat.cs m ++ Dat.c y = Dat.cs (m ++ [y]) by rw [Dat.cs_app, Dat.cs_one], show m.length + 1 = (m ++ [y]).length by simp]
            refine ⟨(Or.inr (by repeat first | exact holds_nil | refine holds_cons inn ?_)), ?_⟩
            refine TA.take 30 rfl rfl rfl rfl (by kernel_rfl) (by kernel_rfl) (by kernel_rfl) rfl (by kernel_rfl) (by kernel_rfl) (fun _ _ _ h => h) (Y.assign rfl rfl) ?_
            refine TA.done (by kernel_rfl) ?_
            refine TQ.to (LNS.add (m := m) (y := y) pul pul) ?_
            refine TQ.block_normal ?_
            refine TQ.meetF ((m ++ [y], a39, c39)) (⟨by simp, by (try simp only [List.length_append, List.length_singleton]); exact take_lp hm hx hly⟩) ⟨rfl, trivial⟩ (by (repeat first | apply Grow.refl | apply Grow.step | apply Grow.app)) ?_ ?_
            · kernel_rfl
            · simp only [List.cons_append, List.nil_append]
              exact ett
        · skip
          refine TAo.eff rfl rfl rfl rfl (X.lit rfl el48 rfl rfl rfl (by decide) rfl) ?_
          rintro _ _ ⟨g30, rfl, rfl⟩
          refine ⟨(Or.inr (by repeat first | exact holds_nil | refine holds_cons inn ?_)), ?_⟩
          refine TA.any (rs := [12, 13]) (by kernel_rfl) (by simp) ?_
          simp only [List.forall_mem_cons, List.not_mem_nil, false_implies, implies_true, and_true]
          refine ⟨?_, ?_⟩
          · skip
            refine TAo.eff rfl rfl rfl rfl (X.appendS rfl el47 rfl pul rfl (Src.reads hr1 Try.underlying47 inn) (by simp only [maxLen]; omega) (by omega)) ?_
            rintro _ _ ⟨a22, c22, rfl, rfl⟩
            simp only [Nat.zero_add, List.nil_append]
            refine ⟨(Or.inr (by repeat first | exact holds_nil | refine holds_cons inn ?_)), ?_⟩
            refine TA.one 13 (by kernel_rfl) rfl rfl rfl rfl (X.lit rfl el35 rfl rfl rfl (by decide) rfl) ?_
            rintro _ _ ⟨g23, rfl, rfl⟩
            refine ⟨(Or.inr (by repeat first | exact holds_nil | refine holds_cons inn ?_)), ?_⟩
            refine TA.one 19 (by kernel_rfl) rfl rfl rfl rfl (X.appendS rfl el35 rfl pul rfl (Src.reads hr2 Try.underlying35 inn) (by simp only [maxLen]; omega) (by omega)) ?_
            rintro _ _ ⟨a29, c29, rfl, rfl⟩
            simp only [Nat.zero_add, List.nil_append]
            refine ⟨(Or.inr (by repeat first | exact holds_nil | refine holds_cons inn ?_)), ?_⟩
            refine TA.one 26 (by kernel_rfl) rfl rfl rfl rfl (X.appendS rfl el48 rfl pul rfl (Src.reads hr3 Try.underlying48 inn) (by simp only [maxLen]; omega) (by omega)) ?_
            rintro _ _ ⟨a36, c36, rfl, rfl⟩
            simp only [Nat.zero_add, List.nil_append]
            refine ⟨(Or.inr (by repeat first | exact holds_nil | refine holds_cons inn ?_)), ?_⟩
            refine TA.to (LNO.mk (mid := xm) (ty := ⟨a22, c22, xt.l⟩) (so := ⟨a29, c29, xs.l⟩) (ri := ⟨a36, c36, xr.l⟩) pul pul pul) ?_
            obtain ⟨y, hy⟩ : ∃ y : LnD, y = (xm, ⟨a22, c22, xt.l⟩, ⟨a29, c29, xs.l⟩, ⟨a36, c36, xr.l⟩) := ⟨_, rfl⟩
            rw [← hy]
            have hly : lp y = lp (xm, xt, xs, xr) := by rw [hy]; rfl
            refine TA.take 27 rfl rfl rfl rfl (by kernel_rfl) (by kernel_rfl) (by kernel_rfl) rfl (by kernel_rfl) (by kernel_rfl) (fun _ _ _ h => h) (Y.buildS rfl rfl pl50 zc50 rfl) ?_
            refine TA.as (.agg (Dat.c y).toArray) (by (rw [hy]; rfl)) ?_
            refine TA.one 28 (by kernel_rfl) rfl rfl rfl rfl (X.litD (sz := 4) y rfl Try.underlying27 (by kernel_rfl) rfl rfl (by decide)) ?_
            rintro _ _ ⟨g38, rfl, rfl⟩
            refine ⟨(Or.inr (by repeat first | exact holds_nil | refine holds_cons inn ?_)), ?_⟩
            refine TA.one 29 (by kernel_rfl) rfl rfl rfl rfl (X.appendS rfl el27 rfl pul rfl (by first | exact Src.owns Try.underlying27 inn | exact Src.rds Try.underlying27 inn | exact Src.reads (by assumption) Try.underlying27 inn) (by simp only [maxLen]; omega) (by omega)) ?_
            rintro _ _ ⟨a39, c39, rfl, rfl⟩
            rw [show Dat.cs m ++ Dat.c y = Dat.cs (m ++ [y]) by rw [Dat.cs_app, Dat.cs_one], show m.length + 1 = (m ++ [y]).length by simp]
            refine ⟨(Or.inr (by repeat first | exact holds_nil | refine holds_cons inn ?_)), ?_⟩
            refine TA.take 30 rfl rfl rfl rfl (by kernel_rfl) (by kernel_rfl) (by kernel_rfl) rfl (by kernel_rfl) (by kernel_rfl) (fun _ _ _ h => h) (Y.assign rfl rfl) ?_
            refine TA.done (by kernel_rfl) ?_
            refine TQ.to (LNS.add (m := m) (y := y) pul pul) ?_
            refine TQ.block_normal ?_
            refine TQ.meetF ((m ++ [y], a39, c39)) (⟨by simp, by (try simp only [List.length_append, List.length_singleton]); exact take_lp hm hx hly⟩) ⟨rfl, trivial⟩ (by (repeat first | apply Grow.refl | apply Grow.step | apply Grow.app)) ?_ ?_
            · kernel_rfl
            · simp only [List.cons_append, List.nil_append]
              exact ett
          · skip
            refine TAo.eff rfl rfl rfl rfl (X.lit rfl el35 rfl rfl rfl (by decide) rfl) ?_
            rintro _ _ ⟨g23, rfl, rfl⟩
            refine ⟨(Or.inr (by repeat first | exact holds_nil | refine holds_cons inn ?_)), ?_⟩
            refine TA.one 12 (by kernel_rfl) rfl rfl rfl rfl (X.appendS rfl el47 rfl pul rfl (Src.reads hr1 Try.underlying47 inn) (by simp only [maxLen]; omega) (by omega)) ?_
            rintro _ _ ⟨a22, c22, rfl, rfl⟩
            simp only [Nat.zero_add, List.nil_append]
            refine ⟨(Or.inr (by repeat first | exact holds_nil | refine holds_cons inn ?_)), ?_⟩
            refine TA.one 19 (by kernel_rfl) rfl rfl rfl rfl (X.appendS rfl el35 rfl pul rfl (Src.reads hr2 Try.underlying35 inn) (by simp only [maxLen]; omega) (by omega)) ?_
            rintro _ _ ⟨a29, c29, rfl, rfl⟩
            simp only [Nat.zero_add, List.nil_append]
            refine ⟨(Or.inr (by repeat first | exact holds_nil | refine holds_cons inn ?_)), ?_⟩
            refine TA.one 26 (by kernel_rfl) rfl rfl rfl rfl (X.appendS rfl el48 rfl pul rfl (Src.reads hr3 Try.underlying48 inn) (by simp only [maxLen]; omega) (by omega)) ?_
            rintro _ _ ⟨a36, c36, rfl, rfl⟩
            simp only [Nat.zero_add, List.nil_append]
            refine ⟨(Or.inr (by repeat first | exact holds_nil | refine holds_cons inn ?_)), ?_⟩
            refine TA.to (LNO.mk (mid := xm) (ty := ⟨a22, c22, xt.l⟩) (so := ⟨a29, c29, xs.l⟩) (ri := ⟨a36, c36, xr.l⟩) pul pul pul) ?_
            obtain ⟨y, hy⟩ : ∃ y : LnD, y = (xm, ⟨a22, c22, xt.l⟩, ⟨a29, c29, xs.l⟩, ⟨a36, c36, xr.l⟩) := ⟨_, rfl⟩
            rw [← hy]
            have hly : lp y = lp (xm, xt, xs, xr) := by rw [hy]; rfl
            refine TA.take 27 rfl rfl rfl rfl (by kernel_rfl) (by kernel_rfl) (by kernel_rfl) rfl (by kernel_rfl) (by kernel_rfl) (fun _ _ _ h => h) (Y.buildS rfl rfl pl50 zc50 rfl) ?_
            refine TA.as (.agg (Dat.c y).toArray) (by (rw [hy]; rfl)) ?_
            refine TA.one 28 (by kernel_rfl) rfl rfl rfl rfl (X.litD (sz := 4) y rfl Try.underlying27 (by kernel_rfl) rfl rfl (by decide)) ?_
            rintro _ _ ⟨g38, rfl, rfl⟩
            refine ⟨(Or.inr (by repeat first | exact holds_nil | refine holds_cons inn ?_)), ?_⟩
            refine TA.one 29 (by kernel_rfl) rfl rfl rfl rfl (X.appendS rfl el27 rfl pul rfl (by first | exact Src.owns Try.underlying27 inn | exact Src.rds Try.underlying27 inn | exact Src.reads (by assumption) Try.underlying27 inn) (by simp only [maxLen]; omega) (by omega)) ?_
            rintro _ _ ⟨a39, c39, rfl, rfl⟩
            rw [show Dat.cs m ++ Dat.c y = Dat.cs (m ++ [y]) by rw [Dat.cs_app, Dat.cs_one], show m.length + 1 = (m ++ [y]).length by simp]
            refine ⟨(Or.inr (by repeat first | exact holds_nil | refine holds_cons inn ?_)), ?_⟩
            refine TA.take 30 rfl rfl rfl rfl (by kernel_rfl) (by kernel_rfl) (by kernel_rfl) rfl (by kernel_rfl) (by kernel_rfl) (fun _ _ _ h => h) (Y.assign rfl rfl) ?_
            refine TA.done (by kernel_rfl) ?_
            refine TQ.to (LNS.add (m := m) (y := y) pul pul) ?_
            refine TQ.block_normal ?_
            refine TQ.meetF ((m ++ [y], a39, c39)) (⟨by simp, by (try simp only [List.length_append, List.length_singleton]); exact take_lp hm hx hly⟩) ⟨rfl, trivial⟩ (by (repeat first | apply Grow.refl | apply Grow.step | apply Grow.app)) ?_ ?_
            · kernel_rfl
            · simp only [List.cons_append, List.nil_append]
              exact ett
      · skip
        refine TAo.eff rfl rfl rfl rfl (X.lit rfl el35 rfl rfl rfl (by decide) rfl) ?_
        rintro _ _ ⟨g23, rfl, rfl⟩
        refine ⟨(Or.inr (by repeat first | exact holds_nil | refine holds_cons inn ?_)), ?_⟩
        refine TA.any (rs := [6, 20]) (by kernel_rfl) (by simp) ?_
        simp only [List.forall_mem_cons, List.not_mem_nil, false_implies, implies_true, and_true]
        refine ⟨?_, ?_⟩
        · skip
          refine TAo.eff rfl rfl rfl rfl (X.lit rfl el47 rfl rfl rfl (by decide) rfl) ?_
          rintro _ _ ⟨g16, rfl, rfl⟩
          refine ⟨(Or.inr (by repeat first | exact holds_nil | refine holds_cons inn ?_)), ?_⟩
          refine TA.any (rs := [12, 20]) (by kernel_rfl) (by simp) ?_
          simp only [List.forall_mem_cons, List.not_mem_nil, false_implies, implies_true, and_true]
          refine ⟨?_, ?_⟩
          · skip
            refine TAo.eff rfl rfl rfl rfl (X.appendS rfl el47 rfl pul rfl (Src.reads hr1 Try.underlying47 inn) (by simp only [maxLen]; omega) (by omega)) ?_
            rintro _ _ ⟨a22, c22, rfl, rfl⟩
            simp only [Nat.zero_add, List.nil_append]
            refine ⟨(Or.inr (by repeat first | exact holds_nil | refine holds_cons inn ?_)), ?_⟩
            refine TA.any (rs := [19, 20]) (by kernel_rfl) (by simp) ?_
            simp only [List.forall_mem_cons, List.not_mem_nil, false_implies, implies_true, and_true]
            refine ⟨?_, ?_⟩
            · skip
              refine TAo.eff rfl rfl rfl rfl (X.appendS rfl el35 rfl pul rfl (Src.reads hr2 Try.underlying35 inn) (by simp only [maxLen]; omega) (by omega)) ?_
              rintro _ _ ⟨a29, c29, rfl, rfl⟩
              simp only [Nat.zero_add, List.nil_append]
              refine ⟨(Or.inr (by repeat first | exact holds_nil | refine holds_cons inn ?_)), ?_⟩
              refine TA.one 20 (by kernel_rfl) rfl rfl rfl rfl (X.lit rfl el48 rfl rfl rfl (by decide) rfl) ?_
              rintro _ _ ⟨g30, rfl, rfl⟩
              refine ⟨(Or.inr (by repeat first | exact holds_nil | refine holds_cons inn ?_)), ?_⟩
              refine TA.one 26 (by kernel_rfl) rfl rfl rfl rfl (X.appendS rfl el48 rfl pul rfl (Src.reads hr3 Try.underlying48 inn) (by simp only [maxLen]; omega) (by omega)) ?_
              rintro _ _ ⟨a36, c36, rfl, rfl⟩
              simp only [Nat.zero_add, List.nil_append]
              refine ⟨(Or.inr (by repeat first | exact holds_nil | refine holds_cons inn ?_)), ?_⟩
              refine TA.to (LNO.mk (mid := xm) (ty := ⟨a22, c22, xt.l⟩) (so := ⟨a29, c29, xs.l⟩) (ri := ⟨a36, c36, xr.l⟩) pul pul pul) ?_
              obtain ⟨y, hy⟩ : ∃ y : LnD, y = (xm, ⟨a22, c22, xt.l⟩, ⟨a29, c29, xs.l⟩, ⟨a36, c36, xr.l⟩) := ⟨_, rfl⟩
              rw [← hy]
              have hly : lp y = lp (xm, xt, xs, xr) := by rw [hy]; rfl
              refine TA.take 27 rfl rfl rfl rfl (by kernel_rfl) (by kernel_rfl) (by kernel_rfl) rfl (by kernel_rfl) (by kernel_rfl) (fun _ _ _ h => h) (Y.buildS rfl rfl pl50 zc50 rfl) ?_
              refine TA.as (.agg (Dat.c y).toArray) (by (rw [hy]; rfl)) ?_
              refine TA.one 28 (by kernel_rfl) rfl rfl rfl rfl (X.litD (sz := 4) y rfl Try.underlying27 (by kernel_rfl) rfl rfl (by decide)) ?_
              rintro _ _ ⟨g38, rfl, rfl⟩
              refine ⟨(Or.inr (by repeat first | exact holds_nil | refine holds_cons inn ?_)), ?_⟩
              refine TA.one 29 (by kernel_rfl) rfl rfl rfl rfl (X.appendS rfl el27 rfl pul rfl (by first | exact Src.owns Try.underlying27 inn | exact Src.rds Try.underlying27 inn | exact Src.reads (by assumption) Try.underlying27 inn) (by simp only [maxLen]; omega) (by omega)) ?_
              rintro _ _ ⟨a39, c39, rfl, rfl⟩
              rw [show Dat.cs m ++ Dat.c y = Dat.cs (m ++ [y]) by rw [Dat.cs_app, Dat.cs_one], show m.length + 1 = (m ++ [y]).length by simp]
              refine ⟨(Or.inr (by repeat first | exact holds_nil | refine holds_cons inn ?_)), ?_⟩
              refine TA.take 30 rfl rfl rfl rfl (by kernel_rfl) (by kernel_rfl) (by kernel_rfl) rfl (by kernel_rfl) (by kernel_rfl) (fun _ _ _ h => h) (Y.assign rfl rfl) ?_
              refine TA.done (by kernel_rfl) ?_
              refine TQ.to (LNS.add (m := m) (y := y) pul pul) ?_
              refine TQ.block_normal ?_
              refine TQ.meetF ((m ++ [y], a39, c39)) (⟨by simp, by (try simp only [List.length_append, List.length_singleton]); exact take_lp hm hx hly⟩) ⟨rfl, trivial⟩ (by (repeat first | apply Grow.refl | apply Grow.step | apply Grow.app)) ?_ ?_
              · kernel_rfl
              · simp only [List.cons_append, List.nil_append]
                exact ett
            · skip
              refine TAo.eff rfl rfl rfl rfl (X.lit rfl el48 rfl rfl rfl (by decide) rfl) ?_
              rintro _ _ ⟨g30, rfl, rfl⟩
              refine ⟨(Or.inr (by repeat first | exact holds_nil | refine holds_cons inn ?_)), ?_⟩
              refine TA.one 19 (by kernel_rfl) rfl rfl rfl rfl (X.appendS rfl el35 rfl pul rfl (Src.reads hr2 Try.underlying35 inn) (by simp only [maxLen]; omega) (by omega)) ?_
              rintro _ _ ⟨a29, c29, rfl, rfl⟩
              simp only [Nat.zero_add, List.nil_append]
              refine ⟨(Or.inr (by repeat first | exact holds_nil | refine holds_cons inn ?_)), ?_⟩
              refine TA.one 26 (by kernel_rfl) rfl rfl rfl rfl (X.appendS rfl el48 rfl pul rfl (Src.reads hr3 Try.underlying48 inn) (by simp only [maxLen]; omega) (by omega)) ?_
              rintro _ _ ⟨a36, c36, rfl, rfl⟩
              simp only [Nat.zero_add, List.nil_append]
              refine ⟨(Or.inr (by repeat first | exact holds_nil | refine holds_cons inn ?_)), ?_⟩
              refine TA.to (LNO.mk (mid := xm) (ty := ⟨a22, c22, xt.l⟩) (so := ⟨a29, c29, xs.l⟩) (ri := ⟨a36, c36, xr.l⟩) pul pul pul) ?_
              obtain ⟨y, hy⟩ : ∃ y : LnD, y = (xm, ⟨a22, c22, xt.l⟩, ⟨a29, c29, xs.l⟩, ⟨a36, c36, xr.l⟩) := ⟨_, rfl⟩
              rw [← hy]
              have hly : lp y = lp (xm, xt, xs, xr) := by rw [hy]; rfl
              refine TA.take 27 rfl rfl rfl rfl (by kernel_rfl) (by kernel_rfl) (by kernel_rfl) rfl (by kernel_rfl) (by kernel_rfl) (fun _ _ _ h => h) (Y.buildS rfl rfl pl50 zc50 rfl) ?_
              refine TA.as (.agg (Dat.c y).toArray) (by (rw [hy]; rfl)) ?_
              refine TA.one 28 (by kernel_rfl) rfl rfl rfl rfl (X.litD (sz := 4) y rfl Try.underlying27 (by kernel_rfl) rfl rfl (by decide)) ?_
              rintro _ _ ⟨g38, rfl, rfl⟩
              refine ⟨(Or.inr (by repeat first | exact holds_nil | refine holds_cons inn ?_)), ?_⟩
              refine TA.one 29 (by kernel_rfl) rfl rfl rfl rfl (X.appendS rfl el27 rfl pul rfl (by first | exact Src.owns Try.underlying27 inn | exact Src.rds Try.underlying27 inn | exact Src.reads (by assumption) Try.underlying27 inn) (by simp only [maxLen]; omega) (by omega)) ?_
              rintro _ _ ⟨a39, c39, rfl, rfl⟩
              rw [show Dat.cs m ++ Dat.c y = Dat.cs (m ++ [y]) by rw [Dat.cs_app, Dat.cs_one], show m.length + 1 = (m ++ [y]).length by simp]
              refine ⟨(Or.inr (by repeat first | exact holds_nil | refine holds_cons inn ?_)), ?_⟩
              refine TA.take 30 rfl rfl rfl rfl (by kernel_rfl) (by kernel_rfl) (by kernel_rfl) rfl (by kernel_rfl) (by kernel_rfl) (fun _ _ _ h => h) (Y.assign rfl rfl) ?_
              refine TA.done (by kernel_rfl) ?_
              refine TQ.to (LNS.add (m := m) (y := y) pul pul) ?_
              refine TQ.block_normal ?_
              refine TQ.meetF ((m ++ [y], a39, c39)) (⟨by simp, by (try simp only [List.length_append, List.length_singleton]); exact take_lp hm hx hly⟩) ⟨rfl, trivial⟩ (by (repeat first | apply Grow.refl | apply Grow.step | apply Grow.app)) ?_ ?_
              · kernel_rfl
              · simp only [List.cons_append, List.nil_append]
                exact ett
          · skip
            refine TAo.eff rfl rfl rfl rfl (X.lit rfl el48 rfl rfl rfl (by decide) rfl) ?_
            rintro _ _ ⟨g30, rfl, rfl⟩
            refine ⟨(Or.inr (by repeat first | exact holds_nil | refine holds_cons inn ?_)), ?_⟩
            refine TA.one 12 (by kernel_rfl) rfl rfl rfl rfl (X.appendS rfl el47 rfl pul rfl (Src.reads hr1 Try.underlying47 inn) (by simp only [maxLen]; omega) (by omega)) ?_
            rintro _ _ ⟨a22, c22, rfl, rfl⟩
            simp only [Nat.zero_add, List.nil_append]
            refine ⟨(Or.inr (by repeat first | exact holds_nil | refine holds_cons inn ?_)), ?_⟩
            refine TA.one 19 (by kernel_rfl) rfl rfl rfl rfl (X.appendS rfl el35 rfl pul rfl (Src.reads hr2 Try.underlying35 inn) (by simp only [maxLen]; omega) (by omega)) ?_
            rintro _ _ ⟨a29, c29, rfl, rfl⟩
            simp only [Nat.zero_add, List.nil_append]
            refine ⟨(Or.inr (by repeat first | exact holds_nil | refine holds_cons inn ?_)), ?_⟩
            refine TA.one 26 (by kernel_rfl) rfl rfl rfl rfl (X.appendS rfl el48 rfl pul rfl (Src.reads hr3 Try.underlying48 inn) (by simp only [maxLen]; omega) (by omega)) ?_
            rintro _ _ ⟨a36, c36, rfl, rfl⟩
            simp only [Nat.zero_add, List.nil_append]
            refine ⟨(Or.inr (by repeat first | exact holds_nil | refine holds_cons inn ?_)), ?_⟩
            refine TA.to (LNO.mk (mid := xm) (ty := ⟨a22, c22, xt.l⟩) (so := ⟨a29, c29, xs.l⟩) (ri := ⟨a36, c36, xr.l⟩) pul pul pul) ?_
            obtain ⟨y, hy⟩ : ∃ y : LnD, y = (xm, ⟨a22, c22, xt.l⟩, ⟨a29, c29, xs.l⟩, ⟨a36, c36, xr.l⟩) := ⟨_, rfl⟩
            rw [← hy]
            have hly : lp y = lp (xm, xt, xs, xr) := by rw [hy]; rfl
            refine TA.take 27 rfl rfl rfl rfl (by kernel_rfl) (by kernel_rfl) (by kernel_rfl) rfl (by kernel_rfl) (by kernel_rfl) (fun _ _ _ h => h) (Y.buildS rfl rfl pl50 zc50 rfl) ?_
            refine TA.as (.agg (Dat.c y).toArray) (by (rw [hy]; rfl)) ?_
            refine TA.one 28 (by kernel_rfl) rfl rfl rfl rfl (X.litD (sz := 4) y rfl Try.underlying27 (by kernel_rfl) rfl rfl (by decide)) ?_
            rintro _ _ ⟨g38, rfl, rfl⟩
            refine ⟨(Or.inr (by repeat first | exact holds_nil | refine holds_cons inn ?_)), ?_⟩
            refine TA.one 29 (by kernel_rfl) rfl rfl rfl rfl (X.appendS rfl el27 rfl pul rfl (by first | exact Src.owns Try.underlying27 inn | exact Src.rds Try.underlying27 inn | exact Src.reads (by assumption) Try.underlying27 inn) (by simp only [maxLen]; omega) (by omega)) ?_
            rintro _ _ ⟨a39, c39, rfl, rfl⟩
            rw [show Dat.cs m ++ Dat.c y = Dat.cs (m ++ [y]) by rw [Dat.cs_app, Dat.cs_one], show m.length + 1 = (m ++ [y]).length by simp]
            refine ⟨(Or.inr (by repeat first | exact holds_nil | refine holds_cons inn ?_)), ?_⟩
            refine TA.take 30 rfl rfl rfl rfl (by kernel_rfl) (by kernel_rfl) (by kernel_rfl) rfl (by kernel_rfl) (by kernel_rfl) (fun _ _ _ h => h) (Y.assign rfl rfl) ?_
            refine TA.done (by kernel_rfl) ?_
            refine TQ.to (LNS.add (m := m) (y := y) pul pul) ?_
            refine TQ.block_normal ?_
            refine TQ.meetF ((m ++ [y], a39, c39)) (⟨by simp, by (try simp only [List.length_append, List.length_singleton]); exact take_lp hm hx hly⟩) ⟨rfl, trivial⟩ (by (repeat first | apply Grow.refl | apply Grow.step | apply Grow.app)) ?_ ?_
            · kernel_rfl
            · simp only [List.cons_append, List.nil_append]
              exact ett
        · skip
          refine TAo.eff rfl rfl rfl rfl (X.lit rfl el48 rfl rfl rfl (by decide) rfl) ?_
          rintro _ _ ⟨g30, rfl, rfl⟩
          refine ⟨(Or.inr (by repeat first | exact holds_nil | refine holds_cons inn ?_)), ?_⟩
          refine TA.one 6 (by kernel_rfl) rfl rfl rfl rfl (X.lit rfl el47 rfl rfl rfl (by decide) rfl) ?_
          rintro _ _ ⟨g16, rfl, rfl⟩
          refine ⟨(Or.inr (by repeat first | exact holds_nil | refine holds_cons inn ?_)), ?_⟩
          refine TA.one 12 (by kernel_rfl) rfl rfl rfl rfl (X.appendS rfl el47 rfl pul rfl (Src.reads hr1 Try.underlying47 inn) (by simp only [maxLen]; omega) (by omega)) ?_
          rintro _ _ ⟨a22, c22, rfl, rfl⟩
          simp only [Nat.zero_add, List.nil_append]
          refine ⟨(Or.inr (by repeat first | exact holds_nil | refine holds_cons inn ?_)), ?_⟩
          refine TA.one 19 (by kernel_rfl) rfl rfl rfl rfl (X.appendS rfl el35 rfl pul rfl (Src.reads hr2 Try.underlying35 inn) (by simp only [maxLen]; omega) (by omega)) ?_
          rintro _ _ ⟨a29, c29, rfl, rfl⟩
          simp only [Nat.zero_add, List.nil_append]
          refine ⟨(Or.inr (by repeat first | exact holds_nil | refine holds_cons inn ?_)), ?_⟩
          refine TA.one 26 (by kernel_rfl) rfl rfl rfl rfl (X.appendS rfl el48 rfl pul rfl (Src.reads hr3 Try.underlying48 inn) (by simp only [maxLen]; omega) (by omega)) ?_
          rintro _ _ ⟨a36, c36, rfl, rfl⟩
          simp only [Nat.zero_add, List.nil_append]
          refine ⟨(Or.inr (by repeat first | exact holds_nil | refine holds_cons inn ?_)), ?_⟩
          refine TA.to (LNO.mk (mid := xm) (ty := ⟨a22, c22, xt.l⟩) (so := ⟨a29, c29, xs.l⟩) (ri := ⟨a36, c36, xr.l⟩) pul pul pul) ?_
          obtain ⟨y, hy⟩ : ∃ y : LnD, y = (xm, ⟨a22, c22, xt.l⟩, ⟨a29, c29, xs.l⟩, ⟨a36, c36, xr.l⟩) := ⟨_, rfl⟩
          rw [← hy]
          have hly : lp y = lp (xm, xt, xs, xr) := by rw [hy]; rfl
          refine TA.take 27 rfl rfl rfl rfl (by kernel_rfl) (by kernel_rfl) (by kernel_rfl) rfl (by kernel_rfl) (by kernel_rfl) (fun _ _ _ h => h) (Y.buildS rfl rfl pl50 zc50 rfl) ?_
          refine TA.as (.agg (Dat.c y).toArray) (by (rw [hy]; rfl)) ?_
          refine TA.one 28 (by kernel_rfl) rfl rfl rfl rfl (X.litD (sz := 4) y rfl Try.underlying27 (by kernel_rfl) rfl rfl (by decide)) ?_
          rintro _ _ ⟨g38, rfl, rfl⟩
          refine ⟨(Or.inr (by repeat first | exact holds_nil | refine holds_cons inn ?_)), ?_⟩
          refine TA.one 29 (by kernel_rfl) rfl rfl rfl rfl (X.appendS rfl el27 rfl pul rfl (by first | exact Src.owns Try.underlying27 inn | exact Src.rds Try.underlying27 inn | exact Src.reads (by assumption) Try.underlying27 inn) (by simp only [maxLen]; omega) (by omega)) ?_
          rintro _ _ ⟨a39, c39, rfl, rfl⟩
          rw [show Dat.cs m ++ Dat.c y = Dat.cs (m ++ [y]) by rw [Dat.cs_app, Dat.cs_one], show m.length + 1 = (m ++ [y]).length by simp]
          refine ⟨(Or.inr (by repeat first | exact holds_nil | refine holds_cons inn ?_)), ?_⟩
          refine TA.take 30 rfl rfl rfl rfl (by kernel_rfl) (by kernel_rfl) (by kernel_rfl) rfl (by kernel_rfl) (by kernel_rfl) (fun _ _ _ h => h) (Y.assign rfl rfl) ?_
          refine TA.done (by kernel_rfl) ?_
          refine TQ.to (LNS.add (m := m) (y := y) pul pul) ?_
          refine TQ.block_normal ?_
          refine TQ.meetF ((m ++ [y], a39, c39)) (⟨by simp, by (try simp only [List.length_append, List.length_singleton]); exact take_lp hm hx hly⟩) ⟨rfl, trivial⟩ (by (repeat first | apply Grow.refl | apply Grow.step | apply Grow.app)) ?_ ?_
          · kernel_rfl
          · simp only [List.cons_append, List.nil_append]
            exact ett
      · skip
        refine TAo.eff rfl rfl rfl rfl (X.lit rfl el48 rfl rfl rfl (by decide) rfl) ?_
        rintro _ _ ⟨g30, rfl, rfl⟩
        refine ⟨(Or.inr (by repeat first | exact holds_nil | refine holds_cons inn ?_)), ?_⟩
        refine TA.any (rs := [6, 13]) (by kernel_rfl) (by simp) ?_
        simp only [List.forall_mem_cons, List.not_mem_nil, false_implies, implies_true, and_true]
        refine ⟨?_, ?_⟩
        · skip
          refine TAo.eff rfl rfl rfl rfl (X.lit rfl el47 rfl rfl rfl (by decide) rfl) ?_
          rintro _ _ ⟨g16, rfl, rfl⟩
          refine ⟨(Or.inr (by repeat first | exact holds_nil | refine holds_cons inn ?_)), ?_⟩
          refine TA.any (rs := [12, 13]) (by kernel_rfl) (by simp) ?_
          simp only [List.forall_mem_cons, List.not_mem_nil, false_implies, implies_true, and_true]
          refine ⟨?_, ?_⟩
          · skip
            refine TAo.eff rfl rfl rfl rfl (X.appendS rfl el47 rfl pul rfl (Src.reads hr1 Try.underlying47 inn) (by simp only [maxLen]; omega) (by omega)) ?_
            rintro _ _ ⟨a22, c22, rfl, rfl⟩
            simp only [Nat.zero_add, List.nil_append]
            refine ⟨(Or.inr (by repeat first | exact holds_nil | refine holds_cons inn ?_)), ?_⟩
            refine TA.one 13 (by kernel_rfl) rfl rfl rfl rfl (X.lit rfl el35 rfl rfl rfl (by decide) rfl) ?_
            rintro _ _ ⟨g23, rfl, rfl⟩
            refine ⟨(Or.inr (by repeat first | exact holds_nil | refine holds_cons inn ?_)), ?_⟩
            refine TA.one 19 (by kernel_rfl) rfl rfl rfl rfl (X.appendS rfl el35 rfl pul rfl (Src.reads hr2 Try.underlying35 inn) (by simp only [maxLen]; omega) (by omega)) ?_
            rintro _ _ ⟨a29, c29, rfl, rfl⟩
            simp only [Nat.zero_add, List.nil_append]
            refine ⟨(Or.inr (by repeat first | exact holds_nil | refine holds_cons inn ?_)), ?_⟩
            refine TA.one 26 (by kernel_rfl) rfl rfl rfl rfl (X.appendS rfl el48 rfl pul rfl (Src.reads hr3 Try.underlying48 inn) (by simp only [maxLen]; omega) (by omega)) ?_
            rintro _ _ ⟨a36, c36, rfl, rfl⟩
            simp only [Nat.zero_add, List.nil_append]
            refine ⟨(Or.inr (by repeat first | exact holds_nil | refine holds_cons inn ?_)), ?_⟩
            refine TA.to (LNO.mk (mid := xm) (ty := ⟨a22, c22, xt.l⟩) (so := ⟨a29, c29, xs.l⟩) (ri := ⟨a36, c36, xr.l⟩) pul pul pul) ?_
            obtain ⟨y, hy⟩ : ∃ y : LnD, y = (xm, ⟨a22, c22, xt.l⟩, ⟨a29, c29, xs.l⟩, ⟨a36, c36, xr.l⟩) := ⟨_, rfl⟩
            rw [← hy]
            have hly : lp y = lp (xm, xt, xs, xr) := by rw [hy]; rfl
            refine TA.take 27 rfl rfl rfl rfl (by kernel_rfl) (by kernel_rfl) (by kernel_rfl) rfl (by kernel_rfl) (by kernel_rfl) (fun _ _ _ h => h) (Y.buildS rfl rfl pl50 zc50 rfl) ?_
            refine TA.as (.agg (Dat.c y).toArray) (by (rw [hy]; rfl)) ?_
            refine TA.one 28 (by kernel_rfl) rfl rfl rfl rfl (X.litD (sz := 4) y rfl Try.underlying27 (by kernel_rfl) rfl rfl (by decide)) ?_
            rintro _ _ ⟨g38, rfl, rfl⟩
            refine ⟨(Or.inr (by repeat first | exact holds_nil | refine holds_cons inn ?_)), ?_⟩
            refine TA.one 29 (by kernel_rfl) rfl rfl rfl rfl (X.appendS rfl el27 rfl pul rfl (by first | exact Src.owns Try.underlying27 inn | exact Src.rds Try.underlying27 inn | exact Src.reads (by assumption) Try.underlying27 inn) (by simp only [maxLen]; omega) (by omega)) ?_
            rintro _ _ ⟨a39, c39, rfl, rfl⟩
            rw [show Dat.cs m ++ Dat.c y = Dat.cs (m ++ [y]) by rw [Dat.cs_app, Dat.cs_one], show m.length + 1 = (m ++ [y]).length by simp]
            refine ⟨(Or.inr (by repeat first | exact holds_nil | refine holds_cons inn ?_)), ?_⟩
            refine TA.take 30 rfl rfl rfl rfl (by kernel_rfl) (by kernel_rfl) (by kernel_rfl) rfl (by kernel_rfl) (by kernel_rfl) (fun _ _ _ h => h) (Y.assign rfl rfl) ?_
            refine TA.done (by kernel_rfl) ?_
            refine TQ.to (LNS.add (m := m) (y := y) pul pul) ?_
            refine TQ.block_normal ?_
            refine TQ.meetF ((m ++ [y], a39, c39)) (⟨by simp, by (try simp only [List.length_append, List.length_singleton]); exact take_lp hm hx hly⟩) ⟨rfl, trivial⟩ (by (repeat first | apply Grow.refl | apply Grow.step | apply Grow.app)) ?_ ?_
            · kernel_rfl
            · simp only [List.cons_append, List.nil_append]
              exact ett
          · skip
            refine TAo.eff rfl rfl rfl rfl (X.lit rfl el35 rfl rfl rfl (by decide) rfl) ?_
            rintro _ _ ⟨g23, rfl, rfl⟩
            refine ⟨(Or.inr (by repeat first | exact holds_nil | refine holds_cons inn ?_)), ?_⟩
            refine TA.one 12 (by kernel_rfl) rfl rfl rfl rfl (X.appendS rfl el47 rfl pul rfl (Src.reads hr1 Try.underlying47 inn) (by simp only [maxLen]; omega) (by omega)) ?_
            rintro _ _ ⟨a22, c22, rfl, rfl⟩
            simp only [Nat.zero_add, List.nil_append]
            refine ⟨(Or.inr (by repeat first | exact holds_nil | refine holds_cons inn ?_)), ?_⟩
            refine TA.one 19 (by kernel_rfl) rfl rfl rfl rfl (X.appendS rfl el35 rfl pul rfl (Src.reads hr2 Try.underlying35 inn) (by simp only [maxLen]; omega) (by omega)) ?_
            rintro _ _ ⟨a29, c29, rfl, rfl⟩
            simp only [Nat.zero_add, List.nil_append]
            refine ⟨(Or.inr (by repeat first | exact holds_nil | refine holds_cons inn ?_)), ?_⟩
            refine TA.one 26 (by kernel_rfl) rfl rfl rfl rfl (X.appendS rfl el48 rfl pul rfl (Src.reads hr3 Try.underlying48 inn) (by simp only [maxLen]; omega) (by omega)) ?_
            rintro _ _ ⟨a36, c36, rfl, rfl⟩
            simp only [Nat.zero_add, List.nil_append]
            refine ⟨(Or.inr (by repeat first | exact holds_nil | refine holds_cons inn ?_)), ?_⟩
            refine TA.to (LNO.mk (mid := xm) (ty := ⟨a22, c22, xt.l⟩) (so := ⟨a29, c29, xs.l⟩) (ri := ⟨a36, c36, xr.l⟩) pul pul pul) ?_
            obtain ⟨y, hy⟩ : ∃ y : LnD, y = (xm, ⟨a22, c22, xt.l⟩, ⟨a29, c29, xs.l⟩, ⟨a36, c36, xr.l⟩) := ⟨_, rfl⟩
            rw [← hy]
            have hly : lp y = lp (xm, xt, xs, xr) := by rw [hy]; rfl
            refine TA.take 27 rfl rfl rfl rfl (by kernel_rfl) (by kernel_rfl) (by kernel_rfl) rfl (by kernel_rfl) (by kernel_rfl) (fun _ _ _ h => h) (Y.buildS rfl rfl pl50 zc50 rfl) ?_
            refine TA.as (.agg (Dat.c y).toArray) (by (rw [hy]; rfl)) ?_
            refine TA.one 28 (by kernel_rfl) rfl rfl rfl rfl (X.litD (sz := 4) y rfl Try.underlying27 (by kernel_rfl) rfl rfl (by decide)) ?_
            rintro _ _ ⟨g38, rfl, rfl⟩
            refine ⟨(Or.inr (by repeat first | exact holds_nil | refine holds_cons inn ?_)), ?_⟩
            refine TA.one 29 (by kernel_rfl) rfl rfl rfl rfl (X.appendS rfl el27 rfl pul rfl (by first | exact Src.owns Try.underlying27 inn | exact Src.rds Try.underlying27 inn | exact Src.reads (by assumption) Try.underlying27 inn) (by simp only [maxLen]; omega) (by omega)) ?_
            rintro _ _ ⟨a39, c39, rfl, rfl⟩
            rw [show Dat.cs m ++ Dat.c y = Dat.cs (m ++ [y]) by rw [Dat.cs_app, Dat.cs_one], show m.length + 1 = (m ++ [y]).length by simp]
            refine ⟨(Or.inr (by repeat first | exact holds_nil | refine holds_cons inn ?_)), ?_⟩
            refine TA.take 30 rfl rfl rfl rfl (by kernel_rfl) (by kernel_rfl) (by kernel_rfl) rfl (by kernel_rfl) (by kernel_rfl) (fun _ _ _ h => h) (Y.assign rfl rfl) ?_
            refine TA.done (by kernel_rfl) ?_
            refine TQ.to (LNS.add (m := m) (y := y) pul pul) ?_
            refine TQ.block_normal ?_
            refine TQ.meetF ((m ++ [y], a39, c39)) (⟨by simp, by (try simp only [List.length_append, List.length_singleton]); exact take_lp hm hx hly⟩) ⟨rfl, trivial⟩ (by (repeat first | apply Grow.refl | apply Grow.step | apply Grow.app)) ?_ ?_
            · kernel_rfl
            · simp only [List.cons_append, List.nil_append]
              exact ett
        · skip
          refine TAo.eff rfl rfl rfl rfl (X.lit rfl el35 rfl rfl rfl (by decide) rfl) ?_
          rintro _ _ ⟨g23, rfl, rfl⟩
          refine ⟨(Or.inr (by repeat first | exact holds_nil | refine holds_cons inn ?_)), ?_⟩
          refine TA.one 6 (by kernel_rfl) rfl rfl rfl rfl (X.lit rfl el47 rfl rfl rfl (by decide) rfl) ?_
          rintro _ _ ⟨g16, rfl, rfl⟩
          refine ⟨(Or.inr (by repeat first | exact holds_nil | refine holds_cons inn ?_)), ?_⟩
          refine TA.one 12 (by kernel_rfl) rfl rfl rfl rfl (X.appendS rfl el47 rfl pul rfl (Src.reads hr1 Try.underlying47 inn) (by simp only [maxLen]; omega) (by omega)) ?_
          rintro _ _ ⟨a22, c22, rfl, rfl⟩
          simp only [Nat.zero_add, List.nil_append]
          refine ⟨(Or.inr (by repeat first | exact holds_nil | refine holds_cons inn ?_)), ?_⟩
          refine TA.one 19 (by kernel_rfl) rfl rfl rfl rfl (X.appendS rfl el35 rfl pul rfl (Src.reads hr2 Try.underlying35 inn) (by simp only [maxLen]; omega) (by omega)) ?_
          rintro _ _ ⟨a29, c29, rfl, rfl⟩
          simp only [Nat.zero_add, List.nil_append]
          refine ⟨(Or.inr (by repeat first | exact holds_nil | refine holds_cons inn ?_)), ?_⟩
          refine TA.one 26 (by kernel_rfl) rfl rfl rfl rfl (X.appendS rfl el48 rfl pul rfl (Src.reads hr3 Try.underlying48 inn) (by simp only [maxLen]; omega) (by omega)) ?_
          rintro _ _ ⟨a36, c36, rfl, rfl⟩
          simp only [Nat.zero_add, List.nil_append]
          refine ⟨(Or.inr (by repeat first | exact holds_nil | refine holds_cons inn ?_)), ?_⟩
          refine TA.to (LNO.mk (mid := xm) (ty := ⟨a22, c22, xt.l⟩) (so := ⟨a29, c29, xs.l⟩) (ri := ⟨a36, c36, xr.l⟩) pul pul pul) ?_
          obtain ⟨y, hy⟩ : ∃ y : LnD, y = (xm, ⟨a22, c22, xt.l⟩, ⟨a29, c29, xs.l⟩, ⟨a36, c36, xr.l⟩) := ⟨_, rfl⟩
          rw [← hy]
          have hly : lp y = lp (xm, xt, xs, xr) := by rw [hy]; rfl
          refine TA.take 27 rfl rfl rfl rfl (by kernel_rfl) (by kernel_rfl) (by kernel_rfl) rfl (by kernel_rfl) (by kernel_rfl) (fun _ _ _ h => h) (Y.buildS rfl rfl pl50 zc50 rfl) ?_
          refine TA.as (.agg (Dat.c y).toArray) (by (rw [hy]; rfl)) ?_
          refine TA.one 28 (by kernel_rfl) rfl rfl rfl rfl (X.litD (sz := 4) y rfl Try.underlying27 (by kernel_rfl) rfl rfl (by decide)) ?_
          rintro _ _ ⟨g38, rfl, rfl⟩
          refine ⟨(Or.inr (by repeat first | exact holds_nil | refine holds_cons inn ?_)), ?_⟩
          refine TA.one 29 (by kernel_rfl) rfl rfl rfl rfl (X.appendS rfl el27 rfl pul rfl (by first | exact Src.owns Try.underlying27 inn | exact Src.rds Try.underlying27 inn | exact Src.reads (by assumption) Try.underlying27 inn) (by simp only [maxLen]; omega) (by omega)) ?_
          rintro _ _ ⟨a39, c39, rfl, rfl⟩
          rw [show Dat.cs m ++ Dat.c y = Dat.cs (m ++ [y]) by rw [Dat.cs_app, Dat.cs_one], show m.length + 1 = (m ++ [y]).length by simp]
          refine ⟨(Or.inr (by repeat first | exact holds_nil | refine holds_cons inn ?_)), ?_⟩
          refine TA.take 30 rfl rfl rfl rfl (by kernel_rfl) (by kernel_rfl) (by kernel_rfl) rfl (by kernel_rfl) (by kernel_rfl) (fun _ _ _ h => h) (Y.assign rfl rfl) ?_
          refine TA.done (by kernel_rfl) ?_
          refine TQ.to (LNS.add (m := m) (y := y) pul pul) ?_
          refine TQ.block_normal ?_
          refine TQ.meetF ((m ++ [y], a39, c39)) (⟨by simp, by (try simp only [List.length_append, List.length_singleton]); exact take_lp hm hx hly⟩) ⟨rfl, trivial⟩ (by (repeat first | apply Grow.refl | apply Grow.step | apply Grow.app)) ?_ ?_
          · kernel_rfl
          · simp only [List.cons_append, List.nil_append]
            exact ett
    · rintro ⟨m', ma', mc'⟩ ⟨hml', hm'⟩ F' L' rfl hL'
      simp only [List.cons_append, List.nil_append] at hL'
      subst hL'
      simp only at hml' hm' ⊢
      refine TC.region ?_
      refine TL.val rfl rfl rfl (Y.bin rfl rfl rfl (br_addN (n := 1) (by omega))) ?_
      refine TL.val rfl rfl rfl (Y.move rfl rfl) ?_
      refine TL.nil ?_
      refine TQ.loopF ((m', ma', mc')) (⟨by simp only; omega, by simp only; rw [hml']; exact hm'⟩) (by simp only; omega) ⟨by simp only; rw [hml']; rfl, rfl, trivial⟩ (by (repeat first | apply Grow.refl | apply Grow.step | apply Grow.app)) ?_ ?_ ?_
      · kernel_rfl
      · rfl
      · simp only [List.cons_append, List.nil_append]
        exact ett
  · try simp only [decide_eq_true_eq, decide_eq_false_iff_not, Bool.not_eq_true', Bool.not_eq_false', Bool.and_eq_true, Bool.or_eq_true, Nat.not_lt, Nat.not_le, beq_iff_eq, bne_iff_ne] at c0
    have hml : m.length = ls.length := by omega
    rw [hml, List.take_length] at hm
    refine TC.exit ?_
    refine TQ.then_exit ?_
    refine TQ.then_exit ?_
    refine TQ.block_exit ?_
    refine TQ.next ?_
    refine TC.seq ?_
    refine TC.region ?_
    refine TL.val rfl rfl rfl (Y.move rfl rfl) ?_
    refine TL.val rfl rfl rfl (Y.assign rfl rfl) ?_
    refine TL.nil ?_
    refine TQ.next ?_
    refine TC.ret ?_
    refine TQ.retE (res1 rfl rfl) (⟨ma, mc, m, rfl, hm, rfl⟩) ?_
    exact ett
end dm
end Go.Proofs.Ytmdahgmlccmdoaa
