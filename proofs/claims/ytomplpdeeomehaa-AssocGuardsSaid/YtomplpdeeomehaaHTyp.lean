/- The logic's rules for arrays of one kind, slices, literals. No program is named. -/
import Derived.Test.YtomplpdeeomehaaHNum
namespace Go.Proofs.Ytomplpdeeomehaa
set_option linter.unusedVariables false
set_option linter.unusedSimpArgs false
open Go.RowKit

theorem getM {α : Type} {f : α → Value} {l : List α} {d : α} {i : Nat} (h : i < l.length) : (l.map f).toArray[i]? = some (f (l.getD i d)) := by
  simp [h, List.getD_eq_getElem?_getD]
theorem getML {α : Type} {f : α → Value} {l : List α} {d : α} {i : Nat} (h : i < l.length) : (l.map f)[i]? = some (f (l.getD i d)) := by
  simp [h, List.getD_eq_getElem?_getD]
theorem setM {α : Type} {f : α → Value} {l : List α} {i : Nat} {x : α} : (l.map f).toArray.setIfInBounds i (f x) = ((l.set i x).map f).toArray := by
  simp [List.map_set]
theorem setML {α : Type} {f : α → Value} {l : List α} {i : Nat} {x : α} : (l.map f).set i (f x) = (l.set i x).map f := by
  simp [List.map_set]
theorem writeAt_list (vs : List Value) : ∀ (o : Nat) (l : List Value), o + vs.length ≤ l.length → writeAt l.toArray o vs = (l.take o ++ vs ++ l.drop (o + vs.length)).toArray := by
  intro o l h
  apply Array.ext_getElem?
  intro i
  rw [writeAt_get vs l.toArray o i (by simpa using h)]
  simp only [List.getElem?_toArray, List.getElem?_append, List.length_take, List.length_append, List.getElem?_take, List.getElem?_drop]
  by_cases h1 : i < o
  · rw [if_neg (by omega), if_pos (by omega), if_pos (by omega), if_pos h1]
  · by_cases h2 : i < o + vs.length
    · rw [if_pos (by omega), if_pos (by omega), if_neg (by omega)]; congr 1; omega
    · rw [if_neg (by omega), if_neg (by omega)]; congr 1; omega
theorem writeM {α : Type} {f : α → Value} {l xs : List α} {o : Nat} (h : o + xs.length ≤ l.length) : writeAt (l.map f).toArray o (xs.map f).toArray.toList = ((l.take o ++ xs ++ l.drop (o + xs.length)).map f).toArray := by
  simp only [List.toList_toArray]
  rw [writeAt_list _ _ _ (by simpa using h)]
  simp
theorem one8 {l : List UInt8} : ∀ v ∈ (l.map v8), v.oneCell' = true := by simp [Value.oneCell']
theorem one32 {l : List UInt32} : ∀ v ∈ (l.map v32), v.oneCell' = true := by simp [Value.oneCell']
theorem Cels.rows {α : Type} {f : α → Value} {As : List SA} {b k t n : Nat} {l : List α} (h : In (SA.blk b (l.map f).toArray t) As) : Cels As ⟨b, k, none⟩ (((l.drop k).take n).map f) := Cels.blk h fun j u hj => by
  rw [List.getElem?_toArray]
  rw [List.getElem?_map] at hj ⊢
  rw [List.getElem?_take] at hj
  split at hj
  · rw [List.getElem?_drop] at hj; exact hj
  · cases hj

section
variable {κ : Ctx} {P : Program} {N : Nat} {F : FE} {As L L0 : List SA} {o : Oper} {x y i c : Operand} {v u : Value} {ops : Array Oper} {rest : List Oper} {Q : Exit → Act → World → Prop}
/-- split at the head's truth -/
theorem TL.case {d : Nat} {b : Bool} (h1 : b = true → TL κ P N ops rest ((d, some (.bool true)) :: F) L Q) (h2 : b = false → TL κ P N ops rest ((d, some (.bool false)) :: F) L Q) : TL κ P N ops rest ((d, some (.bool b)) :: F) L Q := by
  cases b
  · exact h2 rfl
  · exact h1 rfl
theorem TA.case {last d : Nat} {b : Bool} {fuel : Nat} {listed : Array Bool} (h1 : b = true → TA κ P N ops last As fuel listed ((d, some (.bool true)) :: F) L Q) (h2 : b = false → TA κ P N ops last As fuel listed ((d, some (.bool false)) :: F) L Q) : TA κ P N ops last As fuel listed ((d, some (.bool b)) :: F) L Q := by
  cases b
  · exact h2 rfl
  · exact h1 rfl

/-- a struct's places -/
def Program.places (P : Program) (t : TypeId) : Option (List (Nat × Nat)) := match P.underlying t with
  | some (.struct fs) => fs.toList.mapM fun f => (P.info? f.type).map fun i => (f.offset, i.size)
  | _ => none
theorem run_mapM_places (w : World) : ∀ (fs : List Field) (pl : List (Nat × Nat)), fs.mapM (fun f => (P.info? f.type).map fun i => (f.offset, i.size)) = some pl →
    (fs.mapM fun (f : Field) => do pure (f.offset, ← sizeOf f.type)).run P w = .ok pl w := by
  intro fs
  induction fs with
  | nil => intro pl h; simp at h; subst h; simp [go_sem]
  | cons f r ih =>
    intro pl h
    simp only [List.mapM_cons, Option.bind_eq_bind, Option.bind_eq_some_iff, Option.pure_def, Option.some.injEq] at h
    obtain ⟨p, h1, ps, h2, rfl⟩ := h
    obtain ⟨inf, h3, rfl⟩ := Option.map_eq_some_iff.1 h1
    have := ih ps h2
    have e1 : ((do pure (f.offset, ← sizeOf f.type)) : Sem (Nat × Nat)).run P w = .ok (f.offset, inf.size) w := by simp [sizeOf, typeInfo, h3, go_sem]
    rw [List.mapM_cons, Sem.run_bind, e1, Result.andThen_ok, Sem.run_bind, this, Result.andThen_ok]
    rfl
theorem zeroC_run {t : TypeId} {z : Array Value} (hz : Program.zeroC P t = some z) : ∃ zv, zv.cells = z ∧ ∀ w, (zeroValue t).run P w = .ok zv w := by
  unfold Program.zeroC at hz
  obtain ⟨zv, h3, h4⟩ := Option.map_eq_some_iff.1 hz
  obtain ⟨inf2, h5, h6⟩ := Option.bind_eq_some_iff.1 h3
  exact ⟨zv, h4, fun w => by simp [zeroValue, typeInfo, h5, h6, go_sem]⟩
theorem Y.buildA {t n e sz : Nat} {parts : List (Nat × Operand)} {vs : List Value} {z cells : Array Value} (ho : o.op = .build t parts.toArray) (hp : evA F (parts.map (·.2)) = some vs) (hu : P.underlying t = some (.array n e)) (hi : (P.info? e).map (·.size) = some sz) (hz : Program.zeroC P t = some z)
    (hf : Instr.fill (fun i => some (i * sz, sz)) z ((parts.map (·.1)).zip vs) = some cells) : Yld P N o F As (.agg cells) := Y.build ho hp fun w => by
  obtain ⟨inf, h1, h2⟩ := Option.map_eq_some_iff.1 hi
  obtain ⟨zv, h3, h4⟩ := zeroC_run hz
  unfold Instr.build
  subst h2
  simp only [Sem.run_bind, h4, Result.andThen_ok, h3, run_underlying hu, sizeOf, typeInfo, List.toList_toArray, h1, Sem.run_pure]
  simp [h1, hf, go_sem]
theorem fill_range (vs : List Value) : ∀ (k : Nat) (cells : Array Value), (∀ v ∈ vs, v.oneCell' = true) → k + vs.length ≤ cells.size → Instr.fill (fun i => some (i * 1, 1)) cells ((List.range' k vs.length).zip vs) = some (writeAt cells k vs) := by
  induction vs with
  | nil => intro k cells _ _; rfl
  | cons v r ih =>
    intro k cells h1 hk
    have hv := cells_one (h1 v (by simp))
    have hs : v.cells.size = 1 := by rw [← Array.length_toList, hv]; rfl
    have hva : v.cells = #[v] := by rw [← Array.toList_inj, hv]
    simp only [List.length_cons] at hk ⊢
    rw [List.range'_succ, List.zip_cons_cons, Instr.fill]
    simp only [Nat.mul_one, hva]
    have hc : ¬ (k + 1 > cells.size) := by omega
    have := ih (k + 1) (cells.setIfInBounds k v) (fun u hu => h1 u (by simp [hu])) (by simp; omega)
    simp only [Nat.mul_one] at this
    simp [hc, this, writeAt]
theorem writeAt_all (vs : List Value) (cells : Array Value) (h : cells.size = vs.length) : writeAt cells 0 vs = vs.toArray := by
  apply Array.ext_getElem?
  intro i
  rw [writeAt_get vs cells 0 i (by omega)]
  by_cases hi : i < vs.length
  · simp [hi]
  · rw [if_neg (by omega), Array.getElem?_eq_none (by omega), List.getElem?_toArray, List.getElem?_eq_none (by omega)]
theorem fill_all {vs : List Value} {z : Array Value} (h1 : ∀ v ∈ vs, v.oneCell' = true) (hz : z.size = vs.length) : Instr.fill (fun i => some (i * 1, 1)) z ((List.range' 0 vs.length).zip vs) = some vs.toArray := by
  rw [fill_range vs 0 z h1 (by omega), writeAt_all vs z hz]
/-- an array literal of one-cell elements, all given -/
theorem Y.buildM {t n e m : Nat} {parts : List (Nat × Operand)} {vs : List Value} {z : Array Value} (ho : o.op = .build t parts.toArray) (hp : evA F (parts.map (·.2)) = some vs) (hu : P.underlying t = some (.array n e)) (hi : (P.info? e).map (·.size) = some 1) (hz : Program.zeroC P t = some z)
    (hpi : parts.map (·.1) = List.range' 0 m) (hm : vs.length = m) (hzs : z.size = m) (h1 : vs.all (·.oneCell') = true) : Yld P N o F As (.agg vs.toArray) := by
  subst hm
  exact Y.buildA ho hp hu hi hz (by rw [hpi]; exact fill_all (List.all_eq_true.1 h1) hzs)
theorem Y.buildS {t : Nat} {parts : List (Nat × Operand)} {vs : List Value} {z cells : Array Value} {pl : List (Nat × Nat)} (ho : o.op = .build t parts.toArray) (hp : evA F (parts.map (·.2)) = some vs) (hpl : Program.places P t = some pl) (hz : Program.zeroC P t = some z)
    (hf : Instr.fill (fun i => pl[i]?) z ((parts.map (·.1)).zip vs) = some cells) : Yld P N o F As (.agg cells) := Y.build ho hp fun w => by
  obtain ⟨zv, h3, h4⟩ := zeroC_run hz
  unfold Program.places at hpl
  split at hpl
  · rename_i fs hu
    have hm := run_mapM_places (P := P) w fs.toList pl hpl
    unfold Instr.build
    simp only [Sem.run_bind, h4, Result.andThen_ok, h3, run_underlying hu, List.toList_toArray]
    have e : (fs.mapM fun (f : Field) => (do pure (f.offset, ← sizeOf f.type) : Sem (Nat × Nat))) = List.toArray <$> (fs.toList.mapM fun (f : Field) => (do pure (f.offset, ← sizeOf f.type) : Sem (Nat × Nat))) := by
      rw [Array.mapM_eq_mapM_toList]
    rw [e]
    have e2 : (List.toArray <$> (fs.toList.mapM fun (f : Field) => (do pure (f.offset, ← sizeOf f.type) : Sem (Nat × Nat)))).run P w = .ok pl.toArray w := by
      simp only [map_eq_pure_bind, Sem.run_bind, hm, Result.andThen_ok, Sem.run_pure]
    rw [e2]
    simp [hf, go_sem]
  · cases hpl
/-- a slice literal of one-cell elements, all given -/
theorem X.lit {t e bytes n : Nat} {z : Value} {parts : List (Nat × Operand)} {vs : List Value} (ho : o.op = .buildSlice t n parts.toArray) (E : Elt P t e 1 bytes z) (hp : evA F (parts.map (·.2)) = some vs) (hi : parts.map (·.1) = List.range' 0 vs.length) (hlen : vs.length = n) (hn : n ≤ 16777216) (h1 : vs.all (·.oneCell') = true) :
    Eff P N o F L (fun v L' => ∃ g, v = .slice (some ⟨g, 0, none⟩) n n ∧ L' = SA.owns e 1 (.slice (some ⟨g, 0, none⟩) n n) n vs :: L) := by
  have h1' : ∀ v ∈ vs, v.oneCell' = true := List.all_eq_true.1 h1
  obtain ⟨inf, hi2, hz0, hsz, rfl⟩ := info_parts E.hi
  have := X.buildSlice (L := L) (e := e) (sz := 1) (cells := vs.toArray) ho hp (N := N) (P := P) (fun w => ?_) (by simp [hlen]) (by simpa using h1') (by simp only [maxLen]; omega)
  · simpa using this
  · rw [hi]
    have hc : ¬ (n * 1 > 2 ^ 24) := by omega
    unfold Instr.buildSlice
    simp only [Sem.run_bind, run_underlying E.ht, Result.andThen_ok, sizeOf, typeInfo, List.toList_toArray]
    simp only [Sem.run_bind, run_program, Result.andThen_ok, hi2, Sem.run_pure, hsz]
    have hfill : ∀ zz : Array Value, Instr.fill (fun i => some (i * 1, 1)) (Array.map (fun x => zz[x % zz.size]!) (Array.range (n * 1))) ((List.range' 0 vs.length).zip vs) = some vs.toArray := fun zz => by
      rw [fill_range vs 0 _ h1' (by simp; omega), writeAt_all _ _ (by simp; omega)]
    have hzr : (zeroValue e).run P w = .ok z w := by simp [zeroValue, typeInfo, hi2, hz0, go_sem]
    have htail : ∀ zz : Array Value, Sem.run P (match Instr.fill (fun i => some (i * 1, 1)) (Array.map (fun x => zz[x % zz.size]!) (Array.range (n * 1))) ((List.range' 0 vs.length).zip vs) with
        | some cells => do
          let r ← newRow e cells
          pure (Value.slice (some r) n n)
        | x => stuck "buildSlice: a part of the wrong size") w = Result.ok (Value.slice (some { block := w.heap.size, off := 0 }) n n) (w.alloc (Obj.cells vs.toArray e)) := fun zz => by
      rw [hfill]
      rfl
    rw [if_neg hc]
    by_cases h0 : n * 1 = 0
    · rw [if_pos h0]
      exact htail #[]
    · rw [if_neg h0, Sem.run_bind, hzr, Result.andThen_ok]
      exact htail z.cells
theorem results_cell1 {fn : Func} {p : Tmp} {ty : TypeId} (h : fn.results = #[.cell p ty]) (tmps : Array Value) (P : Program) (w : World) :
    (results fn tmps).run P w = ((asAddr (tmps.getD p undef)).run P w).andThen fun a w₁ => (loadVar ty a).run P w₁ := by
  simp only [results, h]
  simp [Sem.run_bind, Result.andThen]
theorem resC {fn : Func} {t T b k m : Nat} {l : List Value} (h : fn.results = #[.cell t T]) (hs : Program.aggN P T = some m) (hv : fget F t = some (.pointer (some ⟨b, k, none⟩))) (hc : Cels L ⟨b, k, none⟩ l) (hm : l.length = m) : ∀ a w, Env N F a → Holds L w → (results fn a.tmps).run P w = .ok (.agg l.toArray) w := fun a w ha hw => by
  subst hm
  have hl := run_loadCells_list (P := P) (w := w) _ l (hc w hw)
  have ht := ha.get t _ hv
  unfold Program.aggN at hs
  have hlv : (loadVar T ⟨b, k, none⟩).run P w = .ok (.agg l.toArray) w := by
    unfold loadCells at hl
    split at hs
    all_goals first | cases hs; done | skip
    all_goals
      rename_i hu
      obtain ⟨inf, hinf, he⟩ := Option.map_eq_some_iff.1 hs
      simp [loadVar, isAgg, run_underlying hu, sizeOf, typeInfo, hinf, he, hl, loadCells, go_sem]
  rw [results_cell1 h, ht]
  show ((Sem.run P (pure ⟨b, k, none⟩) w).andThen fun a w₁ => (loadVar T a).run P w₁) = _
  rw [Sem.run_pure, Result.andThen_ok, hlv]
/-- an atom that can be read as a slice -/
def Reads (A : SA) (sz : Nat) (v : Value) (n : Nat) (cs : List Value) : Prop := ∀ w O R, A.p w O R → Rd w sz v n cs
theorem Reads.rds {sz n : Nat} {v : Value} {cs : List Value} : Reads (SA.rds sz v n cs) sz v n cs := fun _ _ _ h => h.2
theorem Reads.owns {e sz n : Nat} {v : Value} {cs : List Value} : Reads (SA.owns e sz v n cs) sz v n cs := fun _ _ _ h => h.2.rd
theorem Cel.reads {A : SA} {sz n cap j : Nat} {p : Addr} {cs : List Value} (hA : Reads A sz (.slice (some p) n cap) n cs) (h : In A As) (hv : cs[j]? = some v) : Cel As (p.add j) v := fun w hw => by
  obtain ⟨O, R, h1⟩ := hw _ h
  obtain ⟨a, c, he, _, _, _, h4⟩ := (hA _ _ _ h1).val
  cases he
  exact h4 p rfl j v hv
theorem Cel.rdsB {sz n cap j : Nat} {g off : Nat} {cs : List Value} (h : In (SA.rds sz (.slice (some ⟨g, off, none⟩) n cap) n cs) As) (hv : cs[j]? = some v) : Cel As ⟨g, off + j, none⟩ v := by
  have := Cel.rds h hv
  rwa [Addr.add_lit] at this
theorem Src.reads {A : SA} {sz n tx e' : Nat} {cs : List Value} (hA : Reads A sz u n cs) (hk : P.underlying tx = some (.slice e')) (h : In A As) : ∀ w, Holds As w → Src P sz tx u n cs w := fun w hw => by
  obtain ⟨O, R, h1⟩ := hw _ h
  exact (hA _ _ _ h1).src hk
theorem TQ.retE {fn : Func} {R : Value → List SA → Prop} {L2 : List SA} (hr : ∀ a w, Env N F a → Holds L w → (results fn a.tmps).run P w = .ok v w) (hR : R v L2) (hE : Ent L L2) {X : SA} : TQ ⟨none, X⟩ N .ret F L (Qf P fn X R) := fun ds a w ha hd hw => by
  show LeavesInM (fen none) 0 P fn a.tmps (Ret X R) a.defers .returning w
  rw [hd]; exact leaveE (fun w h => hr a w ha h) hR hE ds w hw
theorem TQ.endE {fn : Func} {R : Value → List SA → Prop} {L2 : List SA} (hr : ∀ a w, Env N F a → Holds L w → (results fn a.tmps).run P w = .ok v w) (hR : R v L2) (hE : Ent L L2) {X : SA} : TQ ⟨none, X⟩ N .normal F L (Qf P fn X R) := fun ds a w ha hd hw => by
  show LeavesInM (fen none) 0 P fn a.tmps (Ret X R) a.defers .returning w
  rw [hd]; exact leaveE (fun w h => hr a w ha h) hR hE ds w hw
theorem X.boxA {t : TypeId} {cs : Array Value} (ho : o.op = .box t x) (hx : evO F x = some (.agg cs)) : Eff P N o F L (fun u L' => ∃ b, u = .pointer (some ⟨b, 0, none⟩) ∧ L' = SA.blk b cs t :: L) := X.box ho hx rfl
theorem X.box1 {t : TypeId} (ho : o.op = .box t x) (hx : evO F x = some v) (h1 : v.oneCell' = true) : Eff P N o F L (fun u L' => ∃ b, u = .pointer (some ⟨b, 0, none⟩) ∧ L' = SA.blk b #[v] t :: L) := X.box ho hx (by rw [← Array.toList_inj, cells_one h1])
end
end Go.Proofs.Ytomplpdeeomehaa
