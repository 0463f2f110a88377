/- The logic's rules for operations. No program is named. -/
import Derived.Test.YtomplpdeeomehaaHoare
import Derived.Laws.Rows
import Derived.Laws.MakeOwn
namespace Go.Proofs.Ytomplpdeeomehaa
set_option linter.unusedVariables false
set_option linter.unusedSimpArgs false
open Go.RowKit

abbrev v8 (x : UInt8) : Value := .int .u8 (x.toNat : Int)
abbrev v16 (x : UInt16) : Value := .int .u16 (x.toNat : Int)
abbrev v32 (x : UInt32) : Value := .int .u32 (x.toNat : Int)
abbrev v64 (x : UInt64) : Value := .int .u64 (x.toNat : Int)
abbrev vN (n : Nat) : Value := .int .i64 (n : Int)
abbrev pt (b o : Nat) : Value := .pointer (some ⟨b, o, none⟩)

/-- an integer operation's result -/
def BR (op : BinOp) (k : IntKind) (a : Int) (yk : IntKind) (b : Int) (v : Value) : Prop := ∀ (P : Program) w t, (binOp op t (.int k a) (.int yk b)).run P w = .ok v w
def Program.isSc (P : Program) (t : TypeId) : Bool := match P.underlying t with
  | some (.struct _) | some (.array _ _) | none => false
  | _ => true
/-- an aggregate's number of cells -/
def Program.aggN (P : Program) (t : TypeId) : Option Nat := match P.underlying t with
  | some (.struct _) | some (.array _ _) => (P.info? t).map (·.size)
  | _ => none
def Program.fieldOff (P : Program) (s i : Nat) : Option Nat := match P.underlying s with
  | some (.struct fs) => match fs[i]? with
    | some f => match P.info? f.type with
      | some inf => if inf.size = 0 then none else some f.offset
      | none => none
    | none => none
  | _ => none
def Program.arrI (P : Program) (t : TypeId) : Option (Nat × Nat) := match P.underlying t with
  | some (.array n e) => (P.info? e).map fun i => (n, i.size)
  | _ => none
def Program.slI (P : Program) (t : TypeId) : Option Nat := match P.underlying t with
  | some (.slice e) => (P.info? e).map (·.size)
  | _ => none
def Program.zeroC (P : Program) (t : TypeId) : Option (Array Value) := ((P.info? t).bind (·.zero)).map (·.cells)

section
variable {P : Program} {N : Nat} {F : FE} {As L : List SA} {o : Oper} {x y i c : Operand} {v u : Value}

theorem Y.move (ho : o.op = .move x) (hx : evO F x = some v) : Yld P N o F As v := fun a w ha _ => by
  replace hx := ha.eval hx
  generalize a.eval = ρ at hx ⊢
  unfold execOp; rw [ho]; simp [hx, go_sem]
theorem Y.assign (ho : o.op = .assign x) (hx : evO F x = some v) : Yld P N o F As v := fun a w ha _ => by
  replace hx := ha.eval hx
  generalize a.eval = ρ at hx ⊢
  unfold execOp; rw [ho]; simp [hx, go_sem]
theorem Y.pick {t : Bool} (ho : o.op = .pick c x y) (hc : evO F c = some (.bool t)) (hx : evO F x = some v) (hy : evO F y = some u) : Yld P N o F As (if t then v else u) := fun a w ha _ => by
  replace hc := ha.eval hc
  replace hx := ha.eval hx
  replace hy := ha.eval hy
  generalize a.eval = ρ at hc hx hy ⊢
  unfold execOp; rw [ho]; simp [hx, hy, hc, asBool, go_sem]
/-- 'a && b', 'a || b' whose right side was not wanted -/
theorem Y.pick_t (ho : o.op = .pick c x y) (hc : evO F c = some (.bool true)) (hx : evO F x = some v) : Yld P N o F As v := fun a w ha _ => by
  replace hc := ha.eval hc
  replace hx := ha.eval hx
  generalize a.eval = ρ at hc hx ⊢
  unfold execOp; rw [ho]; simp [hx, hc, asBool, go_sem]
theorem Y.pick_f (ho : o.op = .pick c x y) (hc : evO F c = some (.bool false)) (hy : evO F y = some u) : Yld P N o F As u := fun a w ha _ => by
  replace hc := ha.eval hc
  replace hy := ha.eval hy
  generalize a.eval = ρ at hc hy ⊢
  unfold execOp; rw [ho]; simp [hy, hc, asBool, go_sem]
theorem Y.bin {op : BinOp} {t yt : TypeId} {k yk : IntKind} {a b : Int} (ho : o.op = .binOp op t x y yt) (hx : evO F x = some (.int k a)) (hy : evO F y = some (.int yk b)) (hr : BR op k a yk b v) : Yld P N o F As v := fun a' w ha _ => by
  replace hx := ha.eval hx
  replace hy := ha.eval hy
  generalize a'.eval = ρ at hx hy ⊢
  unfold execOp; rw [ho]
  have := hr P w t
  have hg : (eqGuard op t x y (.int k a) (.int yk b)).run P w = .ok () w := by
    unfold eqGuard; cases op <;> simp [go_sem]
  simp [hx, hy, hg, this, go_sem]
theorem Y.not {t : TypeId} {b : Bool} (ho : o.op = .unOp .not t x) (hx : evO F x = some (.bool b)) : Yld P N o F As (.bool !b) := fun a w ha _ => by
  replace hx := ha.eval hx
  generalize a.eval = ρ at hx ⊢
  unfold execOp; rw [ho]; simp [hx, Op.unary, go_sem]
theorem Y.conv {s d : TypeId} {ds : TypeDesc} {k k' : IntKind} {n m : Int} (ho : o.op = .convert s d x) (hs : P.underlying s = some ds) (hd : P.underlying d = some (.int k)) (hx : evO F x = some (.int k' n)) (hv : k.wrap n = m) : Yld P N o F As (.int k m) := fun a w ha _ => by
  replace hx := ha.eval hx
  generalize a.eval = ρ at hx ⊢
  unfold execOp; rw [ho]; subst hv
  simp [hx, convert, run_underlying hs, run_underlying hd, Conv.intToInt, go_sem]
theorem Y.nilCheck {p : Addr} (ho : o.op = .nilCheck x) (hx : evO F x = some (.pointer (some p))) : Yld P N o F As (.pointer (some p)) := fun a w ha _ => by
  replace hx := ha.eval hx
  generalize a.eval = ρ at hx ⊢
  unfold execOp; rw [ho]; simp [hx, go_sem]
theorem Y.fieldAddr {s f : Nat} {off b k q : Nat} (ho : o.op = .fieldAddr s x f) (hf : Program.fieldOff P s f = some off) (hx : evO F x = some (.pointer (some ⟨b, k, none⟩))) (hq : k + off = q) : Yld P N o F As (.pointer (some ⟨b, q, none⟩)) := fun a w ha _ => by
  subst hq
  replace hx := ha.eval hx
  generalize a.eval = ρ at hx ⊢
  unfold execOp; rw [ho]
  unfold Program.fieldOff at hf
  split at hf
  · rename_i fs hu
    split at hf
    · rename_i fd hfd
      split at hf
      · rename_i inf hi
        split at hf
        · cases hf
        · rename_i h0
          simp at hf; subst hf
          simp [hx, Instr.fieldAt, run_underlying hu, hfd, Instr.sureAddr, fieldPlace, sizeOf, typeInfo, hi, h0, go_sem, Addr.add_lit]
      · cases hf
    · cases hf
  · cases hf
theorem Y.indexArr {t n sz b k j q : Nat} {kk : IntKind} (ho : o.op = .indexAddr t x i) (hA : Program.arrI P t = some (n, sz)) (hx : evO F x = some (.pointer (some ⟨b, k, none⟩))) (hi : evO F i = some (.int kk (j : Int))) (hj : j < n) (hq : k + j * sz = q) : Yld P N o F As (.pointer (some ⟨b, q, none⟩)) := fun a w ha _ => by
  subst hq
  replace hx := ha.eval hx
  replace hi := ha.eval hi
  generalize a.eval = ρ at hx hi ⊢
  unfold execOp; rw [ho]
  unfold Program.arrI at hA
  split at hA
  · rename_i n' e hu
    obtain ⟨inf, hinf, he⟩ := Option.map_eq_some_iff.1 hA
    simp at he
    obtain ⟨rfl, rfl⟩ := he
    simp [hx, hi, Instr.indexAt, asIntOf, run_underlying hu, Instr.sureAddr, sizeOf, typeInfo, hinf, hj, go_sem, Addr.add_lit]
  · cases hA
theorem Y.indexSl {t sz j n cap q : Nat} {p : Addr} {kk : IntKind} (ho : o.op = .indexAddr t x i) (hA : Program.slI P t = some sz) (hx : evO F x = some (.slice (some p) n cap)) (hi : evO F i = some (.int kk (j : Int))) (hj : j < n) (hq : j * sz = q) : Yld P N o F As (.pointer (some (p.add q))) := fun a w ha _ => by
  subst hq
  replace hx := ha.eval hx
  replace hi := ha.eval hi
  generalize a.eval = ρ at hx hi ⊢
  unfold execOp; rw [ho]
  unfold Program.slI at hA
  split at hA
  · rename_i e hu
    obtain ⟨inf, hinf, he⟩ := Option.map_eq_some_iff.1 hA
    subst he
    simp [hx, hi, Instr.indexAt, asIntOf, run_underlying hu, sizeOf, typeInfo, hinf, hj, go_sem]
  · cases hA
theorem Y.indexSlB {t sz j n cap g off q : Nat} {kk : IntKind} (ho : o.op = .indexAddr t x i) (hA : Program.slI P t = some sz) (hx : evO F x = some (.slice (some ⟨g, off, none⟩) n cap)) (hi : evO F i = some (.int kk (j : Int))) (hj : j < n) (hq : off + j * sz = q) : Yld P N o F As (.pointer (some ⟨g, q, none⟩)) := by
  have := Y.indexSl (As := As) (N := N) ho hA hx hi hj rfl
  rw [Addr.add_lit, hq] at this
  exact this
/-- an element of an array value -/
theorem Y.indexAgg {t n e j : Nat} {cs : Array Value} {kk : IntKind} (ho : o.op = .index t x i) (hu : P.underlying t = some (.array n e)) (hs : Program.isSc P e = true) (hz : (P.info? e).map (·.size) = some 1) (hx : evO F x = some (.agg cs)) (hi : evO F i = some (.int kk (j : Int))) (hj : j < n) (hv : cs[j]? = some v) : Yld P N o F As v := fun a w ha _ => by
  replace hx := ha.eval hx
  replace hi := ha.eval hi
  generalize a.eval = ρ at hx hi ⊢
  unfold execOp; rw [ho]
  obtain ⟨inf, hinf, he⟩ := Option.map_eq_some_iff.1 hz
  unfold Program.isSc at hs
  simp [hx, hi, Instr.index, asIntOf, run_underlying hu, sizeOf, typeInfo, hinf, he, hj, part, isAgg, go_sem]
  cases hq : P.underlying e with
  | none => simp [hq] at hs
  | some d => cases d <;> simp [hq] at hs <;> simp [run_underlying hq, hv, go_sem]
theorem Y.len {t n cap e : Nat} {p : Option Addr} (ho : o.op = .call { callee := .builtin .len, args := #[x], argTypes := #[t] }) (hu : P.underlying t = some (.slice e)) (hx : evO F x = some (.slice p n cap)) : Yld P N o F As (vN n) := fun a w ha _ => by
  replace hx := ha.eval hx
  generalize a.eval = ρ at hx ⊢
  unfold execOp; rw [ho]
  simp [resolve, invoke, builtin, Builtin.len_, hx, run_underlying hu, goInt, go_sem]
theorem Y.lenStr {t : Nat} {s : ByteArray} (ho : o.op = .call { callee := .builtin .len, args := #[x], argTypes := #[t] }) (hu : P.underlying t = some .string) (hx : evO F x = some (.string s)) : Yld P N o F As (vN s.size) := fun a w ha _ => by
  replace hx := ha.eval hx
  generalize a.eval = ρ at hx ⊢
  unfold execOp; rw [ho]
  simp [resolve, invoke, builtin, Builtin.len_, hx, run_underlying hu, goInt, go_sem]
/-- a cell's content is known -/
def Cel (As : List SA) (p : Addr) (v : Value) : Prop := ∀ w, Holds As w → w.cell? p = some v
def Cels (As : List SA) (p : Addr) (l : List Value) : Prop := ∀ w, Holds As w → ∀ j u, l[j]? = some u → w.cell? (p.add j) = some u
theorem Cel.blk {b k t : Nat} {cs : Array Value} (h : In (SA.blk b cs t) As) (hv : cs[k]? = some v) : Cel As ⟨b, k, none⟩ v := fun w hw => by
  obtain ⟨O, R, h1⟩ := hw _ h
  rw [h1.2.cell, hv]
theorem Cel.rblk {b k t : Nat} {cs : Array Value} (h : In (SA.rblk b cs t) As) (hv : cs[k]? = some v) : Cel As ⟨b, k, none⟩ v := fun w hw => by
  obtain ⟨O, R, h1⟩ := hw _ h
  rw [h1.2.cell, hv]
theorem Cel.rds {sz n cap j : Nat} {p : Addr} {cs : List Value} (h : In (SA.rds sz (.slice (some p) n cap) n cs) As) (hv : cs[j]? = some v) : Cel As (p.add j) v := fun w hw => by
  obtain ⟨O, R, h1⟩ := hw _ h
  obtain ⟨a, c, he, _, _, _, h4⟩ := h1.2.val
  cases he
  exact h4 p rfl j v hv
theorem Cel.owns {e sz n cap j : Nat} {g off : Nat} {cs : List Value} (h : In (SA.owns e sz (.slice (some ⟨g, off, none⟩) n cap) n cs) As) (hv : cs[j]? = some v) : Cel As ⟨g, off + j, none⟩ v := fun w hw => by
  obtain ⟨O, R, h1⟩ := hw _ h
  exact h1.2.cells rfl j v hv
theorem Cel.owns' {e sz n cap j : Nat} {p : Addr} {cs : List Value} (h : In (SA.owns e sz (.slice (some p) n cap) n cs) As) (hv : cs[j]? = some v) : Cel As (p.add j) v := fun w hw => by
  obtain ⟨O, R, h1⟩ := hw _ h
  obtain ⟨a, c, he, _, _, _, h4⟩ := h1.2.rd.val
  cases he
  exact h4 p rfl j v hv
theorem Cels.blk {b k t : Nat} {cs : Array Value} {l : List Value} (h : In (SA.blk b cs t) As) (hv : ∀ j u, l[j]? = some u → cs[k + j]? = some u) : Cels As ⟨b, k, none⟩ l := fun w hw j u hj => by
  rw [Addr.add_lit]; exact Cel.blk h (hv j u hj) w hw
theorem Cels.all {b t : Nat} {cs : Array Value} (h : In (SA.blk b cs t) As) : Cels As ⟨b, 0, none⟩ cs.toList := Cels.blk h fun j u hj => by simpa using hj
theorem Y.load {t : Nat} {p : Addr} (ho : o.op = .load t x) (hs : Program.isSc P t = true) (hx : evO F x = some (.pointer (some p))) (hc : Cel As p v) : Yld P N o F As v := fun a w ha hw => by
  replace hx := ha.eval hx
  generalize a.eval = ρ at hx ⊢
  unfold execOp; rw [ho]
  unfold Program.isSc at hs
  have := hc w hw
  simp [hx, Instr.loadAt, Instr.sureAddr, loadVar, isAgg, go_sem]
  cases hq : P.underlying t with
  | none => simp [hq] at hs
  | some d => cases d <;> simp [hq] at hs <;> simp [run_underlying hq, this, go_sem]
theorem Cels.full {b t : Nat} {l : List Value} (h : In (SA.blk b l.toArray t) As) : Cels As ⟨b, 0, none⟩ l := Cels.blk h fun j u hj => by simpa using hj
theorem Y.loadAgg {t m : Nat} {p : Addr} {l : List Value} (ho : o.op = .load t x) (hs : Program.aggN P t = some m) (hx : evO F x = some (.pointer (some p))) (hc : Cels As p l) (hm : l.length = m) : Yld P N o F As (.agg l.toArray) := fun a w ha hw => by
  subst hm
  replace hx := ha.eval hx
  generalize a.eval = ρ at hx ⊢
  unfold execOp; rw [ho]
  unfold Program.aggN at hs
  have hl := run_loadCells_list (P := P) (w := w) p l (hc w hw)
  unfold loadCells at hl
  split at hs
  all_goals first | cases hs; done | skip
  all_goals
    rename_i hu
    obtain ⟨inf, hinf, he⟩ := Option.map_eq_some_iff.1 hs
    simp [hx, Instr.loadAt, Instr.sureAddr, loadVar, isAgg, run_underlying hu, sizeOf, typeInfo, hinf, he, hl, go_sem]
theorem zip_parts (ρ : Operand → Value) (l : List (Nat × Operand)) : l.map (fun p => (p.1, ρ p.2)) = (l.map (·.1)).zip ((l.map (·.2)).map ρ) := by
  induction l with
  | nil => rfl
  | cons p r ih => simp [ih]
theorem parts_eq {a : Act} (ha : Env N F a) {l : List (Nat × Operand)} {vs : List Value} (hp : evA F (l.map (·.2)) = some vs) : (l.toArray.map fun (i, x) => (i, a.eval x)) = ((l.map (·.1)).zip vs).toArray := by
  have := zip_parts a.eval l
  rw [ha.evalA hp] at this
  rw [← this]
  simp
theorem Y.build {t : Nat} {parts : List (Nat × Operand)} {vs : List Value} {cells : Array Value} (ho : o.op = .build t parts.toArray) (hp : evA F (parts.map (·.2)) = some vs)
    (hf : ∀ w, (Instr.build t ((parts.map (·.1)).zip vs).toArray).run P w = .ok (.agg cells) w) : Yld P N o F As (.agg cells) := fun a w ha hw => by
  unfold execOp; rw [ho]
  have e := parts_eq ha hp
  have hf' := hf w
  simp only []
  rw [e]
  generalize Instr.build t _ = s at hf' ⊢
  simp [hf', go_sem]
end

/-! ### actions -/
section
variable {P : Program} {N : Nat} {F : FE} {As L L0 : List SA} {o : Oper} {x y i c : Operand} {v u : Value}
theorem St.newB {w : World} (h : St L w) (cs : Array Value) (t : TypeId) : St (SA.blk w.heap.size cs t :: L) { w with heap := w.heap.push (.cells cs t (0, 0)) } := h.new cs t
theorem X.alloc {t : TypeId} {z : Array Value} (ho : o.op = .alloc t) (hz : Program.zeroC P t = some z) : Eff P N o F L (fun v L' => ∃ b, v = .pointer (some ⟨b, 0, none⟩) ∧ L' = SA.blk b z t :: L) := by
  refine ⟨by rw [ho]; simp, fun Y a w ha hw K Q hK => ?_⟩
  unfold Oper.wp execOp; rw [ho]
  unfold Program.zeroC at hz
  obtain ⟨zv, h1, h2⟩ := Option.map_eq_some_iff.1 hz
  obtain ⟨inf, h3, h4⟩ := Option.bind_eq_some_iff.1 h1
  subst h2
  simp [Instr.alloc, zeroValue, typeInfo, h3, h4, newVar, newRow, newObj, go_sem]
  exact hK _ _ _ ⟨_, rfl, rfl⟩ (hw.new _ t).up1
theorem X.box {t : TypeId} {cs : Array Value} (ho : o.op = .box t x) (hx : evO F x = some v) (hc : v.cells = cs) : Eff P N o F L (fun u L' => ∃ b, u = .pointer (some ⟨b, 0, none⟩) ∧ L' = SA.blk b cs t :: L) := by
  refine ⟨by rw [ho]; simp, fun Y a w ha hw K Q hK => ?_⟩
  subst hc
  unfold Oper.wp execOp; rw [ho]
  replace hx := ha.eval hx
  simp only [hx]
  simp [Instr.box, newVar, newRow, newObj, go_sem]
  exact hK _ _ _ ⟨_, rfl, rfl⟩ (hw.new _ t).up1
theorem X.store {t b k bt : Nat} {cs : Array Value} (ho : o.op = .store t x y) (hs : (P.info? t).map (·.size) = some 1) (hx : evO F x = some (.pointer (some ⟨b, k, none⟩))) (hy : evO F y = some v) (h1 : v.oneCell' = true)
    {cs' : Array Value} (hp : Pull (SA.blk b cs bt) L L0) (hk : k < cs.size) (he' : cs.setIfInBounds k v = cs') : Eff P N o F L (fun _ L' => L' = SA.blk b cs' bt :: L0) := by
  refine ⟨by rw [ho]; simp, fun Y a w ha hw K Q hK => ?_⟩
  subst he'
  unfold Oper.wp execOp; rw [ho]
  replace hx := ha.eval hx
  replace hy := ha.eval hy
  simp only [hx, hy]
  have hst := (Pull.there (B := Y) hp).st hw
  obtain ⟨inf, hinf, he⟩ := Option.map_eq_some_iff.1 hs
  have hc : w.cell? ⟨b, k, none⟩ = some cs[k] := by rw [hst.cell]; simp [hk]
  have hfz := hst.frozen k
  have hcells : v.cells.toList = [v] := cells_one h1
  have hsz : v.cells.size = 1 := by rw [← Array.length_toList, hcells]; rfl
  have hrun := run_store P w ⟨b, k, none⟩ v .plain h1
  rw [hc] at hrun
  simp only [hfz] at hrun
  have hall : (Instr.storeAt t (.pointer (some ⟨b, k, none⟩)) v).run P w = .ok () (w.setCell ⟨b, k, none⟩ v) := by
    unfold Instr.storeAt Instr.sureAddr storeVar
    simp only [hcells, hsz, storeCells, Addr.add_lit, Nat.add_zero]
    simp [sizeOf, typeInfo, hinf, he, hrun, go_sem]
  generalize Instr.storeAt t _ _ = s at hall ⊢
  simp [hall, go_sem]
  exact hK _ _ _ rfl (hst.set k v).up1
theorem X.storeAgg {t b k bt m : Nat} {cs vs : Array Value} (ho : o.op = .store t x y) (hs : (P.info? t).map (·.size) = some m) (hmm : vs.size = m) (hx : evO F x = some (.pointer (some ⟨b, k, none⟩))) (hy : evO F y = some (.agg vs)) (h1 : ∀ v ∈ vs.toList, v.oneCell' = true)
    {cs' : Array Value} (hp : Pull (SA.blk b cs bt) L L0) (hk : k + vs.size ≤ cs.size) (he' : writeAt cs k vs.toList = cs') : Eff P N o F L (fun _ L' => L' = SA.blk b cs' bt :: L0) := by
  refine ⟨by rw [ho]; simp, fun Y a w ha hw K Q hK => ?_⟩
  subst he'
  subst hmm
  unfold Oper.wp execOp; rw [ho]
  replace hx := ha.eval hx
  replace hy := ha.eval hy
  simp only [hx, hy]
  have hst := (Pull.there (B := Y) hp).st hw
  obtain ⟨inf, hinf, he⟩ := Option.map_eq_some_iff.1 hs
  have hrun := run_storeCells_cells (P := P) b k vs.toList 0 w (fun j hj => by rw [hst.cell]; simp at hj ⊢; omega) (fun j hj => hst.frozen _) h1
  have hall : (Instr.storeAt t (.pointer (some ⟨b, k, none⟩)) (.agg vs)).run P w = .ok () (w.setCells b k vs.toList) := by
    unfold Instr.storeAt Instr.sureAddr storeVar
    simp only [Nat.add_zero] at hrun
    simp [sizeOf, typeInfo, hinf, he, Value.cells, hrun, go_sem]
  generalize Instr.storeAt t _ _ = s at hall ⊢
  simp [hall, go_sem]
  exact hK _ _ _ rfl (hst.setCells k vs.toList).up1
/-- a store through a slice of one's own -/
theorem St.ownSet {w : World} {e sz n cap g off : Nat} {cs : List Value} (h : St (SA.owns e sz (.slice (some ⟨g, off, none⟩) n cap) n cs :: L) w) (j : Nat) (v : Value) (h1 : v.oneCell' = true) (hj : j < n * sz) :
    w.cell? ⟨g, off + j, none⟩ = cs[j]? ∧ w.frozen? ⟨g, off + j, none⟩ = false ∧ St (SA.owns e sz (.slice (some ⟨g, off, none⟩) n cap) n (cs.set j v) :: L) (w.setCell ⟨g, off + j, none⟩ v) := by
  have ho := h.isOwn
  rcases ho.val with ⟨hv, _⟩ | ⟨g', off', cap', arr, hv, hb, h2, h3, h4, h5⟩
  · cases hv
  · cases hv
    have hle : n * sz ≤ cap * sz := Nat.mul_le_mul_right _ h2
    refine ⟨?_, hb.frozen _, ?_⟩
    · rw [hb.cell, ← h5]; simp [List.getElem?_take, hj]
    · refine h.upd fun O R hA _ => ⟨O, R, ⟨hA.1, ⟨by simpa using ho.len, fun u hu => ?_, .inr ⟨g, off, cap, _, rfl, hb.set (off + j) v, h2, h3, by simpa using h4, ?_⟩⟩⟩, fun k hk => .inl hk, fun k hk => .inr (.inl hk), ?_⟩
      · rcases List.mem_or_eq_of_mem_set hu with hu | rfl
        · exact ho.one u hu
        · exact h1
      · rw [← h5]
        apply List.ext_getElem?
        intro i
        simp only [Array.toList_setIfInBounds, List.getElem?_take, List.getElem?_drop, List.getElem?_set, List.length_take, List.length_drop, Array.length_toList]
        by_cases hi : i < n * sz
        · by_cases hij : j = i
          · subst hij
            rw [if_pos hi, if_pos rfl, if_pos (by omega), if_pos rfl, if_pos (by omega)]
          · rw [if_pos hi, if_neg (by omega), if_neg hij, if_pos hi]
        · rw [if_neg hi, if_neg (by omega), if_neg hi]
      · exact Ag.fr ((Fr.refl [g] w).set (by simp) v) (fun k hk e => by simp at e; subst e; exact hk (hA.1 _ (by simp [own])))
theorem X.storeOwn {t e sz n cap g off q j : Nat} {cs : List Value} (ho : o.op = .store t x y) (hs : (P.info? t).map (·.size) = some 1) (hx : evO F x = some (.pointer (some ⟨g, q, none⟩))) (hq : q = off + j) (hy : evO F y = some v) (h1 : v.oneCell' = true)
    (hp : Pull (SA.owns e sz (.slice (some ⟨g, off, none⟩) n cap) n cs) L L0) {cs' : List Value} (hj : j < n * sz) (he' : cs.set j v = cs') : Eff P N o F L (fun _ L' => L' = SA.owns e sz (.slice (some ⟨g, off, none⟩) n cap) n cs' :: L0) := by
  refine ⟨by rw [ho]; simp, fun Y a w ha hw K Q hK => ?_⟩
  subst he'
  unfold Oper.wp execOp; rw [ho]
  subst hq
  replace hx := ha.eval hx
  replace hy := ha.eval hy
  simp only [hx, hy]
  have hst := (Pull.there (B := Y) hp).st hw
  obtain ⟨inf, hinf, he⟩ := Option.map_eq_some_iff.1 hs
  obtain ⟨hc, hfz, hst'⟩ := hst.ownSet j v h1 hj
  have hjl : j < cs.length := by rw [hst.isOwn.len]; exact hj
  rw [List.getElem?_eq_getElem hjl] at hc
  have hcells : v.cells.toList = [v] := cells_one h1
  have hsz : v.cells.size = 1 := by rw [← Array.length_toList, hcells]; rfl
  have hrun := run_store P w ⟨g, off + j, none⟩ v .plain h1
  rw [hc] at hrun
  simp only [hfz] at hrun
  have hall : (Instr.storeAt t (.pointer (some ⟨g, off + j, none⟩)) v).run P w = .ok () (w.setCell ⟨g, off + j, none⟩ v) := by
    unfold Instr.storeAt Instr.sureAddr storeVar
    simp only [hcells, hsz, storeCells, Addr.add_lit, Nat.add_zero]
    simp [sizeOf, typeInfo, hinf, he, hrun, go_sem]
  generalize Instr.storeAt t _ _ = s at hall ⊢
  simp [hall, go_sem]
  exact hK _ _ _ rfl hst'.up1
/-- a slice literal -/
theorem X.buildSlice {t n e sz : Nat} {parts : List (Nat × Operand)} {vs : List Value} {cells : Array Value} (ho : o.op = .buildSlice t n parts.toArray) (hp : evA F (parts.map (·.2)) = some vs)
    (hf : ∀ w, (Instr.buildSlice t n ((parts.map (·.1)).zip vs).toArray).run P w = .ok (.slice (some ⟨w.heap.size, 0, none⟩) n n) (w.alloc (.cells cells e))) (hl : cells.size = n * sz) (h1 : ∀ u ∈ cells.toList, u.oneCell' = true) (hm : n ≤ maxLen) :
    Eff P N o F L (fun v L' => ∃ g, v = .slice (some ⟨g, 0, none⟩) n n ∧ L' = SA.owns e sz (.slice (some ⟨g, 0, none⟩) n n) n cells.toList :: L) := by
  refine ⟨by rw [ho]; simp, fun Y a w ha hw K Q hK => ?_⟩
  unfold Oper.wp execOp; rw [ho]
  have e := parts_eq ha hp
  have hf' := hf w
  simp only []
  rw [e]
  generalize Instr.buildSlice t n _ = s at hf' ⊢
  simp [hf', go_sem]
  exact hK _ _ _ ⟨_, rfl, rfl⟩ (hw.newOwn _ sz n cells hl h1 hm).up1
theorem X.call {f : FuncId} {fn : Func} {args : List Operand} {at' : Array TypeId} {vs : List Value} {R : Value → List SA → Prop} (ho : o.op = .call { callee := .value (.func f), args := args.toArray, argTypes := at' })
    (hf : P.funcs[f]? = some fn) (hn : (fn.name == "runtime.NumGoroutine") = false) (hb : fn.body.isNone = false) (hv : evA F args = some vs) (h : Fn P f vs L R) : Eff P N o F L R := by
  refine ⟨by rw [ho]; simp, fun Y a w ha hw K Q hK => ?_⟩
  unfold Oper.wp execOp; rw [ho]
  have e := ha.evalA hv
  have hc : ((resolve a.eval { callee := .value (.func f), args := args.toArray, argTypes := at' } o.type).bind fun d => invoke d.target d.args).run P w = .ok (.enter f vs.toArray) w := by
    have e' : #[] ++ args.toArray.map a.eval = vs.toArray := by simp [e]
    show Sem.run P (invoke (.fn (.func f) #[]) (#[] ++ args.toArray.map a.eval)) w = _
    rw [e']
    show Sem.run P (callFunc f (vs.toArray ++ #[])) w = _
    rw [Array.append_empty]
    unfold callFunc
    have hn' : ¬ fn.name = "runtime.NumGoroutine" := by simpa using hn
    have hb' : ¬ fn.body = none := by intro h; simp [h] at hb
    simp [hf, hn', hb', go_sem]
  have := h Y w hw
  show Oper.upon P o a K Q (((resolve a.eval _ o.type).bind fun d => invoke d.target d.args).run P w)
  rw [hc, Oper.upon_enter]
  refine this.mono fun e w' ⟨v, L', he, hR, hw'⟩ => ?_
  subst he
  exact hK v L' w' hR hw'
/-- 'append' -/
theorem X.append {t tx e sz bytes n m : Nat} {z s : Value} {cs news : List Value} (ho : o.op = .call { callee := .builtin .append, args := #[x, y], argTypes := #[t, tx] }) (E : Elt P t e sz bytes z)
    (hx : evO F x = some s) (hp : Pull (SA.owns e sz s n cs) L L0) (hy : evO F y = some u) (hs : ∀ w, Holds L w → Src P sz tx u m news w) (b1 : n + m ≤ maxLen) (b2 : (n + m) * bytes ≤ 140737488355328) :
    Eff P N o F L (fun v L' => (v = .slice none 0 0 ↔ s = .slice none 0 0 ∧ m = 0) ∧ L' = SA.owns e sz v (n + m) (cs ++ news) :: L0) := by
  refine ⟨by rw [ho]; simp, fun Y a w ha hw K Q hK => ?_⟩
  unfold Oper.wp execOp; rw [ho]
  replace hx := ha.eval hx
  replace hy := ha.eval hy
  have hst := (Pull.there (B := Y) hp).st hw
  obtain ⟨v', w', hrun, r1, r2, r3, r4⟩ := run_app (P := P) (ty := o.type) E hst.isOwn (hs w hw.tl.holds) b1 b2
  generalize a.eval = ρ at hx hy ⊢
  simp [resolve, invoke, builtin, hx, hy, hrun, Result.andThen, Oper.upon]
  exact hK _ _ _ ⟨r4, rfl⟩ (St.up1 (hst.frS r2 fun O R hA => ⟨hA.1, fun k => k ∈ own v', R, ⟨fun _ h => h, r1⟩, fun k hk => (r3 k hk).imp (hA.1 k) (fun h => ⟨h, r1.lt k hk⟩), fun k hk => .inr (.inl hk)⟩))
/-- 'append' within the capacity -/
theorem X.appendFits {t tx e sz bytes n m cap g off : Nat} {z : Value} {cs news : List Value} (ho : o.op = .call { callee := .builtin .append, args := #[x, y], argTypes := #[t, tx] }) (E : Elt P t e sz bytes z)
    (hx : evO F x = some (.slice (some ⟨g, off, none⟩) n cap)) (hp : Pull (SA.owns e sz (.slice (some ⟨g, off, none⟩) n cap) n cs) L L0) (hy : evO F y = some u) (hs : ∀ w, Holds L w → Src P sz tx u m news w) (hroom : n + m ≤ cap) :
    Eff P N o F L (fun v L' => v = .slice (some ⟨g, off, none⟩) (n + m) cap ∧ L' = SA.owns e sz (.slice (some ⟨g, off, none⟩) (n + m) cap) (n + m) (cs ++ news) :: L0) := by
  refine ⟨by rw [ho]; simp, fun Y a w ha hw K Q hK => ?_⟩
  unfold Oper.wp execOp; rw [ho]
  replace hx := ha.eval hx
  replace hy := ha.eval hy
  have hst := (Pull.there (B := Y) hp).st hw
  obtain ⟨w', hrun, r1, r2⟩ := run_app_fits (P := P) (ty := o.type) E hst.isOwn (hs w hw.tl.holds) hroom
  generalize a.eval = ρ at hx hy ⊢
  simp [resolve, invoke, builtin, hx, hy, hrun, Result.andThen, Oper.upon]
  exact hK _ _ _ ⟨rfl, rfl⟩ (St.up1 (hst.frS r2 fun O R hA => ⟨fun k hk => hA.1 k (by simpa [own] using hk), O, R, ⟨fun k hk => hA.1 k (by simpa [own] using hk), r1⟩, fun k hk => .inl hk, fun k hk => .inr (.inl hk)⟩))
/-- what is appended -/
theorem Src.rds {sz n tx e' : Nat} {v : Value} {cs : List Value} (hk : P.underlying tx = some (.slice e')) (h : In (SA.rds sz v n cs) As) : ∀ w, Holds As w → Src P sz tx v n cs w := fun w hw => by
  obtain ⟨O, R, h1⟩ := hw _ h
  exact h1.2.src hk
theorem Src.owns {e sz n tx e' : Nat} {v : Value} {cs : List Value} (hk : P.underlying tx = some (.slice e')) (h : In (SA.owns e sz v n cs) As) : ∀ w, Holds As w → Src P sz tx v n cs w := fun w hw => by
  obtain ⟨O, R, h1⟩ := hw _ h
  exact h1.2.rd.src hk
theorem madeCells_take (z : Array Value) (m k : Nat) (h : k ≤ m) : (madeCells z m).toList.take k = (madeCells z k).toList := by
  simp only [madeCells, Array.toList_map, Array.toList_range]
  rw [← List.map_take, List.take_range, Nat.min_eq_left h]
theorem madeCells_one {z : Array Value} (hz : ∀ u ∈ z.toList, u.oneCell' = true) (hp : 0 < z.size) (n : Nat) : ∀ u ∈ (madeCells z n).toList, u.oneCell' = true := by
  intro u hu
  simp only [madeCells, Array.toList_map, Array.toList_range, List.mem_map] at hu
  obtain ⟨i, _, rfl⟩ := hu
  have : i % z.size < z.size := Nat.mod_lt _ hp
  rw [getElem!_pos z _ this]
  exact hz _ (by simp)
theorem madeCells_rep (v : Value) (n : Nat) : (madeCells #[v] n).toList = List.replicate n v := by
  simp only [madeCells, Array.toList_map, Array.toList_range]
  apply List.ext_getElem
  · simp
  · intro i h1 h2; simp [Nat.mod_one]
/-- 'make([]T, n, cap)' -/
theorem X.makeSlice {t e n c bytes sz : Nat} {z : Value} (ho : o.op = .makeSlice t x y) (E : Elt P t e sz bytes z) (hx : evO F x = some (vN n)) (hy : evO F y = some (vN c)) (hnc : n ≤ c) (hb : c * bytes ≤ 140737488355328) (hm : c ≤ maxLen) :
    Eff P N o F L (fun v L' => ∃ g, v = .slice (some ⟨g, 0, none⟩) n c ∧ L' = SA.owns e sz (.slice (some ⟨g, 0, none⟩) n c) n (madeCells z.cells (n * sz)).toList :: L) := by
  refine ⟨by rw [ho]; simp, fun Y a w ha hw K Q hK => ?_⟩
  unfold Oper.wp execOp; rw [ho]
  replace hx := ha.eval hx
  replace hy := ha.eval hy
  simp only [hx, hy]
  obtain ⟨inf, hi, hz0, rfl, rfl⟩ := info_parts E.hi
  have hm' : c ≤ 9223372036854775807 := by simp only [maxLen] at hm; omega
  have hb' : (inf.bytes : Int) * (c : Int) ≤ 281474976710656 := by
    have : inf.bytes * c ≤ 140737488355328 := by rw [Nat.mul_comm]; exact hb
    rw [← Int.natCast_mul]; omega
  have hrun := run_make (P := P) w t e inf z E.ht hi hz0 .i64 .i64 n c (by omega) (by omega) hb' (by omega)
  simp only [Int.toNat_natCast] at hrun
  generalize Instr.makeSlice t _ _ = s at hrun ⊢
  simp [hrun, go_sem]
  have hle : n * inf.size ≤ c * inf.size := Nat.mul_le_mul_right _ hnc
  exact hK _ _ _ ⟨_, rfl, rfl⟩ (St.up1 (hw.emp.upd fun O R _ _ => ⟨fun k => k = w.heap.size, fun _ => False, ⟨by simp [own], ⟨by simp [size_madeCells], madeCells_one E.zone (by rw [E.hz]; exact E.pos) _,
    .inr ⟨w.heap.size, 0, c, _, rfl, Blk.new w _ e, hnc, hm, by simp [size_madeCells], by rw [List.drop_zero]; exact madeCells_take _ _ _ hle⟩⟩⟩, fun k hk => .inr (by subst hk; simp), by simp, Ag.fr ((Fr.refl [] _).alloc _) (by simp)⟩))
end
end Go.Proofs.Ytomplpdeeomehaa
