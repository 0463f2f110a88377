/- Equality of arrays and of strings, bytes to strings, string constants to bytes. No program is named. -/
import Derived.Test.YtomplpdeeomehaaHParts
import Derived.ChangeKeysEq
import Derived.Laws.BytesString
namespace Go.Proofs.Ytomplpdeeomehaa
set_option linter.unusedVariables false
set_option linter.unusedSimpArgs false
open Go.RowKit

/-- bytes as a string -/
def bstr (l : List UInt8) : ByteArray := ⟨l.toArray⟩
theorem bstr_toList (l : List UInt8) : (bstr l).toList = l := by rw [ByteArray.toList_eq]; simp [bstr]
section
variable {P : Program} {N : Nat} {F : FE} {As L L0 : List SA} {A : SA} {o : Oper} {x y : Operand} {v u : Value}
theorem run_eqItems8 (w : World) (d : Nat) {e : TypeId} {k : IntKind} (hu : P.underlying e = some (.int k)) (l1 l2 : List UInt8) : ∀ is : List Nat, (∀ i ∈ is, i < l1.length ∧ i < l2.length) →
    (Op.eqItems (d + 1) e 1 (l1.map v8).toArray (l2.map v8).toArray is).run P w = .ok (is.all fun i => l1.getD i 0 == l2.getD i 0) w := by
  intro is
  induction is with
  | nil => intro _; simp [Op.eqItems, go_sem]
  | cons i is ih =>
    intro h
    have hi := h i (by simp)
    have g : ∀ (l : List UInt8), i < l.length → (part e (l.map v8).toArray (i * 1)).run P w = .ok (v8 (l.getD i 0)) w := fun l hl => by
      have := getM (f := v8) (d := (0 : UInt8)) hl
      simp only [part, isAgg, Sem.run_bind, run_underlying hu, Nat.mul_one, this]
      simp [go_sem]
    simp only [Op.eqItems, Sem.run_bind, g l1 hi.1, g l2 hi.2, Result.andThen_ok, run_equalIn_int w d e .u8 k _ _ hu, List.all_cons]
    have hb : ((l1.getD i 0).toNat == ((l2.getD i 0).toNat : Int)) = (l1.getD i 0 == l2.getD i 0) := by
      rw [Bool.eq_iff_iff]; simp [← UInt8.toNat_inj]; omega
    rw [hb]
    cases l1.getD i 0 == l2.getD i 0
    · simp [go_sem]
    · simpa using ih fun j hj => h j (by simp [hj])
theorem all_getD {l1 l2 : List UInt8} {n : Nat} (h1 : l1.length = n) (h2 : l2.length = n) : ((List.range n).all fun i => l1.getD i 0 == l2.getD i 0) = decide (l1 = l2) := by
  rw [Bool.eq_iff_iff]
  simp only [List.all_eq_true, List.mem_range, beq_iff_eq, decide_eq_true_eq]
  constructor
  · intro h
    apply List.ext_getElem (by omega)
    intro i hi hi2
    have := h i (by omega)
    simpa [List.getD_eq_getElem?_getD, hi, hi2] using this
  · rintro rfl i _; rfl
theorem Y.cmpArr8 {t yt e n : Nat} {k : IntKind} {l1 l2 : List UInt8} {neg : Bool} (ho : o.op = .binOp (if neg then .neq else .eql) t x y yt) (hu : P.underlying t = some (.array n e)) (he : P.underlying e = some (.int k)) (hz : (P.info? e).map (·.size) = some 1) (hg : P.eqGuardType P.depth t = false)
    (hx : evO F x = some (.agg (l1.map v8).toArray)) (hy : evO F y = some (.agg (l2.map v8).toArray)) (h1 : l1.length = n) (h2 : l2.length = n) : Yld P N o F As (.bool (if neg then !decide (l1 = l2) else decide (l1 = l2))) := fun a w ha _ => by
  unfold execOp; rw [ho]
  replace hx := ha.eval hx
  replace hy := ha.eval hy
  generalize a.eval = ρ at hx hy ⊢
  obtain ⟨inf, hinf, hsz⟩ := Option.map_eq_some_iff.1 hz
  have hc : P.cellsOf e = 1 := by simp [Program.cellsOf, hinf, hsz]
  have h := run_equalIn_array (P := P) (w := w) 9999 (l1.map v8).toArray (l2.map v8).toArray hu hinf
  rw [hc, run_eqItems8 w 9998 he l1 l2 _ (fun i hi => by simp at hi; omega), all_getD h1 h2] at h
  cases neg
  · simp only [Bool.false_eq_true, if_false, hx, hy, Sem.run_bind, run_eqGuard_agg w .eql t x y _ _ hg, Result.andThen_ok, run_eql_struct, h, Sem.run_pure]
  · simp only [if_true, hx, hy, Sem.run_bind, run_eqGuard_agg w .neq t x y _ _ hg, Result.andThen_ok, run_neq_struct, h, Sem.run_pure]
theorem Y.cmpStr {t yt : Nat} {l1 l2 : List UInt8} {neg : Bool} (ho : o.op = .binOp (if neg then .neq else .eql) t x y yt) (hx : evO F x = some (.string (bstr l1))) (hy : evO F y = some (.string (bstr l2))) : Yld P N o F As (.bool (if neg then !decide (l1 = l2) else decide (l1 = l2))) := fun a w ha _ => by
  unfold execOp; rw [ho]
  replace hx := ha.eval hx
  replace hy := ha.eval hy
  generalize a.eval = ρ at hx hy ⊢
  have hb : (l1 == l2) = decide (l1 = l2) := by rw [Bool.eq_iff_iff]; simp
  cases neg
  · simp [hx, hy, eqGuard, binOp, Op.stringOp, bstr_toList, hb, go_sem]
  · simp [hx, hy, eqGuard, binOp, Op.stringOp, bstr_toList, hb, go_sem]
theorem Y.eqArr8 {t yt e n : Nat} {k : IntKind} {l1 l2 : List UInt8} (ho : o.op = .binOp .eql t x y yt) (hu : P.underlying t = some (.array n e)) (he : P.underlying e = some (.int k)) (hz : (P.info? e).map (·.size) = some 1) (hg : P.eqGuardType P.depth t = false)
    (hx : evO F x = some (.agg (l1.map v8).toArray)) (hy : evO F y = some (.agg (l2.map v8).toArray)) (h1 : l1.length = n) (h2 : l2.length = n) : Yld P N o F As (.bool (decide (l1 = l2))) := Y.cmpArr8 (neg := false) ho hu he hz hg hx hy h1 h2
theorem Y.neArr8 {t yt e n : Nat} {k : IntKind} {l1 l2 : List UInt8} (ho : o.op = .binOp .neq t x y yt) (hu : P.underlying t = some (.array n e)) (he : P.underlying e = some (.int k)) (hz : (P.info? e).map (·.size) = some 1) (hg : P.eqGuardType P.depth t = false)
    (hx : evO F x = some (.agg (l1.map v8).toArray)) (hy : evO F y = some (.agg (l2.map v8).toArray)) (h1 : l1.length = n) (h2 : l2.length = n) : Yld P N o F As (.bool (!decide (l1 = l2))) := Y.cmpArr8 (neg := true) ho hu he hz hg hx hy h1 h2
theorem Y.eqStr {t yt : Nat} {l1 l2 : List UInt8} (ho : o.op = .binOp .eql t x y yt) (hx : evO F x = some (.string (bstr l1))) (hy : evO F y = some (.string (bstr l2))) : Yld P N o F As (.bool (decide (l1 = l2))) := Y.cmpStr (neg := false) ho hx hy
theorem Y.neStr {t yt : Nat} {l1 l2 : List UInt8} (ho : o.op = .binOp .neq t x y yt) (hx : evO F x = some (.string (bstr l1))) (hy : evO F y = some (.string (bstr l2))) : Yld P N o F As (.bool (!decide (l1 = l2))) := Y.cmpStr (neg := true) ho hx hy
theorem foldl_push0 (l : List UInt8) : ∀ s : ByteArray, (l.map fun b => (b.toNat : Int)).foldl (fun r n => r.push (UInt8.ofNat n.toNat)) s = ⟨(s.data.toList ++ l).toArray⟩ := by
  induction l with
  | nil => intro s; simp
  | cons b r ih => intro s; simp only [List.map_cons, List.foldl_cons]; rw [ih]; simp [ByteArray.push]
theorem foldl_push (l : List UInt8) : (l.map fun b => (b.toNat : Int)).foldl (fun r n => r.push (UInt8.ofNat n.toNat)) ByteArray.empty = ⟨l.toArray⟩ := by
  rw [foldl_push0]; rfl
theorem Y.str {s d e : Nat} {a : Option Addr} {n cap : Nat} {l : List UInt8} (ho : o.op = .convert s d x) (hs : P.underlying s = some (.slice e)) (hd : P.underlying d = some .string) (he : P.underlying e = some (.int .u8)) (hx : evO F x = some (.slice a n cap)) (hA : Reads A 1 (.slice a n cap) n (l.map v8)) (hin : In A As) : Yld P N o F As (.string (bstr l)) := fun a' w ha hw => by
  unfold execOp; rw [ho]
  replace hx := ha.eval hx
  generalize a'.eval = ρ at hx ⊢
  obtain ⟨O, R, h1⟩ := hw _ hin
  have hR := hA _ _ _ h1
  obtain ⟨b, c, hv, h2, h3, h4, h5⟩ := hR.val
  have hl := hR.len
  cases hv
  have hrun : (Conv.bytesToString (.slice a n cap)).run P w = .ok (.string (bstr l)) w := by
    cases a with
    | none =>
      obtain ⟨rfl, rfl⟩ := h4 rfl
      obtain rfl : l = [] := by simpa using hl
      simp [Conv.bytesToString, go_sem]; rfl
    | some p =>
      have hld := run_loadCells_list (P := P) (w := w) p (l.map v8) (h5 p rfl)
      rw [hl, Nat.mul_one] at hld
      have e1 : l.map v8 = (l.map fun b => (b.toNat : Int)).map (Value.int .u8) := by simp
      rw [run_bytesToString w p n cap (l.map fun b => (b.toNat : Int)) (by rw [hld, e1]), foldl_push, ← bstr]
  have hcv := run_convert_bytes_string (P := P) w s d e a n cap hs he hd
  rw [hrun] at hcv
  simp only [hx, Sem.run_bind, hcv, Result.andThen_ok, Sem.run_pure]
theorem Ag.freeze {S : Nat → Prop} (w : World) (g m : Nat) (hS : ∀ k, S k → k ≠ g) : Ag S w (w.freeze ⟨g, m, none⟩ 1) := by
  refine ⟨rfl, rfl, rfl, by simp [World.freeze], fun k hk hs => ?_⟩
  simp only [World.freeze]
  rw [if_neg (by decide)]
  show (w.heap.modify g _)[k]? = _
  rw [Array.getElem?_modify, if_neg (fun e => hS k hs e.symm)]
theorem cell_freeze (w : World) (g m : Nat) (p : Addr) : (w.freeze ⟨g, m, none⟩ 1).cell? p = w.cell? p := by
  simp only [World.freeze, World.cell?]
  rw [if_neg (by decide)]
  show (match (w.heap.modify g _)[p.block]? with | some (.cells c _ _) => _ | _ => none) = _
  rw [Array.getElem?_modify]
  by_cases h : g = p.block
  · rw [if_pos h]
    cases hq : w.heap[p.block]? with
    | none => rfl
    | some o => cases o <;> rfl
  · rw [if_neg h]; rfl
/-- '[]byte("..")' -/
theorem X.mark {t e e' g off n cap : Nat} {cs : List Value} (ho : o.op = .convert t t x) (hu : P.underlying t = some (.slice e)) (he : P.underlying e = some (.int .u8)) (hx : evO F x = some (.slice (some ⟨g, off, none⟩) n cap)) (hp : Pull (SA.owns e' 1 (.slice (some ⟨g, off, none⟩) n cap) n cs) L L0) :
    Eff P N o F L (fun v L' => v = .slice (some ⟨g, off, none⟩) n cap ∧ L' = SA.rds 1 (.slice (some ⟨g, off, none⟩) n cap) n cs :: L0) := by
  refine ⟨by rw [ho]; simp, fun Y a w ha hw K Q hK => ?_⟩
  unfold Oper.wp execOp; rw [ho]
  replace hx := ha.eval hx
  generalize a.eval = ρ at hx ⊢
  have hst := (Pull.there (B := Y) hp).st hw
  obtain ⟨O, R, h, _⟩ := hst.hd
  rcases h.2.val with ⟨hv, _⟩ | ⟨g', off', cap', arr, hv, hb, h2, h3, h4, h5⟩
  · cases hv
  · cases hv
    have hh : w.heap[g]? = some (.cells arr e' (0, 0)) := hb
    have hrun : (convert t t (.slice (some ⟨g, off, none⟩) n cap)).run P w = .ok (.slice (some ⟨g, off, none⟩) n cap) (w.freeze ⟨g, arr.size, none⟩ 1) := by
      have hs : w.shape? g = some (e', arr.size) := by simp [World.shape?, hh]
      unfold convert
      simp only [Sem.run_bind, run_underlying hu, Result.andThen_ok, beq_self_eq_true, run_underlying he]
      simp only [markStringish, shape, Sem.run_bind, Sem.run, hs, Result.andThen_ok, freeze, Sem.run_pure]
    simp only [hx, Sem.run_bind, hrun, Result.andThen_ok, Sem.run_pure]
    refine hK _ _ _ ⟨rfl, rfl⟩ (St.up1 (hst.upd fun O R hA _ => ⟨fun _ => False, O, ⟨fun _ => hA.1, ?_⟩, fun k hk => hk.elim, fun k hk => .inl hk, Ag.freeze w g arr.size (fun k hk e => hk (hA.1 k (by simp [own, e])))⟩))
    have hrd := hA.2.rd
    refine ⟨hrd.len, hrd.one, ?_⟩
    obtain ⟨a', c', hv', k1, k2, k3, k4⟩ := hrd.val
    refine ⟨a', c', hv', k1, k2, k3, fun b hb j u hj => ?_⟩
    rw [cell_freeze]; exact k4 b hb j u hj
/-! ### the beginning and the end of a statement's walk -/
theorem St.args (w : World) : ∀ As : List SA, (∀ A, In A As → ∃ R, A.p w (fun _ => False) R ∧ ∀ k, R k → k < w.heap.size) → St (As ++ [SA.old w]) w := by
  intro As h
  refine ⟨fun _ => False, fun k => k < w.heap.size, ?_, fun k hk => hk.elim (fun h => h.elim) id⟩
  induction As with
  | nil => exact ⟨fun _ => False, fun k => k < w.heap.size, fun _ => False, fun _ => False, ⟨fun _ h => h, Fr.refl _ _⟩, trivial, by simp, by simp, by simp, by simp⟩
  | cons A As ih =>
    obtain ⟨R, hA, hR⟩ := h A .here
    exact ⟨fun _ => False, R, fun _ => False, fun k => k < w.heap.size, hA, ih fun B hB => h B (.there hB), by simp, by simp, hR, fun k hk => hk⟩
theorem Rd.arg {w : World} {sz n : Nat} {v : Value} {cs : List Value} (h : Rd w sz v n cs) (hp : 0 < sz) : ∃ R, (SA.rds sz v n cs).p w (fun _ => False) R ∧ ∀ k, R k → k < w.heap.size := by
  refine ⟨fun k => n ≠ 0 ∧ k ∈ own v, ⟨fun hn k hk => ⟨hn, hk⟩, h⟩, fun k hk => ?_⟩
  obtain ⟨a, cap, rfl, h1, h2, h3, h4⟩ := h.val
  obtain ⟨hn, hk⟩ := hk
  cases a with
  | none => simp [own] at hk
  | some b =>
    simp [own] at hk
    subst hk
    have hl := h.len
    have hpos : 0 < cs.length := by rw [hl]; exact Nat.mul_pos (by omega) hp
    have := h4 b rfl 0 cs[0] (by simp [hpos])
    have := World.block_lt_of_cell? w _ this
    rwa [add_block] at this
theorem Fn.top {f : FuncId} {args : List Value} {As : List SA} {w : World} (h : Fn P f args (As ++ [SA.old w]) (fun v L' => v = .bool true ∧ In (SA.old w) L')) (hA : ∀ A, In A As → ∃ R, A.p w (fun _ => False) R ∧ ∀ k, R k → k < w.heap.size) :
    Calls P f args.toArray w fun e w' => e = .returned (.bool true) ∧ Fr [] w w' :=
  (h SA.emp w (St.args w As hA).emp).mono fun e w' ⟨v, L', he, ⟨hv, hin⟩, hst⟩ => by
    subst hv
    obtain ⟨O, R, h1⟩ := hst.tl.holds _ hin
    exact ⟨he, h1.2⟩
theorem In.nil_elim {A : SA} {C : Prop} (h : In A []) : C := by cases h
theorem In.one {A B : SA} (h : In A [B]) : A = B := by
  cases h with
  | here => rfl
  | there h => cases h
theorem In.two {A B C : SA} (h : In A [B, C]) : A = B ∨ A = C := by
  cases h with
  | here => exact .inl rfl
  | there h => exact .inr h.one
theorem Y.sliceHi2 {t e sz n cap k : Nat} {a : Option Addr} (ho : o.op = .slice t x none (some y) none) (hu : P.underlying t = some (.slice e)) (hs : (P.info? e).map (·.size) = some sz) (hx : evO F x = some (.slice a n cap)) (hy : evO F y = some (vN k)) (hk : k ≤ cap) : Yld P N o F As (.slice a k cap) := by
  have h := Y.sliceHi (N := N) (As := As) ho hu hs hx hy hk
  have e : cutV a cap 0 k sz = .slice a k cap := by
    unfold cutV
    cases a <;> simp [Addr.add]
  rwa [e] at h
theorem Ent.takeRds {sz n cap k : Nat} {a : Option Addr} {cs : List Value} (hk : k ≤ n) : Ent (SA.rds sz (.slice a n cap) n cs :: L) (SA.rds sz (.slice a k cap) k (cs.take (k * sz)) :: L) := Ent.imp fun w O R h =>
  ⟨O, R, ⟨fun hn x hx => h.1 (by omega) x (by cases a with | none => exact hx | some b => exact hx), h.2.take hk⟩, fun _ h => h, fun _ h => .inr h⟩
theorem Y.minN {m n : Nat} {at' : Array TypeId} (ho : o.op = .call { callee := .builtin .min, args := #[x, y], argTypes := at' }) (hx : evO F x = some (vN m)) (hy : evO F y = some (vN n)) : Yld P N o F As (vN (min m n)) := fun a w ha hw => by
  unfold execOp; rw [ho]
  replace hx := ha.eval hx
  replace hy := ha.eval hy
  generalize a.eval = ρ at hx hy ⊢
  have h : (if (n : Int) < (m : Int) then (n : Int) else (m : Int)) = ((min m n : Nat) : Int) := by split <;> omega
  simp [resolve, invoke, builtin, hx, hy, Builtin.min_, Builtin.min2, Result.andThen, Oper.upon, go_sem]
  split <;> omega
end
end Go.Proofs.Ytomplpdeeomehaa
