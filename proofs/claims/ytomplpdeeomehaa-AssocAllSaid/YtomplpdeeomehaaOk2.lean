/- The logic and the walks, in one text with others: part 2 of 6. -/
import Derived.MapKept
import Derived.Test.YtomplpdeeomehaaChecked
import Derived.Test.YtomplpdeeomehaaOk1
/- Maps from uint32 to structs of data, as functions. No program is named. -/
namespace Go.Proofs.Ytomplpdeeomehaa
set_option linter.unusedVariables false
set_option linter.unusedSimpArgs false
open Go.RowKit Go.MapKept
section
variable {β : Type} [Dat β]
def EntsOf (es : Array MapEntry) (l : List (UInt32 × β)) : Prop := es.toList.map (fun e => (e.key, e.val)) = l.map fun x => (v32 x.1, Value.agg (Dat.c x.2).toArray)
def mget (l : List (UInt32 × β)) (k : UInt32) : Option β := (l.find? fun x => x.1 == k).map (·.2)
def SA.mapD (b : Nat) (m : UInt32 → Option β) : SA where
  p w O R := O b ∧ ∃ (es : Array MapEntry) (clock : Nat) (l : List (UInt32 × β)), w.heap[b]? = some (.map es clock) ∧ EntsOf es l ∧ (∀ k, m k = mget l k) ∧ (l.map fun x : UInt32 × β => x.1).Nodup ∧ (SA.rdss (l.flatMap fun x => Dat.g x.2)).p w (fun _ => False) (fun k => R k ∧ k ≠ b)
  loc := by
    rintro w w' O R ⟨hO, es, clock, l, h1, h2, h3, h4, h5⟩ hg
    exact ⟨hO, es, clock, l, (hg.block b (Array.getElem?_eq_some_iff.1 h1).1 (.inl hO)).trans h1, h2, h3, h4, (SA.rdss _).loc h5 (hg.mono fun k _ hk => hk.elim (fun h => h.elim) fun h => .inr h.1)⟩
omit [Dat β] in
theorem key_ne {l : List (UInt32 × β)} (hn : (l.map (·.1)).Nodup) {i j : Nat} (hij : i < j) {x y : UInt32 × β} (hx : l[i]? = some x) (hy : l[j]? = some y) : x.1 ≠ y.1 := by
  obtain ⟨hi, hxe⟩ := List.getElem?_eq_some_iff.1 hx
  obtain ⟨hj, hye⟩ := List.getElem?_eq_some_iff.1 hy
  have := List.pairwise_iff_getElem.1 hn i j (by simpa using hi) (by simpa using hj) hij
  simpa [hxe, hye] using this
omit [Dat β] in
theorem mget_some {l : List (UInt32 × β)} {k : UInt32} {x : β} (h : mget l k = some x) : ∃ i : Nat, l[i]? = some (k, x) := by
  unfold mget at h
  cases hf : l.find? fun x => x.1 == k with
  | none => rw [hf] at h; cases h
  | some y =>
    rw [hf] at h
    obtain ⟨i, hi⟩ := List.mem_iff_getElem?.1 (List.mem_of_find?_eq_some hf)
    have hk := List.find?_some hf
    simp only [beq_iff_eq] at hk
    cases h
    exact ⟨i, by rw [hi, ← hk]⟩
omit [Dat β] in
theorem mget_at {l : List (UInt32 × β)} (hn : (l.map (·.1)).Nodup) {i : Nat} {k : UInt32} {x : β} (h : l[i]? = some (k, x)) : mget l k = some x := by
  unfold mget
  have : l.find? (fun x => x.1 == k) = some (k, x) := by
    rw [List.find?_eq_some_iff_getElem]
    obtain ⟨hi, he⟩ := List.getElem?_eq_some_iff.1 h
    refine ⟨by simp, i, hi, he, fun j hj => ?_⟩
    have hjl : j < l.length := by omega
    have := key_ne hn hj (List.getElem?_eq_getElem hjl) h
    simp [this]
  rw [this]; rfl
omit [Dat β] in
theorem mget_none {l : List (UInt32 × β)} {k : UInt32} : mget l k = none ↔ ∀ x ∈ l, x.1 ≠ k := by
  unfold mget
  rw [Option.map_eq_none_iff, List.find?_eq_none]
  simp
theorem EntsOf.get {es : Array MapEntry} {l : List (UInt32 × β)} (h : EntsOf es l) {i : Nat} {e : MapEntry} (he : es[i]? = some e) : ∃ k x, l[i]? = some (k, x) ∧ e.key = v32 k ∧ e.val = .agg (Dat.c x).toArray := by
  have := congrArg (fun q => q[i]?) h
  simp only [List.getElem?_map, Array.getElem?_toList, he, Option.map_some] at this
  cases hl : l[i]? with
  | none => rw [hl] at this; cases this
  | some y =>
    rw [hl] at this
    simp only [Option.map_some, Option.some.injEq, Prod.mk.injEq] at this
    exact ⟨y.1, y.2, rfl, this.1, this.2⟩
theorem EntsOf.isKey {es : Array MapEntry} {l : List (UInt32 × β)} (h : EntsOf es l) : ∀ x ∈ es.toList, IsKey (.int .u32) x.key := fun x hx => by
  obtain ⟨i, hi⟩ := List.mem_iff_getElem?.1 hx
  obtain ⟨k, y, -, hk, -⟩ := h.get (by simpa using hi)
  rw [hk]; rfl
theorem v32_inj {a b : UInt32} (h : v32 a = v32 b) : a = b := by
  simp only [v32, Value.int.injEq, true_and] at h
  exact UInt32.toNat_inj.1 (by omega)
theorem EntsOf.find {es : Array MapEntry} {l : List (UInt32 × β)} (h : EntsOf es l) (hn : (l.map (·.1)).Nodup) (k : UInt32) :
    (Instr.findNow (.int .u32) (v32 k) es.toList 0 = some none ∧ mget l k = none) ∨ ∃ j e x, Instr.findNow (.int .u32) (v32 k) es.toList 0 = some (some (j, .agg (Dat.c x).toArray)) ∧ es[j]? = some e ∧ e.key = v32 k ∧ l[j]? = some (k, x) ∧ mget l k = some x := by
  rcases findNow_spec (k := v32 k) (d := .int .u32) rfl es.toList 0 h.isKey with ⟨h1, h2⟩ | ⟨j, e, h1, h2, h3⟩
  · refine .inl ⟨h1, mget_none.2 fun x hx e => ?_⟩
    obtain ⟨i, hi⟩ := List.mem_iff_getElem?.1 hx
    have := congrArg (fun q => q[i]?) h
    simp only [List.getElem?_map, hi, Option.map_some] at this
    cases he : es.toList[i]? with
    | none => rw [he] at this; cases this
    | some y =>
      rw [he] at this
      simp only [Option.map_some, Option.some.injEq, Prod.mk.injEq] at this
      exact h2 y (List.mem_of_getElem? he) (by rw [this.1, e])
  · have he : es[j]? = some e := by simpa using h2
    obtain ⟨k', x, hl, hk, hv⟩ := h.get he
    have hkk : k' = k := v32_inj (hk.symm.trans h3)
    subst hkk
    refine .inr ⟨j, e, x, ?_, he, hk, hl, mget_at hn hl⟩
    rw [h1, hv, Nat.zero_add]
theorem EntsOf.push {es : Array MapEntry} {l : List (UInt32 × β)} (h : EntsOf es l) (k : UInt32) (x : β) (c : Nat) : EntsOf (es.push { key := v32 k, val := .agg (Dat.c x).toArray, born := c }) (l ++ [(k, x)]) := by
  unfold EntsOf at *
  rw [Array.toList_push, List.map_append, h, List.map_append]; rfl
theorem EntsOf.set {es : Array MapEntry} {l : List (UInt32 × β)} (h : EntsOf es l) {i : Nat} {e : MapEntry} {k : UInt32} {y : β} (x : β) (he : es[i]? = some e) (hl : l[i]? = some (k, y)) : EntsOf (es.modify i fun e => { e with key := v32 k, val := .agg (Dat.c x).toArray }) (l.set i (k, x)) := by
  unfold EntsOf at *
  apply List.ext_getElem?
  intro j
  have hj := congrArg (fun q => q[j]?) h
  simp only [List.getElem?_map, Array.getElem?_toList, Array.getElem?_modify, List.getElem?_set] at hj ⊢
  by_cases hij : i = j
  · subst hij
    have hi := (List.getElem?_eq_some_iff.1 hl).1
    simp [he, hi]
  · simp only [hij, if_false]; exact hj
theorem EntsOf.erase {es : Array MapEntry} {l : List (UInt32 × β)} (h : EntsOf es l) (i : Nat) : EntsOf (es.eraseIdxIfInBounds i) (l.eraseIdx i) := by
  unfold EntsOf at *
  have hl : es.toList.length = l.length := by simpa using congrArg List.length h
  have e0 : (es.eraseIdxIfInBounds i).toList = es.toList.eraseIdx i := by
    unfold Array.eraseIdxIfInBounds
    split
    · simp
    · rename_i hi; rw [List.eraseIdx_of_length_le (by simpa using hi)]
  rw [e0]
  apply List.ext_getElem?
  intro j
  have h1 := congrArg (fun q => q[j]?) h
  have h2 := congrArg (fun q => q[j + 1]?) h
  simp only [List.getElem?_map] at h1 h2
  simp only [List.getElem?_map, List.getElem?_eraseIdx]
  split
  · exact h1
  · exact h2
omit [Dat β] in
theorem mget_push {l : List (UInt32 × β)} {k q : UInt32} {x : β} (h : mget l k = none) : mget (l ++ [(k, x)]) q = if q = k then some x else mget l q := by
  unfold mget at *
  rw [List.find?_append]
  by_cases hq : q = k
  · subst hq
    rw [Option.map_eq_none_iff] at h
    rw [h]; simp
  · have : ([(k, x)] : List (UInt32 × β)).find? (fun x => x.1 == q) = none := by simp [Ne.symm hq]
    rw [this, Option.or_none, if_neg hq]
omit [Dat β] in
theorem mget_set {l : List (UInt32 × β)} (hn : (l.map (·.1)).Nodup) {i : Nat} {k q : UInt32} {x y : β} (h : l[i]? = some (k, y)) : mget (l.set i (k, x)) q = if q = k then some x else mget l q := by
  have hi := (List.getElem?_eq_some_iff.1 h).1
  have hk : (l.set i (k, x)).map (·.1) = l.map (·.1) := by
    apply List.ext_getElem?
    intro j
    simp only [List.getElem?_map, List.getElem?_set]
    by_cases hij : i = j
    · subst hij
      have he := (List.getElem?_eq_some_iff.1 h).2
      simp [hi, he]
    · simp [hij]
  by_cases hq : q = k
  · subst hq
    rw [if_pos rfl]
    exact mget_at (by rw [hk]; exact hn) (i := i) (by rw [List.getElem?_set]; simp [hi])
  · rw [if_neg hq]
    cases hm : mget l q with
    | none =>
      rw [mget_none] at hm ⊢
      intro z hz
      rcases List.mem_or_eq_of_mem_set hz with hz | rfl
      · exact hm z hz
      · exact fun e => hq e.symm
    | some z =>
      obtain ⟨j, hj⟩ := mget_some hm
      have hij : i ≠ j := fun e => by subst e; rw [h] at hj; cases hj; exact hq rfl
      exact mget_at (by rw [hk]; exact hn) (i := j) (by rw [List.getElem?_set]; simp [hij, hj])
omit [Dat β] in
theorem mget_erase {l : List (UInt32 × β)} (hn : (l.map (·.1)).Nodup) {i : Nat} {k q : UInt32} {y : β} (h : l[i]? = some (k, y)) : mget (l.eraseIdx i) q = if q = k then none else mget l q := by
  have hs : (l.eraseIdx i).Sublist l := List.eraseIdx_sublist _ _
  have hn' : ((l.eraseIdx i).map (·.1)).Nodup := (hs.map _).nodup hn
  have hmem : ∀ z ∈ l.eraseIdx i, z.1 ≠ k := by
    intro z hz e
    obtain ⟨j, hj, hji⟩ := List.mem_eraseIdx_iff_getElem?.1 hz
    rcases Nat.lt_or_ge j i with hlt | hge
    · exact key_ne hn hlt hji h e
    · exact key_ne hn (show i < j by omega) h hji e.symm
  by_cases hq : q = k
  · subst hq
    rw [if_pos rfl]
    exact mget_none.2 hmem
  · rw [if_neg hq]
    cases hm : mget l q with
    | none => exact mget_none.2 fun z hz => mget_none.1 hm z (hs.subset hz)
    | some z =>
      obtain ⟨j, hj⟩ := mget_some hm
      have hij : j ≠ i := fun e => by subst e; rw [h] at hj; cases hj; exact hq rfl
      obtain ⟨j', hj'⟩ := List.mem_iff_getElem?.1 (List.mem_eraseIdx_iff_getElem?.2 ⟨j, hij, hj⟩)
      exact mget_at hn' hj'
end
section
variable {P : Program} {N : Nat} {F : FE} {As L L0 : List SA} {o : Oper} {x y z : Operand} {β : Type} [Dat β]
theorem In.p {A : SA} {As : List SA} {w : World} (h : In A As) (hw : Holds As w) : ∃ O R, A.p w O R := hw A h
theorem Y.lookup {t kt et b : Nat} {m : UInt32 → Option β} {k : UInt32} {zc : Array Value} (ho : o.op = .lookup t x y true) (ht : P.underlying t = some (.map kt et)) (hk : P.underlying kt = some (.int .u32)) (hz : ((P.info? et).bind (·.zero)) = some (.agg zc))
    (hx : evO F x = some (.map (some b))) (hy : evO F y = some (v32 k)) (hin : In (SA.mapD b m) As) : Yld P N o F As (.tuple #[(match m k with | some v => .agg (Dat.c v).toArray | none => .agg zc), .bool (m k).isSome]) := fun a w ha hw => by
  unfold execOp; rw [ho]
  replace hx := ha.eval hx
  replace hy := ha.eval hy
  generalize a.eval = ρ at hx hy ⊢
  obtain ⟨O, R, -, es, clock, l, hb, he, hm, hn, -⟩ := hw _ hin
  obtain ⟨inf, hinf, hzz⟩ := Option.bind_eq_some_iff.1 hz
  simp only [hx, hy]
  rcases he.find hn k with ⟨h1, h2⟩ | ⟨j, e, v, h1, -, -, -, h2⟩
  · have hmk : m k = none := (hm k).trans h2
    have hzv : (zeroValue et).run P w = .ok (.agg zc) w := by simp [zeroValue, typeInfo, hinf, hzz, go_sem]
    simp [Instr.lookup, run_underlying ht, Go.MapKept.run_getObj_map hb, run_checkKey (k := v32 k) hk rfl, run_findKey hk h1, hzv, hmk, Result.andThen]
  · have hmk : m k = some v := (hm k).trans h2
    simp [Instr.lookup, run_underlying ht, Go.MapKept.run_getObj_map hb, run_checkKey (k := v32 k) hk rfl, run_findKey hk h1, hmk, Result.andThen]
theorem Ent.mapGet {b : Nat} {m : UInt32 → Option β} {k : UInt32} {v : β} (h : m k = some v) : Ent (SA.mapD b m :: L) (SA.dat v :: SA.mapD b m :: L) := by
  have h1 : Ent (SA.mapD b m :: L) (SA.star (SA.dat v) (SA.mapD b m) :: L) := Ent.imp fun w O R hA => by
    obtain ⟨hO, es, clock, l, hb, he, hm, hn, hr⟩ := hA
    refine ⟨fun k => k = b, R, ⟨fun _ => False, fun k => R k ∧ k ≠ b, fun k => k = b, R, ?_, ⟨rfl, es, clock, l, hb, he, hm, hn, hr⟩, fun q hq => hq.elim, fun q hq => ⟨hq, fun hf => hf.2 hq⟩, fun q hq => hq.1, fun q hq => hq⟩, fun k hk => hk ▸ hO, fun _ h => .inr h⟩
    obtain ⟨i, hi⟩ := mget_some ((hm k).symm.trans h)
    exact fun q hq => hr q (List.mem_flatMap.2 ⟨(k, v), List.mem_of_getElem? hi, hq⟩)
  exact h1.trans (Ent.of_le (L := SA.star (SA.dat v) (SA.mapD b m) :: L) (L' := SA.dat v :: SA.mapD b m :: L) SA.Le.assoc)
theorem heapSet_fr {w : World} {b : Nat} (o : Obj) : Fr [b] w { w with heap := w.heap.setIfInBounds b o } := ⟨rfl, rfl, rfl, by simp, fun k hk hn => by
  have : b ≠ k := fun e => hn (by simp [e])
  simp [this]⟩
theorem X.makeMap {t : TypeId} (ho : o.op = .makeMap t none) : Eff P N o F L (fun v L' => ∃ b, v = .map (some b) ∧ L' = SA.mapD b (fun _ => (none : Option β)) :: L) := by
  refine ⟨by rw [ho]; simp, fun Y a w ha hw K Q hK => ?_⟩
  unfold Oper.wp execOp; rw [ho]
  have hr : (Instr.makeMap t none).run P w = .ok (.map (some w.heap.size)) (w.alloc (.map #[] 0)) := rfl
  simp only [Option.map_none, hr, Sem.run_bind, Result.andThen_ok, Sem.run_pure]
  refine hK _ _ _ ⟨_, rfl, rfl⟩ (St.up1 (hw.emp.upd fun O R _ _ => ⟨fun k => k = w.heap.size, fun _ => False, ⟨rfl, #[], 0, [], (heap_alloc w _).1, rfl, fun _ => rfl, List.nodup_nil, fun q hq => by simp at hq⟩, fun k hk => .inr (by subst hk; simp), by simp, Ag.fr ((Fr.refl [] _).alloc _) (by simp)⟩))
theorem mapD_step {Y : SA} {w w' : World} {b : Nat} {m m' : UInt32 → Option β} {gs : List G} (hw : St (Y :: SA.rdss gs :: SA.mapD b m :: L) w) (hf : Fr [b] w w')
    (h : ∀ es clock (l : List (UInt32 × β)), w.heap[b]? = some (.map es clock) → EntsOf es l → (∀ k, m k = mget l k) → (l.map fun x : UInt32 × β => x.1).Nodup →
      ∃ es' clock' l', w'.heap[b]? = some (.map es' clock') ∧ EntsOf es' l' ∧ (∀ k, m' k = mget l' k) ∧ (l'.map fun x : UInt32 × β => x.1).Nodup ∧ ∀ x ∈ l', x ∈ l ∨ ∀ q ∈ Dat.g x.2, q ∈ gs) :
    St (Y :: SA.mapD b m' :: L) w' := by
  have h1 : St (SA.star (SA.rdss gs) (SA.mapD b m) :: Y :: L) w := St.unstar (St.up2 (St.up2 hw))
  refine St.up1 (h1.upd fun O R hA _ => ?_)
  obtain ⟨O1, R1, O2, R2, hD, ⟨hO, es, clock, l, hb, he, hm, hn, hr⟩, r1, r2, r3, r4⟩ := hA
  obtain ⟨es', clock', l', hb', he', hm', hn', hsub⟩ := h es clock l hb he hm hn
  have hnb : ∀ k, R1 k → k ≠ b := fun k hk e => (r2 b hO).2 (e ▸ hk)
  refine ⟨fun k => k = b, fun k => R1 k ∨ R2 k, ⟨rfl, es', clock', l', hb', he', hm', hn', ?_⟩, fun k hk => .inl (hk ▸ (r2 b hO).1), fun k hk => .inr (.inl (hk.elim (r3 k) (r4 k))), Ag.fr hf (fun k hk e => by
    simp at e; subst e; exact hk (r2 k hO).1)⟩
  refine (SA.rdss _).loc (w := w) ?_ (Ag.fr hf (fun k hk e => by
    simp at e; subst e; exact hk.elim (fun h => h) fun h => h.2 rfl))
  intro q hq
  obtain ⟨x, hx, hq⟩ := List.mem_flatMap.1 hq
  rcases hsub x hx with hx | hx
  · have := hr q (List.mem_flatMap.2 ⟨x, hx, hq⟩)
    exact ⟨fun hn k hk => ⟨.inr (this.1 hn k hk).1, (this.1 hn k hk).2⟩, this.2⟩
  · have := hD q (hx q hq)
    exact ⟨fun hn k hk => ⟨.inl (this.1 hn k hk), hnb k (this.1 hn k hk)⟩, this.2⟩
def mput (m : UInt32 → Option β) (k : UInt32) (v : β) (q : UInt32) : Option β := if q = k then some v else m q
def mdel (m : UInt32 → Option β) (k : UInt32) (q : UInt32) : Option β := if q = k then none else m q
theorem X.mapPut {t kt et b : Nat} {m : UInt32 → Option β} {k : UInt32} {v : β} {vc : Array Value} (ho : o.op = .mapUpdate t x y z) (ht : P.underlying t = some (.map kt et)) (hk : P.underlying kt = some (.int .u32))
    (hx : evO F x = some (.map (some b))) (hy : evO F y = some (v32 k)) (hz : evO F z = some (.agg vc)) (hvc : vc = (Dat.c v).toArray) (h1 : Pull (SA.mapD b m) L L0) {L1 : List SA} (h2 : Pull (SA.dat v) L0 L1) : Eff P N o F L (fun _ L' => L' = SA.mapD b (mput m k v) :: L1) := by
  subst hvc
  refine ⟨by rw [ho]; simp, fun Y a w ha hw K Q hK => ?_⟩
  unfold Oper.wp execOp; rw [ho]
  replace hx := ha.eval hx
  replace hy := ha.eval hy
  replace hz := ha.eval hz
  generalize a.eval = ρ at hx hy hz ⊢
  have hst : St (Y :: SA.rdss (Dat.g v) :: SA.mapD b m :: L1) w := St.up1 ((Pull.there (B := Y) (Pull.there (B := SA.mapD b m) h2)).st (St.up1 ((Pull.there (B := Y) h1).st hw)))
  obtain ⟨O, R, ⟨-, es, clock, l, hb, he, hm, hn, -⟩, -⟩ := hst.tl.tl.hd
  simp only [hx, hy, hz]
  rcases he.find hn k with ⟨f1, f2⟩ | ⟨j, e, y0, f1, f2, f3, f4, f5⟩
  · have hr : (Instr.mapUpdate t (.map (some b)) (v32 k) (.agg (Dat.c v).toArray)).run P w = .ok () { w with heap := w.heap.setIfInBounds b (.map (es.push { key := v32 k, val := .agg (Dat.c v).toArray, born := clock }) (clock + 1)) } := by
      simp [Instr.mapUpdate, run_underlying ht, Go.MapKept.run_getObj_map hb, run_checkKey (k := v32 k) hk rfl, run_findKey hk f1, run_setObj_map _ hb, Result.andThen]
    generalize Instr.mapUpdate t _ _ _ = q at hr ⊢
    simp only [hr, Sem.run_bind, Result.andThen_ok, Sem.run_pure]
    refine hK _ _ _ rfl (mapD_step hst (heapSet_fr _) fun es' clock' l' hb' he' hm' hn' => ?_)
    rw [hb] at hb'
    obtain ⟨rfl, rfl⟩ : es = es' ∧ clock = clock' := by cases hb'; exact ⟨rfl, rfl⟩
    have hf2 : mget l' k = none := by rw [← hm', hm, f2]
    refine ⟨_, _, l' ++ [(k, v)], (heap_set hb).1, he'.push k v clock, fun q => by rw [mget_push hf2, ← hm']; rfl, ?_, fun x hx => ?_⟩
    · rw [List.map_append]
      refine List.nodup_append.2 ⟨hn', by simp, ?_⟩
      intro a ha c hc
      simp only [List.map_cons, List.map_nil, List.mem_singleton] at hc
      subst hc
      obtain ⟨x, hx, rfl⟩ := List.mem_map.1 ha
      exact mget_none.1 hf2 x hx
    · rcases List.mem_append.1 hx with hx | hx
      · exact .inl hx
      · rw [List.mem_singleton] at hx; subst hx; exact .inr fun q hq => hq
  · have hr : (Instr.mapUpdate t (.map (some b)) (v32 k) (.agg (Dat.c v).toArray)).run P w = .ok () { w with heap := w.heap.setIfInBounds b (.map (es.modify j fun e => { e with key := v32 k, val := .agg (Dat.c v).toArray }) clock) } := by
      simp [Instr.mapUpdate, run_underlying ht, Go.MapKept.run_getObj_map hb, run_checkKey (k := v32 k) hk rfl, run_findKey hk f1, f2, f3, run_keyThatStays (d := .int .u32) (k := v32 k) rfl, run_setObj_map _ hb, Result.andThen]
    generalize Instr.mapUpdate t _ _ _ = q at hr ⊢
    simp only [hr, Sem.run_bind, Result.andThen_ok, Sem.run_pure]
    refine hK _ _ _ rfl (mapD_step hst (heapSet_fr _) fun es' clock' l' hb' he' hm' hn' => ?_)
    rw [hb] at hb'
    obtain ⟨rfl, rfl⟩ : es = es' ∧ clock = clock' := by cases hb'; exact ⟨rfl, rfl⟩
    obtain ⟨k2, x2, g1, g2, -⟩ := he'.get f2
    have hkk : k2 = k := v32_inj (g2.symm.trans f3)
    subst hkk
    refine ⟨_, _, l'.set j (k2, v), (heap_set hb).1, he'.set v f2 g1, fun q => by rw [mget_set hn' g1, ← hm']; rfl, ?_, fun x hx => ?_⟩
    · have hk : (l'.set j (k2, v)).map (fun x : UInt32 × β => x.1) = l'.map fun x => x.1 := by
        apply List.ext_getElem?
        intro i
        simp only [List.getElem?_map, List.getElem?_set]
        by_cases hij : j = i
        · subst hij
          have hi := (List.getElem?_eq_some_iff.1 g1).1
          have he := (List.getElem?_eq_some_iff.1 g1).2
          simp [hi, he]
        · simp [hij]
      rw [hk]; exact hn'
    · rcases List.mem_or_eq_of_mem_set hx with hx | rfl
      · exact .inl hx
      · exact .inr fun q hq => hq
theorem X.mapDel {t kt kt' et b : Nat} {m : UInt32 → Option β} {k : UInt32} (ho : o.op = .call { callee := .builtin .delete, args := #[x, y], argTypes := #[t, kt'] }) (ht : P.underlying t = some (.map kt et)) (hk : P.underlying kt = some (.int .u32))
    (hx : evO F x = some (.map (some b))) (hy : evO F y = some (v32 k)) (h1 : Pull (SA.mapD b m) L L0) : Eff P N o F L (fun _ L' => L' = SA.mapD b (mdel m k) :: L0) := by
  refine ⟨by rw [ho]; simp, fun Y a w ha hw K Q hK => ?_⟩
  unfold Oper.wp execOp; rw [ho]
  replace hx := ha.eval hx
  replace hy := ha.eval hy
  have hst : St (Y :: SA.rdss [] :: SA.mapD b m :: L0) w := (((Ent.rdss0 (L := SA.mapD b m :: L0)).under Y).st (St.up1 ((Pull.there (B := Y) h1).st hw)))
  obtain ⟨O, R, ⟨-, es, clock, l, hb, he, hm, hn, -⟩, -⟩ := hst.tl.tl.hd
  have same : ∀ es', w.heap[b]? = some (.map es' clock) → { w with heap := w.heap.setIfInBounds b (.map es' clock) } = w := fun es' h => by
    have : w.heap.setIfInBounds b (.map es' clock) = w.heap := by
      apply Array.ext_getElem?
      intro i
      rw [Array.getElem?_setIfInBounds]
      split
      · rename_i e; subst e
        split
        · exact h.symm
        · rename_i hlt; rw [Array.getElem?_eq_none (by omega)]
      · rfl
    rw [this]
  rcases he.find hn k with ⟨f1, f2⟩ | ⟨j, e, y0, f1, f2, f3, f4, f5⟩
  · have hr : (Builtin.delete_ #[t, kt'] o.type #[.map (some b), v32 k]).run P w = .ok (.tuple #[]) { w with heap := w.heap.setIfInBounds b (.map es clock) } := by
      simp [Builtin.delete_, run_underlying ht, Go.MapKept.run_getObj_map hb, run_checkKey (k := v32 k) hk rfl, run_findKey hk f1, run_setObj_map _ hb, Result.andThen]
    generalize a.eval = ρ at hx hy ⊢
    simp [resolve, invoke, builtin, hx, hy, hr, Result.andThen, Oper.upon]
    refine hK _ _ _ rfl (mapD_step hst (heapSet_fr _) fun es' clock' l' hb' he' hm' hn' => ?_)
    rw [hb] at hb'
    obtain ⟨rfl, rfl⟩ : es = es' ∧ clock = clock' := by cases hb'; exact ⟨rfl, rfl⟩
    have hf2 : mget l' k = none := by rw [← hm', hm, f2]
    refine ⟨_, _, l', (heap_set hb).1, he', fun q => ?_, hn', fun x hx => .inl hx⟩
    show (if q = k then none else m q) = mget l' q
    by_cases hq : q = k
    · subst hq; rw [if_pos rfl, hf2]
    · rw [if_neg hq, hm']
  · have hr : (Builtin.delete_ #[t, kt'] o.type #[.map (some b), v32 k]).run P w = .ok (.tuple #[]) { w with heap := w.heap.setIfInBounds b (.map (es.eraseIdxIfInBounds j) clock) } := by
      simp [Builtin.delete_, run_underlying ht, Go.MapKept.run_getObj_map hb, run_checkKey (k := v32 k) hk rfl, run_findKey hk f1, run_setObj_map _ hb, Result.andThen]
    generalize a.eval = ρ at hx hy ⊢
    simp [resolve, invoke, builtin, hx, hy, hr, Result.andThen, Oper.upon]
    refine hK _ _ _ rfl (mapD_step hst (heapSet_fr _) fun es' clock' l' hb' he' hm' hn' => ?_)
    rw [hb] at hb'
    obtain ⟨rfl, rfl⟩ : es = es' ∧ clock = clock' := by cases hb'; exact ⟨rfl, rfl⟩
    obtain ⟨k2, x2, g1, g2, -⟩ := he'.get f2
    have hkk : k2 = k := v32_inj (g2.symm.trans f3)
    subst hkk
    have hs : (l'.eraseIdx j).Sublist l' := List.eraseIdx_sublist _ _
    exact ⟨_, _, l'.eraseIdx j, (heap_set hb).1, he'.erase j, fun q => by rw [mget_erase hn' g1, ← hm']; rfl, (hs.map _).nodup hn', fun x hx => .inl (hs.subset hx)⟩
end
end Go.Proofs.Ytomplpdeeomehaa


/- 'copy' into a slice of one's own; lending what is owned, piece by piece; more on pieces of bytes. No program is named. -/
namespace Go.Proofs.Ytomplpdeeomehaa
set_option linter.unusedVariables false
set_option linter.unusedSimpArgs false
open Go.RowKit
section
variable {P : Program} {N : Nat} {F : FE} {As L L0 : List SA} {o : Oper} {x y z : Operand} {u v : Value}
end
theorem Reads.head {A : SA} {sz n cap k : Nat} {a : Option Addr} {cs : List Value} (h : Reads A sz (.slice a n cap) n cs) (hk : k ≤ n) : Reads A sz (.slice a k cap) k (cs.take (k * sz)) := fun w O R hp => (h w O R hp).take hk
section
variable {L L1 : List SA}
end
section
variable {P : Program} {L : List SA} {f : FuncId} {args : List Value}
end
end Go.Proofs.Ytomplpdeeomehaa


/- The printed walks' side goals under short names. No program is named. -/
namespace Go.Proofs.Ytomplpdeeomehaa
set_option linter.unusedVariables false
set_option linter.unusedSimpArgs false
open Go.RowKit
section
variable {As L L' : List SA} {A : SA} {p : Addr} {v : Value} {φ : Prop}
theorem pul (h : Pull A L L' := by first | (with_reducible (repeat first | apply Pull.here | apply Pull.there); done) | (repeat first | apply Pull.here | apply Pull.there)) : Pull A L L' := h
theorem inn (h : In A L := by with_reducible (repeat first | apply In.here | apply In.there)) : In A L := h
theorem lnn (h : φ := by ((try simp only [List.length_set, List.length_map, List.length_append, List.length_replicate, List.size_toArray, List.length_cons, List.length_nil, Array.size_setIfInBounds]); (first | omega | exact of_decide_eq_true (by rfl)))) : φ := h
theorem szz (h : φ := by ((try simp only [List.size_toArray, List.length_set, List.length_map, List.length_append, List.length_replicate, List.length_cons, List.length_nil]); (first | done | omega | (simp [*]; done)))) : φ := h
theorem nqq (h : φ := by ((try simp only [Nat.zero_add, Nat.add_zero, Nat.mul_one, Nat.one_mul, Nat.mul_zero, Nat.zero_mul]) <;> rfl)) : φ := h
theorem ett (h : Ent L L' := by (repeat first | (with_reducible apply Ent.refl) | (with_reducible apply Ent.nil) | refine Ent.cons (by first | (with_reducible (repeat first | apply Pull.here | apply Pull.there); done) | (repeat first | apply Pull.here | apply Pull.there)) ?_ | refine Ent.skip ?_)) : Ent L L' := h
theorem cel8 (h : Cel As p v := by first | exact Cel.at0 Reads.owns (by with_reducible (repeat first | apply In.here | apply In.there)) (by assumption) (by rfl) | exact Cel.at Reads.owns (by with_reducible (repeat first | apply In.here | apply In.there)) (by assumption) (by rfl) | exact Cel.datAt0 (by with_reducible (repeat first | apply In.here | apply In.there)) (by assumption) (by rfl) | exact Cel.datAt (by with_reducible (repeat first | apply In.here | apply In.there)) (by assumption) (by rfl) | exact Cel.datAtS (by with_reducible (repeat first | apply In.here | apply In.there)) (by assumption) (by rfl) | exact Cel.blk (by with_reducible (repeat first | apply In.here | apply In.there)) (by first | exact getM (d := (0 : UInt8)) (by ((try simp only [List.length_set, List.length_map, List.length_append, List.length_replicate, List.size_toArray, List.length_cons, List.length_nil, Array.size_setIfInBounds]); (first | omega | exact of_decide_eq_true (by rfl)))) | rfl) | exact Cel.rblk (by with_reducible (repeat first | apply In.here | apply In.there)) (by first | exact getM (d := (0 : UInt8)) (by ((try simp only [List.length_set, List.length_map, List.length_append, List.length_replicate, List.size_toArray, List.length_cons, List.length_nil, Array.size_setIfInBounds]); (first | omega | exact of_decide_eq_true (by rfl)))) | rfl) | exact Cel.rds (by with_reducible (repeat first | apply In.here | apply In.there)) (getML (d := (0 : UInt8)) (by ((try simp only [List.length_set, List.length_map, List.length_append, List.length_replicate, List.size_toArray, List.length_cons, List.length_nil, Array.size_setIfInBounds]); (first | omega | exact of_decide_eq_true (by rfl))))) | exact Cel.rdsB (by with_reducible (repeat first | apply In.here | apply In.there)) (getML (d := (0 : UInt8)) (by ((try simp only [List.length_set, List.length_map, List.length_append, List.length_replicate, List.size_toArray, List.length_cons, List.length_nil, Array.size_setIfInBounds]); (first | omega | exact of_decide_eq_true (by rfl))))) | exact Cel.owns (by with_reducible (repeat first | apply In.here | apply In.there)) (getML (d := (0 : UInt8)) (by ((try simp only [List.length_set, List.length_map, List.length_append, List.length_replicate, List.size_toArray, List.length_cons, List.length_nil, Array.size_setIfInBounds]); (first | omega | exact of_decide_eq_true (by rfl))))) | exact Cel.reads (by assumption) (by with_reducible (repeat first | apply In.here | apply In.there)) (getML (d := (0 : UInt8)) (by ((try simp only [List.length_set, List.length_map, List.length_append, List.length_replicate, List.size_toArray, List.length_cons, List.length_nil, Array.size_setIfInBounds]); (first | omega | exact of_decide_eq_true (by rfl))))) | exact Cel.rds0 (by with_reducible (repeat first | apply In.here | apply In.there)) (getML (d := (0 : UInt8)) (by ((try simp only [List.length_set, List.length_map, List.length_append, List.length_replicate, List.size_toArray, List.length_cons, List.length_nil, Array.size_setIfInBounds]); (first | omega | exact of_decide_eq_true (by rfl))))) | exact Cel.owns0 (by with_reducible (repeat first | apply In.here | apply In.there)) (getML (d := (0 : UInt8)) (by ((try simp only [List.length_set, List.length_map, List.length_append, List.length_replicate, List.size_toArray, List.length_cons, List.length_nil, Array.size_setIfInBounds]); (first | omega | exact of_decide_eq_true (by rfl)))))) : Cel As p v := h
theorem cel16 (h : Cel As p v := by first | exact Cel.at0 Reads.owns (by with_reducible (repeat first | apply In.here | apply In.there)) (by assumption) (by rfl) | exact Cel.at Reads.owns (by with_reducible (repeat first | apply In.here | apply In.there)) (by assumption) (by rfl) | exact Cel.datAt0 (by with_reducible (repeat first | apply In.here | apply In.there)) (by assumption) (by rfl) | exact Cel.datAt (by with_reducible (repeat first | apply In.here | apply In.there)) (by assumption) (by rfl) | exact Cel.datAtS (by with_reducible (repeat first | apply In.here | apply In.there)) (by assumption) (by rfl) | exact Cel.blk (by with_reducible (repeat first | apply In.here | apply In.there)) (by first | exact getM (d := (0 : UInt16)) (by ((try simp only [List.length_set, List.length_map, List.length_append, List.length_replicate, List.size_toArray, List.length_cons, List.length_nil, Array.size_setIfInBounds]); (first | omega | exact of_decide_eq_true (by rfl)))) | rfl) | exact Cel.rblk (by with_reducible (repeat first | apply In.here | apply In.there)) (by first | exact getM (d := (0 : UInt16)) (by ((try simp only [List.length_set, List.length_map, List.length_append, List.length_replicate, List.size_toArray, List.length_cons, List.length_nil, Array.size_setIfInBounds]); (first | omega | exact of_decide_eq_true (by rfl)))) | rfl) | exact Cel.rds (by with_reducible (repeat first | apply In.here | apply In.there)) (getML (d := (0 : UInt16)) (by ((try simp only [List.length_set, List.length_map, List.length_append, List.length_replicate, List.size_toArray, List.length_cons, List.length_nil, Array.size_setIfInBounds]); (first | omega | exact of_decide_eq_true (by rfl))))) | exact Cel.rdsB (by with_reducible (repeat first | apply In.here | apply In.there)) (getML (d := (0 : UInt16)) (by ((try simp only [List.length_set, List.length_map, List.length_append, List.length_replicate, List.size_toArray, List.length_cons, List.length_nil, Array.size_setIfInBounds]); (first | omega | exact of_decide_eq_true (by rfl))))) | exact Cel.owns (by with_reducible (repeat first | apply In.here | apply In.there)) (getML (d := (0 : UInt16)) (by ((try simp only [List.length_set, List.length_map, List.length_append, List.length_replicate, List.size_toArray, List.length_cons, List.length_nil, Array.size_setIfInBounds]); (first | omega | exact of_decide_eq_true (by rfl))))) | exact Cel.reads (by assumption) (by with_reducible (repeat first | apply In.here | apply In.there)) (getML (d := (0 : UInt16)) (by ((try simp only [List.length_set, List.length_map, List.length_append, List.length_replicate, List.size_toArray, List.length_cons, List.length_nil, Array.size_setIfInBounds]); (first | omega | exact of_decide_eq_true (by rfl))))) | exact Cel.rds0 (by with_reducible (repeat first | apply In.here | apply In.there)) (getML (d := (0 : UInt16)) (by ((try simp only [List.length_set, List.length_map, List.length_append, List.length_replicate, List.size_toArray, List.length_cons, List.length_nil, Array.size_setIfInBounds]); (first | omega | exact of_decide_eq_true (by rfl))))) | exact Cel.owns0 (by with_reducible (repeat first | apply In.here | apply In.there)) (getML (d := (0 : UInt16)) (by ((try simp only [List.length_set, List.length_map, List.length_append, List.length_replicate, List.size_toArray, List.length_cons, List.length_nil, Array.size_setIfInBounds]); (first | omega | exact of_decide_eq_true (by rfl)))))) : Cel As p v := h
theorem cel32 (h : Cel As p v := by first | exact Cel.at0 Reads.owns (by with_reducible (repeat first | apply In.here | apply In.there)) (by assumption) (by rfl) | exact Cel.at Reads.owns (by with_reducible (repeat first | apply In.here | apply In.there)) (by assumption) (by rfl) | exact Cel.datAt0 (by with_reducible (repeat first | apply In.here | apply In.there)) (by assumption) (by rfl) | exact Cel.datAt (by with_reducible (repeat first | apply In.here | apply In.there)) (by assumption) (by rfl) | exact Cel.datAtS (by with_reducible (repeat first | apply In.here | apply In.there)) (by assumption) (by rfl) | exact Cel.blk (by with_reducible (repeat first | apply In.here | apply In.there)) (by first | exact getM (d := (0 : UInt32)) (by ((try simp only [List.length_set, List.length_map, List.length_append, List.length_replicate, List.size_toArray, List.length_cons, List.length_nil, Array.size_setIfInBounds]); (first | omega | exact of_decide_eq_true (by rfl)))) | rfl) | exact Cel.rblk (by with_reducible (repeat first | apply In.here | apply In.there)) (by first | exact getM (d := (0 : UInt32)) (by ((try simp only [List.length_set, List.length_map, List.length_append, List.length_replicate, List.size_toArray, List.length_cons, List.length_nil, Array.size_setIfInBounds]); (first | omega | exact of_decide_eq_true (by rfl)))) | rfl) | exact Cel.rds (by with_reducible (repeat first | apply In.here | apply In.there)) (getML (d := (0 : UInt32)) (by ((try simp only [List.length_set, List.length_map, List.length_append, List.length_replicate, List.size_toArray, List.length_cons, List.length_nil, Array.size_setIfInBounds]); (first | omega | exact of_decide_eq_true (by rfl))))) | exact Cel.rdsB (by with_reducible (repeat first | apply In.here | apply In.there)) (getML (d := (0 : UInt32)) (by ((try simp only [List.length_set, List.length_map, List.length_append, List.length_replicate, List.size_toArray, List.length_cons, List.length_nil, Array.size_setIfInBounds]); (first | omega | exact of_decide_eq_true (by rfl))))) | exact Cel.owns (by with_reducible (repeat first | apply In.here | apply In.there)) (getML (d := (0 : UInt32)) (by ((try simp only [List.length_set, List.length_map, List.length_append, List.length_replicate, List.size_toArray, List.length_cons, List.length_nil, Array.size_setIfInBounds]); (first | omega | exact of_decide_eq_true (by rfl))))) | exact Cel.reads (by assumption) (by with_reducible (repeat first | apply In.here | apply In.there)) (getML (d := (0 : UInt32)) (by ((try simp only [List.length_set, List.length_map, List.length_append, List.length_replicate, List.size_toArray, List.length_cons, List.length_nil, Array.size_setIfInBounds]); (first | omega | exact of_decide_eq_true (by rfl))))) | exact Cel.rds0 (by with_reducible (repeat first | apply In.here | apply In.there)) (getML (d := (0 : UInt32)) (by ((try simp only [List.length_set, List.length_map, List.length_append, List.length_replicate, List.size_toArray, List.length_cons, List.length_nil, Array.size_setIfInBounds]); (first | omega | exact of_decide_eq_true (by rfl))))) | exact Cel.owns0 (by with_reducible (repeat first | apply In.here | apply In.there)) (getML (d := (0 : UInt32)) (by ((try simp only [List.length_set, List.length_map, List.length_append, List.length_replicate, List.size_toArray, List.length_cons, List.length_nil, Array.size_setIfInBounds]); (first | omega | exact of_decide_eq_true (by rfl)))))) : Cel As p v := h
theorem celN (h : Cel As p v := by first | exact Cel.at0 Reads.owns (by with_reducible (repeat first | apply In.here | apply In.there)) (by assumption) (by rfl) | exact Cel.at Reads.owns (by with_reducible (repeat first | apply In.here | apply In.there)) (by assumption) (by rfl) | exact Cel.datAt0 (by with_reducible (repeat first | apply In.here | apply In.there)) (by assumption) (by rfl) | exact Cel.datAt (by with_reducible (repeat first | apply In.here | apply In.there)) (by assumption) (by rfl) | exact Cel.datAtS (by with_reducible (repeat first | apply In.here | apply In.there)) (by assumption) (by rfl) | exact Cel.blk (by with_reducible (repeat first | apply In.here | apply In.there)) (by first | exact getM (d := (0 : Nat)) (by ((try simp only [List.length_set, List.length_map, List.length_append, List.length_replicate, List.size_toArray, List.length_cons, List.length_nil, Array.size_setIfInBounds]); (first | omega | exact of_decide_eq_true (by rfl)))) | rfl) | exact Cel.rblk (by with_reducible (repeat first | apply In.here | apply In.there)) (by first | exact getM (d := (0 : Nat)) (by ((try simp only [List.length_set, List.length_map, List.length_append, List.length_replicate, List.size_toArray, List.length_cons, List.length_nil, Array.size_setIfInBounds]); (first | omega | exact of_decide_eq_true (by rfl)))) | rfl) | exact Cel.rds (by with_reducible (repeat first | apply In.here | apply In.there)) (getML (d := (0 : Nat)) (by ((try simp only [List.length_set, List.length_map, List.length_append, List.length_replicate, List.size_toArray, List.length_cons, List.length_nil, Array.size_setIfInBounds]); (first | omega | exact of_decide_eq_true (by rfl))))) | exact Cel.rdsB (by with_reducible (repeat first | apply In.here | apply In.there)) (getML (d := (0 : Nat)) (by ((try simp only [List.length_set, List.length_map, List.length_append, List.length_replicate, List.size_toArray, List.length_cons, List.length_nil, Array.size_setIfInBounds]); (first | omega | exact of_decide_eq_true (by rfl))))) | exact Cel.owns (by with_reducible (repeat first | apply In.here | apply In.there)) (getML (d := (0 : Nat)) (by ((try simp only [List.length_set, List.length_map, List.length_append, List.length_replicate, List.size_toArray, List.length_cons, List.length_nil, Array.size_setIfInBounds]); (first | omega | exact of_decide_eq_true (by rfl))))) | exact Cel.reads (by assumption) (by with_reducible (repeat first | apply In.here | apply In.there)) (getML (d := (0 : Nat)) (by ((try simp only [List.length_set, List.length_map, List.length_append, List.length_replicate, List.size_toArray, List.length_cons, List.length_nil, Array.size_setIfInBounds]); (first | omega | exact of_decide_eq_true (by rfl))))) | exact Cel.rds0 (by with_reducible (repeat first | apply In.here | apply In.there)) (getML (d := (0 : Nat)) (by ((try simp only [List.length_set, List.length_map, List.length_append, List.length_replicate, List.size_toArray, List.length_cons, List.length_nil, Array.size_setIfInBounds]); (first | omega | exact of_decide_eq_true (by rfl))))) | exact Cel.owns0 (by with_reducible (repeat first | apply In.here | apply In.there)) (getML (d := (0 : Nat)) (by ((try simp only [List.length_set, List.length_map, List.length_append, List.length_replicate, List.size_toArray, List.length_cons, List.length_nil, Array.size_setIfInBounds]); (first | omega | exact of_decide_eq_true (by rfl)))))) : Cel As p v := h
theorem celD (h : Cel As p v := by first | exact Cel.at0 Reads.owns (by with_reducible (repeat first | apply In.here | apply In.there)) (by assumption) (by rfl) | exact Cel.at Reads.owns (by with_reducible (repeat first | apply In.here | apply In.there)) (by assumption) (by rfl) | exact Cel.datAt0 (by with_reducible (repeat first | apply In.here | apply In.there)) (by assumption) (by rfl) | exact Cel.datAt (by with_reducible (repeat first | apply In.here | apply In.there)) (by assumption) (by rfl) | exact Cel.datAtS (by with_reducible (repeat first | apply In.here | apply In.there)) (by assumption) (by rfl) | exact Cel.blk (by with_reducible (repeat first | apply In.here | apply In.there)) (by first | exact getM (d := default) (by ((try simp only [List.length_set, List.length_map, List.length_append, List.length_replicate, List.size_toArray, List.length_cons, List.length_nil, Array.size_setIfInBounds]); (first | omega | exact of_decide_eq_true (by rfl)))) | rfl) | exact Cel.rblk (by with_reducible (repeat first | apply In.here | apply In.there)) (by first | exact getM (d := default) (by ((try simp only [List.length_set, List.length_map, List.length_append, List.length_replicate, List.size_toArray, List.length_cons, List.length_nil, Array.size_setIfInBounds]); (first | omega | exact of_decide_eq_true (by rfl)))) | rfl) | exact Cel.rds (by with_reducible (repeat first | apply In.here | apply In.there)) (getML (d := default) (by ((try simp only [List.length_set, List.length_map, List.length_append, List.length_replicate, List.size_toArray, List.length_cons, List.length_nil, Array.size_setIfInBounds]); (first | omega | exact of_decide_eq_true (by rfl))))) | exact Cel.rdsB (by with_reducible (repeat first | apply In.here | apply In.there)) (getML (d := default) (by ((try simp only [List.length_set, List.length_map, List.length_append, List.length_replicate, List.size_toArray, List.length_cons, List.length_nil, Array.size_setIfInBounds]); (first | omega | exact of_decide_eq_true (by rfl))))) | exact Cel.owns (by with_reducible (repeat first | apply In.here | apply In.there)) (getML (d := default) (by ((try simp only [List.length_set, List.length_map, List.length_append, List.length_replicate, List.size_toArray, List.length_cons, List.length_nil, Array.size_setIfInBounds]); (first | omega | exact of_decide_eq_true (by rfl))))) | exact Cel.reads (by assumption) (by with_reducible (repeat first | apply In.here | apply In.there)) (getML (d := default) (by ((try simp only [List.length_set, List.length_map, List.length_append, List.length_replicate, List.size_toArray, List.length_cons, List.length_nil, Array.size_setIfInBounds]); (first | omega | exact of_decide_eq_true (by rfl))))) | exact Cel.rds0 (by with_reducible (repeat first | apply In.here | apply In.there)) (getML (d := default) (by ((try simp only [List.length_set, List.length_map, List.length_append, List.length_replicate, List.size_toArray, List.length_cons, List.length_nil, Array.size_setIfInBounds]); (first | omega | exact of_decide_eq_true (by rfl))))) | exact Cel.owns0 (by with_reducible (repeat first | apply In.here | apply In.there)) (getML (d := default) (by ((try simp only [List.length_set, List.length_map, List.length_append, List.length_replicate, List.size_toArray, List.length_cons, List.length_nil, Array.size_setIfInBounds]); (first | omega | exact of_decide_eq_true (by rfl)))))) : Cel As p v := h
theorem ceo8 (h : Cel As p v := by first | exact Cel.blk (by with_reducible (repeat first | apply In.here | apply In.there)) (by first | exact getM (d := (0 : UInt8)) (by ((try simp only [List.length_set, List.length_map, List.length_append, List.length_replicate, List.size_toArray, List.length_cons, List.length_nil, Array.size_setIfInBounds]); (first | omega | exact of_decide_eq_true (by rfl)))) | rfl) | exact Cel.rblk (by with_reducible (repeat first | apply In.here | apply In.there)) (by first | exact getM (d := (0 : UInt8)) (by ((try simp only [List.length_set, List.length_map, List.length_append, List.length_replicate, List.size_toArray, List.length_cons, List.length_nil, Array.size_setIfInBounds]); (first | omega | exact of_decide_eq_true (by rfl)))) | rfl) | exact Cel.rds (by with_reducible (repeat first | apply In.here | apply In.there)) (getML (d := (0 : UInt8)) (by ((try simp only [List.length_set, List.length_map, List.length_append, List.length_replicate, List.size_toArray, List.length_cons, List.length_nil, Array.size_setIfInBounds]); (first | omega | exact of_decide_eq_true (by rfl))))) | exact Cel.rdsB (by with_reducible (repeat first | apply In.here | apply In.there)) (getML (d := (0 : UInt8)) (by ((try simp only [List.length_set, List.length_map, List.length_append, List.length_replicate, List.size_toArray, List.length_cons, List.length_nil, Array.size_setIfInBounds]); (first | omega | exact of_decide_eq_true (by rfl))))) | exact Cel.owns (by with_reducible (repeat first | apply In.here | apply In.there)) (getML (d := (0 : UInt8)) (by ((try simp only [List.length_set, List.length_map, List.length_append, List.length_replicate, List.size_toArray, List.length_cons, List.length_nil, Array.size_setIfInBounds]); (first | omega | exact of_decide_eq_true (by rfl))))) | exact Cel.reads (by assumption) (by with_reducible (repeat first | apply In.here | apply In.there)) (getML (d := (0 : UInt8)) (by ((try simp only [List.length_set, List.length_map, List.length_append, List.length_replicate, List.size_toArray, List.length_cons, List.length_nil, Array.size_setIfInBounds]); (first | omega | exact of_decide_eq_true (by rfl)))))) : Cel As p v := h
theorem ceo32 (h : Cel As p v := by first | exact Cel.blk (by with_reducible (repeat first | apply In.here | apply In.there)) (by first | exact getM (d := (0 : UInt32)) (by ((try simp only [List.length_set, List.length_map, List.length_append, List.length_replicate, List.size_toArray, List.length_cons, List.length_nil, Array.size_setIfInBounds]); (first | omega | exact of_decide_eq_true (by rfl)))) | rfl) | exact Cel.rblk (by with_reducible (repeat first | apply In.here | apply In.there)) (by first | exact getM (d := (0 : UInt32)) (by ((try simp only [List.length_set, List.length_map, List.length_append, List.length_replicate, List.size_toArray, List.length_cons, List.length_nil, Array.size_setIfInBounds]); (first | omega | exact of_decide_eq_true (by rfl)))) | rfl) | exact Cel.rds (by with_reducible (repeat first | apply In.here | apply In.there)) (getML (d := (0 : UInt32)) (by ((try simp only [List.length_set, List.length_map, List.length_append, List.length_replicate, List.size_toArray, List.length_cons, List.length_nil, Array.size_setIfInBounds]); (first | omega | exact of_decide_eq_true (by rfl))))) | exact Cel.rdsB (by with_reducible (repeat first | apply In.here | apply In.there)) (getML (d := (0 : UInt32)) (by ((try simp only [List.length_set, List.length_map, List.length_append, List.length_replicate, List.size_toArray, List.length_cons, List.length_nil, Array.size_setIfInBounds]); (first | omega | exact of_decide_eq_true (by rfl))))) | exact Cel.owns (by with_reducible (repeat first | apply In.here | apply In.there)) (getML (d := (0 : UInt32)) (by ((try simp only [List.length_set, List.length_map, List.length_append, List.length_replicate, List.size_toArray, List.length_cons, List.length_nil, Array.size_setIfInBounds]); (first | omega | exact of_decide_eq_true (by rfl))))) | exact Cel.reads (by assumption) (by with_reducible (repeat first | apply In.here | apply In.there)) (getML (d := (0 : UInt32)) (by ((try simp only [List.length_set, List.length_map, List.length_append, List.length_replicate, List.size_toArray, List.length_cons, List.length_nil, Array.size_setIfInBounds]); (first | omega | exact of_decide_eq_true (by rfl)))))) : Cel As p v := h
theorem ceoD (h : Cel As p v := by first | exact Cel.blk (by with_reducible (repeat first | apply In.here | apply In.there)) (by first | exact getM (d := default) (by ((try simp only [List.length_set, List.length_map, List.length_append, List.length_replicate, List.size_toArray, List.length_cons, List.length_nil, Array.size_setIfInBounds]); (first | omega | exact of_decide_eq_true (by rfl)))) | rfl) | exact Cel.rblk (by with_reducible (repeat first | apply In.here | apply In.there)) (by first | exact getM (d := default) (by ((try simp only [List.length_set, List.length_map, List.length_append, List.length_replicate, List.size_toArray, List.length_cons, List.length_nil, Array.size_setIfInBounds]); (first | omega | exact of_decide_eq_true (by rfl)))) | rfl) | exact Cel.rds (by with_reducible (repeat first | apply In.here | apply In.there)) (getML (d := default) (by ((try simp only [List.length_set, List.length_map, List.length_append, List.length_replicate, List.size_toArray, List.length_cons, List.length_nil, Array.size_setIfInBounds]); (first | omega | exact of_decide_eq_true (by rfl))))) | exact Cel.rdsB (by with_reducible (repeat first | apply In.here | apply In.there)) (getML (d := default) (by ((try simp only [List.length_set, List.length_map, List.length_append, List.length_replicate, List.size_toArray, List.length_cons, List.length_nil, Array.size_setIfInBounds]); (first | omega | exact of_decide_eq_true (by rfl))))) | exact Cel.owns (by with_reducible (repeat first | apply In.here | apply In.there)) (getML (d := default) (by ((try simp only [List.length_set, List.length_map, List.length_append, List.length_replicate, List.size_toArray, List.length_cons, List.length_nil, Array.size_setIfInBounds]); (first | omega | exact of_decide_eq_true (by rfl))))) | exact Cel.reads (by assumption) (by with_reducible (repeat first | apply In.here | apply In.there)) (getML (d := default) (by ((try simp only [List.length_set, List.length_map, List.length_append, List.length_replicate, List.size_toArray, List.length_cons, List.length_nil, Array.size_setIfInBounds]); (first | omega | exact of_decide_eq_true (by rfl)))))) : Cel As p v := h
end
/-! ### steps under short names -/
section
variable {κ : Ctx} {P : Program} {N : Nat} {F : FE} {L L' As : List SA} {Q : Exit → Act → World → Prop} {ops : Array Oper} {o : Oper} {fuel : Nat} {listed : Array Bool} {φ : Prop}
theorem isf (h : φ := by first | rfl | (simp only [decide_eq_true_eq, decide_eq_false_iff_not, Bool.not_eq_true', Bool.not_eq_false', Bool.not_eq_eq_eq_not, Bool.not_true, Bool.not_false, Nat.not_lt, Nat.not_le]; omega) | (simp [*]; done) | (simp; omega)) : φ := h
theorem grw (h : φ := by (repeat first | apply Grow.refl | apply Grow.step | apply Grow.app)) : φ := h
theorem hld (h : φ := by repeat first | exact holds_nil | refine holds_cons inn ?_) : φ := h
theorem TA.tk (i : Nat) {last d : Nat} {v : Value} (hi : ops[i]? = some o) (hd : o.dst = some d) (h : Yld P N o F As v) (k : TA κ P N ops last As fuel (listed.setIfInBounds i true) ((d, some v) :: F) L Q)
    (hN : Nat.blt d N = true := by rfl) (hg : wantF ops F o = some true := by rfl) (hs : Region.noSelect ops = true := by kernel_rfl) (hf : Region.free .any ops listed i = true := by kernel_rfl) (hr : (Region.ready .any ops listed).contains i = true := by kernel_rfl) (hl : Nat.beq i last = false := by rfl) (hw : waits ops last i = true := by kernel_rfl) (hll : listed.getD last false = false := by kernel_rfl)
    (hQ : ∀ c a w, Q (.panic c) (a.put o.dst v) w → Q (.panic c) a w := by exact fun _ _ _ h => h) : TA κ P N ops last As (fuel + 1) listed F L Q := TA.take i hi hd hN hg hs hf hr hl hw hll hQ h k
theorem TA.tp (i : Nat) {last d : Nat} {v : Value} (hi : ops[i]? = some o) (hd : o.dst = some d) (h : Yld P N o F [] v) (k : TA κ P N ops last As fuel (listed.setIfInBounds i true) ((d, some v) :: F) L Q)
    (hN : Nat.blt d N = true := by rfl) (hg : wantF ops F o = some true := by rfl) (hs : Region.noSelect ops = true := by kernel_rfl) (hf : Region.free .any ops listed i = true := by kernel_rfl) (hr : (Region.ready .any ops listed).contains i = true := by kernel_rfl) (hl : Nat.beq i last = false := by rfl)
    (hQ : ∀ c a w, Q (.panic c) (a.put o.dst v) w → Q (.panic c) a w := by exact fun _ _ _ h => h) : TA κ P N ops last As (fuel + 1) listed F L Q := TA.takeP i hi hd hN hg hs hf hr hl hQ h k
theorem TA.tn (i : Nat) {last d : Nat} (hi : ops[i]? = some o) (hd : o.dst = some d) (k : TA κ P N ops last As fuel (listed.setIfInBounds i true) ((d, some undef) :: F) L Q)
    (hN : Nat.blt d N = true := by rfl) (hg : wantF ops F o = some false := by rfl) (hs : Region.noSelect ops = true := by kernel_rfl) (hf : Region.free .any ops listed i = true := by kernel_rfl) (hr : (Region.ready .any ops listed).contains i = true := by kernel_rfl) (hl : Nat.beq i last = false := by rfl)
    (hQ : ∀ c a w, Q (.panic c) (a.put o.dst undef) w → Q (.panic c) a w := by exact fun _ _ _ h => h) : TA κ P N ops last As (fuel + 1) listed F L Q := TA.not i hi hd hN hg hs hf hr hl hQ k
theorem X.cl {f : FuncId} {fn : Func} {args : List Operand} {at' : Array TypeId} {vs : List Value} {R : Value → List SA → Prop} (ho : o.op = .call { callee := .value (.func f), args := args.toArray, argTypes := at' })
    (hf : P.funcs[f]? = some fn) (hv : evA F args = some vs) (hn : (fn.name == "runtime.NumGoroutine") = false := by kernel_rfl) (hb : fn.body.isNone = false := by rfl) (hE : Ent L L' := by repeat first | (with_reducible apply Ent.refl) | (apply Ent.cons; case h => first | (with_reducible (repeat first | apply Pull.here | apply Pull.there); done) | (repeat first | apply Pull.here | apply Pull.there))) (h : Fn P f vs L' R) : Eff P N o F L R := X.call ho hf hn hb hv (Fn.preE hE h)
end
/-! ### the commonest steps, shorter still -/
section
variable {κ : Ctx} {P : Program} {N : Nat} {F : FE} {L : List SA} {Q : Exit → Act → World → Prop} {ops : Array Oper} {o : Oper} {rest : List Oper} {x : Operand} {d : Nat} {v : Value} {p : Addr}
theorem TL.mv (k : TL κ P N ops rest ((d, some v) :: F) L Q) (hg : o.guard = none := by exact rfl) (hd : o.dst = some d := by exact rfl) (hN : Nat.blt d N = true := by exact rfl) (ho : o.op = .move x := by exact rfl) (hx : evO F x = some v := by exact rfl) : TL κ P N ops (o :: rest) F L Q := TL.val hg hd hN (Y.move ho hx) k
theorem TL.sg (k : TL κ P N ops rest ((d, some v) :: F) L Q) (hg : o.guard = none := by exact rfl) (hd : o.dst = some d := by exact rfl) (hN : Nat.blt d N = true := by exact rfl) (ho : o.op = .assign x := by exact rfl) (hx : evO F x = some v := by exact rfl) : TL κ P N ops (o :: rest) F L Q := TL.val hg hd hN (Y.assign ho hx) k
theorem TL.nc (k : TL κ P N ops rest ((d, some (.pointer (some p))) :: F) L Q) (hg : o.guard = none := by exact rfl) (hd : o.dst = some d := by exact rfl) (hN : Nat.blt d N = true := by exact rfl) (ho : o.op = .nilCheck x := by exact rfl) (hx : evO F x = some (.pointer (some p)) := by exact rfl) : TL κ P N ops (o :: rest) F L Q := TL.val hg hd hN (Y.nilCheck ho hx) k
theorem TL.mg (k : TL κ P N ops rest ((d, some v) :: F) L Q) (hg : wantF ops F o = some true := by exact rfl) (hd : o.dst = some d := by exact rfl) (hN : Nat.blt d N = true := by exact rfl) (ho : o.op = .move x := by exact rfl) (hx : evO F x = some v := by exact rfl) : TL κ P N ops (o :: rest) F L Q := TL.valG hg hd hN (Y.move ho hx) k
end
theorem zA {p : Prop} [Decidable p] : (decide p = true) = p := decide_eq_true_eq
theorem zB {p : Prop} [Decidable p] : decide p = false ↔ ¬ p := decide_eq_false_iff_not
theorem zC {b : Bool} : ((!b) = true) = (b = false) := Bool.not_eq_true' b
theorem zD {b : Bool} : ((!b) = false) = (b = true) := Bool.not_eq_false' b
theorem zE {a b : Bool} : ((a && b) = true) = (a = true ∧ b = true) := Bool.and_eq_true a b
theorem zF {a b : Bool} : ((a || b) = true) = (a = true ∨ b = true) := Bool.or_eq_true a b
theorem zG {n m : Nat} : ¬ n < m ↔ m ≤ n := Nat.not_lt
theorem zH {n m : Nat} : ¬ n ≤ m ↔ m < n := Nat.not_le
theorem zI {α : Type} [BEq α] [LawfulBEq α] {a b : α} : (a == b) = true ↔ a = b := beq_iff_eq
theorem zJ {α : Type} [BEq α] [LawfulBEq α] {a b : α} : (a != b) = true ↔ a ≠ b := bne_iff_ne
end Go.Proofs.Ytomplpdeeomehaa


/- The writer: its contracts. -/
namespace Go.Proofs.Ytomplpdeeomehaa
set_option linter.unusedVariables false
set_option linter.unusedSimpArgs false
open Go.RowKit
namespace wr
namespace FxWireW
set_option maxRecDepth 100000
theorem el85 : Elt Try.prog 85 5 1 1 (.int .u8 0) := ⟨Try.underlying85, by kernel_rfl, rfl, by decide, by simp [Value.cells, Value.oneCell']⟩
theorem sc85 : Program.isSc Try.prog 85 = true := by kernel_rfl
theorem sz85 : (Try.prog.info? 85).map (·.size) = some 1 := by kernel_rfl
end FxWireW
open FxWireW
def W (b : Nat) (l : List UInt8) : SA := SA.ex fun x : Option Addr × Nat => SA.star (SA.blk b #[.slice x.1 l.length x.2] 85) (SA.owns 5 1 (.slice x.1 l.length x.2) l.length (l.map v8))
theorem mk {b n cap : Nat} {a : Option Addr} {l : List UInt8} {cs : List Value} {L : List SA} (hn : l.length = n) (hc : l.map v8 = cs) : Ent (SA.blk b #[.slice a n cap] 85 :: SA.owns 5 1 (.slice a n cap) n cs :: L) (W b l :: L) := by
  subst hn; subst hc
  exact Ent.unstarE.trans (Ent.exE (f := fun x : Option Addr × Nat => SA.star (SA.blk b #[.slice x.1 l.length x.2] 85) (SA.owns 5 1 (.slice x.1 l.length x.2) l.length (l.map v8))) (a, cap))
theorem put {b n cap : Nat} {a : Option Addr} {l : List UInt8} {cs : List Value} {cb : Array Value} {L L1 L2 L3 : List SA} (h1 : Pull (SA.blk b cb 85) L L1) (hb : cb = #[.slice a n cap]) (h2 : Pull (SA.owns 5 1 (.slice a n cap) n cs) L1 L2) (hn : l.length = n) (hc : l.map v8 = cs) (hE : Ent L2 L3) : Ent L (W b l :: L3) := by
  subst hb
  exact h1.ent.trans ((h2.ent.under _).trans ((mk hn hc).trans (hE.under _)))
theorem mk0 {b : Nat} {L : List SA} : Ent (SA.blk b #[.slice none 0 0] 85 :: L) (W b [] :: L) := (Ent.under _ (Ent.nilOwn _ _)).trans (mk rfl rfl)
def be16 (x : UInt16) : List UInt8 := [(shr16 x 8).toUInt8, x.toUInt8]
def be32 (x : UInt32) : List UInt8 := [(shr32 x 24).toUInt8, (shr32 x 16).toUInt8, (shr32 x 8).toUInt8, x.toUInt8]
theorem be16_len (x : UInt16) : (be16 x).length = 2 := rfl
theorem be32_len (x : UInt32) : (be32 x).length = 4 := rfl
--REG (*rostrum/wire.Writer).U16 : _ _ ⟨rfl, rfl⟩ => (wr.U16_fn _ {1} _ WL! _)
theorem U16_fn (b : Nat) (x : UInt16) (l : List UInt8) (hl : l.length ≤ 1099511627776) (L : List SA) : Fn Try.prog 53 [pt b 0, v16 x] (W b l :: L) (fun v L' => v = .tuple #[] ∧ L' = W b (l ++ be16 x) :: L) := by
  refine Fn.of (N := 16) Try.func53 rfl rfl ?_
  intro Xh
  refine TC.open pul ?_
  rintro ⟨a, cap⟩
  refine TC.split pul ?_
  refine TC.region ?_
  refine TL.mv ?_
  refine TL.mv ?_
  refine TL.nc ?_
  refine TL.val rfl rfl rfl (Y.load rfl sc85 rfl ceoD) ?_
  refine TL.mv ?_
  refine TL.val rfl rfl rfl (Y.bin rfl rfl rfl (br_shr16 (n := 8))) ?_
  refine TL.val rfl rfl rfl (Y.conv rfl Try.underlying40 Try.underlying5 rfl (cv_16_8)) ?_
  refine TL.mv ?_
  refine TL.val rfl rfl rfl (Y.conv rfl Try.underlying40 Try.underlying5 rfl (cv_16_8)) ?_
  refine TL.eff rfl rfl rfl (X.lit rfl el85 rfl rfl rfl (by decide) rfl) ?_
  rintro _ _ ⟨g13, rfl, rfl⟩
  refine TL.eff rfl rfl rfl (X.appendS rfl el85 rfl pul rfl (by first | exact Src.owns Try.underlying85 inn | exact Src.rds Try.underlying85 inn | exact Src.reads (by assumption) Try.underlying85 inn) (by simp only [maxLen]; omega) (by omega)) ?_
  rintro _ _ ⟨a14, c14, rfl, rfl⟩
  refine TL.nc ?_
  refine TL.eff0 rfl rfl (by first | exact X.store rfl sz85 rfl rfl rfl pul lnn (by first | exact setM | rfl) | exact X.storeOwn rfl sz85 rfl (Nat.zero_add _).symm rfl rfl pul lnn (by first | exact setML | rfl) | exact X.storeOwn rfl sz85 rfl rfl rfl rfl pul lnn (by first | exact setML | rfl)) ?_
  rintro _ _ rfl
  refine TL.nil ?_
  refine TQ.endE (res0 rfl) (⟨rfl, rfl⟩) ?_
  exact (put pul (by rfl) pul (by simp [be16]) (by simp [be16]) ett)
--REG (*rostrum/wire.Writer).U32 : _ _ ⟨rfl, rfl⟩ => (wr.U32_fn _ {1} _ WL! _)
theorem U32_fn (b : Nat) (x : UInt32) (l : List UInt8) (hl : l.length ≤ 1099511627776) (L : List SA) : Fn Try.prog 45 [pt b 0, v32 x] (W b l :: L) (fun v L' => v = .tuple #[] ∧ L' = W b (l ++ be32 x) :: L) := by
  refine Fn.of (N := 22) Try.func45 rfl rfl ?_
  intro Xh
  refine TC.open pul ?_
  rintro ⟨a, cap⟩
  refine TC.split pul ?_
  refine TC.region ?_
  refine TL.mv ?_
  refine TL.mv ?_
  refine TL.nc ?_
  refine TL.val rfl rfl rfl (Y.load rfl sc85 rfl ceoD) ?_
  refine TL.mv ?_
  refine TL.val rfl rfl rfl (Y.bin rfl rfl rfl (br_shr32 (n := 24))) ?_
  refine TL.val rfl rfl rfl (Y.conv rfl Try.underlying22 Try.underlying5 rfl (cv_32_8)) ?_
  refine TL.mv ?_
  refine TL.val rfl rfl rfl (Y.bin rfl rfl rfl (br_shr32 (n := 16))) ?_
  refine TL.val rfl rfl rfl (Y.conv rfl Try.underlying22 Try.underlying5 rfl (cv_32_8)) ?_
  refine TL.mv ?_
  refine TL.val rfl rfl rfl (Y.bin rfl rfl rfl (br_shr32 (n := 8))) ?_
  refine TL.val rfl rfl rfl (Y.conv rfl Try.underlying22 Try.underlying5 rfl (cv_32_8)) ?_
  refine TL.mv ?_
  refine TL.val rfl rfl rfl (Y.conv rfl Try.underlying22 Try.underlying5 rfl (cv_32_8)) ?_
  refine TL.eff rfl rfl rfl (X.lit rfl el85 rfl rfl rfl (by decide) rfl) ?_
  rintro _ _ ⟨g19, rfl, rfl⟩
  refine TL.eff rfl rfl rfl (X.appendS rfl el85 rfl pul rfl (by first | exact Src.owns Try.underlying85 inn | exact Src.rds Try.underlying85 inn | exact Src.reads (by assumption) Try.underlying85 inn) (by simp only [maxLen]; omega) (by omega)) ?_
  rintro _ _ ⟨a20, c20, rfl, rfl⟩
  refine TL.nc ?_
  refine TL.eff0 rfl rfl (by first | exact X.store rfl sz85 rfl rfl rfl pul lnn (by first | exact setM | rfl) | exact X.storeOwn rfl sz85 rfl (Nat.zero_add _).symm rfl rfl pul lnn (by first | exact setML | rfl) | exact X.storeOwn rfl sz85 rfl rfl rfl rfl pul lnn (by first | exact setML | rfl)) ?_
  rintro _ _ rfl
  refine TL.nil ?_
  refine TQ.endE (res0 rfl) (⟨rfl, rfl⟩) ?_
  exact (put pul (by rfl) pul (by simp [be32]) (by simp [be32]) ett)
--REG (*rostrum/wire.Writer).Bytes : _ _ ⟨rfl, rfl⟩ => (wr.BytesR_fn _ _ _ _ _ _ (by first | assumption | rfl | omega) WL! _)
theorem Bytes_fn (A : SA) (b n : Nat) (s : Option Addr) (cap : Nat) (l m : List UInt8) (hA : Reads A 1 (.slice s n cap) n (m.map v8)) (hn : m.length = n) (hl : l.length + n ≤ 1099511627776) (L : List SA) :
    Fn Try.prog 48 [pt b 0, .slice s n cap] (W b l :: A :: L) (fun v L' => v = .tuple #[] ∧ L' = W b (l ++ m) :: A :: L) := by
  subst hn
  refine Fn.of (N := 11) Try.func48 rfl rfl ?_
  intro Xh
  refine TC.open pul ?_
  rintro ⟨a, c⟩
  refine TC.split pul ?_
  refine TC.region ?_
  refine TL.mv ?_
  refine TL.mv ?_
  refine TL.nc ?_
  refine TL.val rfl rfl rfl (Y.load rfl sc85 rfl ceoD) ?_
  refine TL.mv ?_
  refine TL.eff rfl rfl rfl (X.appendS rfl el85 rfl pul rfl (Src.reads hA Try.underlying23 inn) (by simp only [maxLen]; omega) (by omega)) ?_
  rintro _ _ ⟨a9, c9, rfl, rfl⟩
  refine TL.nc ?_
  refine TL.eff0 rfl rfl (by first | exact X.store rfl sz85 rfl rfl rfl pul lnn (by first | exact setM | rfl) | exact X.storeOwn rfl sz85 rfl (Nat.zero_add _).symm rfl rfl pul lnn (by first | exact setML | rfl) | exact X.storeOwn rfl sz85 rfl rfl rfl rfl pul lnn (by first | exact setML | rfl)) ?_
  rintro _ _ rfl
  refine TL.nil ?_
  refine TQ.endE (res0 rfl) (⟨rfl, rfl⟩) ?_
  exact (put pul (by rfl) pul (by simp) (by simp) ett)
theorem BytesR_fn (b n : Nat) (s : Option Addr) (cap : Nat) (l m : List UInt8) (hn : m.length = n) (hl : l.length + n ≤ 1099511627776) (L : List SA) :
    Fn Try.prog 48 [pt b 0, .slice s n cap] (W b l :: SA.rds 1 (.slice s n cap) n (m.map v8) :: L) (fun v L' => v = .tuple #[] ∧ L' = W b (l ++ m) :: SA.rds 1 (.slice s n cap) n (m.map v8) :: L) := Bytes_fn _ b n s cap l m Reads.rds hn hl L
end wr
end Go.Proofs.Ytomplpdeeomehaa


/- The reader: its contracts; bytes.Clone. -/
namespace Go.Proofs.Ytomplpdeeomehaa
set_option linter.unusedVariables false
set_option linter.unusedSimpArgs false
open Go.RowKit
namespace rd
namespace FxWireR
set_option maxRecDepth 100000
theorem el23 : Elt Try.prog 23 5 1 1 (.int .u8 0) := ⟨Try.underlying23, by kernel_rfl, rfl, by decide, by simp [Value.cells, Value.oneCell']⟩
theorem fo89_0 : Program.fieldOff Try.prog 89 0 = some 0 := by kernel_rfl
theorem fo89_1 : Program.fieldOff Try.prog 89 1 = some 1 := by kernel_rfl
theorem pl89 : Program.places Try.prog 89 = some [(0, 1), (1, 1)] := by kernel_rfl
theorem sc23 : Program.isSc Try.prog 23 = true := by kernel_rfl
theorem sc4 : Program.isSc Try.prog 4 = true := by kernel_rfl
theorem sc5 : Program.isSc Try.prog 5 = true := by kernel_rfl
theorem sl23 : Program.slI Try.prog 23 = some 1 := by kernel_rfl
theorem sz23 : (Try.prog.info? 23).map (·.size) = some 1 := by kernel_rfl
theorem sz4 : (Try.prog.info? 4).map (·.size) = some 1 := by kernel_rfl
theorem sz5 : (Try.prog.info? 5).map (·.size) = some 1 := by kernel_rfl
theorem zc89 : Program.zeroC Try.prog 89 = some #[.slice none 0 0, .bool false] := by kernel_rfl
end FxWireR
open FxWireR
--REG bytes.Clone : _ _ ⟨a{d}, c{d}, rfl, rfl⟩ => (rd.Clone_fn _ _ _ _ (by first | assumption | rfl) (by omega) _)
theorem Clone_gen (A : SA) (a : Option Addr) (n cap : Nat) (l : List UInt8) (hA : Reads A 1 (.slice a n cap) n (l.map v8)) (hn : l.length = n) (hl : n ≤ 140737488351232) (L : List SA) :
    Fn Try.prog 25 [.slice a n cap] (A :: L) (fun v L' => ∃ a' c', v = .slice a' n c' ∧ L' = SA.owns 5 1 (.slice a' n c') n (l.map v8) :: A :: L) := by
  subst hn
  refine Fn.of (N := 8) Try.func25 rfl rfl ?_
  intro Xh
  refine TC.know (reads_cap hA inn) ?_
  rintro ⟨-, -, -, hnone⟩
  refine TC.seq (TC.region ?_)
  refine TL.sg ?_
  refine TL.nil (TQ.next (TC.seq (TC.seq (TC.region ?_))))
  refine TL.mv ?_
  refine TL.val rfl rfl rfl (Y.eqNilS rfl Try.underlying23 rfl rfl) ?_
  refine TL.nil (TQ.next ?_)
  refine TC.cond rfl (fun c0 => ?_) (fun c0 => ?_)
  · try simp only [zA, zB, zC, zD, zE, zF, zG, zH, zI, zJ] at c0
    have ha : a = none := by cases a <;> simp_all
    have h0 := hnone ha
    obtain rfl : l = [] := List.eq_nil_of_length_eq_zero h0
    refine TC.to (Ent.nilOwn 5 1) ?_
    refine TC.seq (TC.region ?_)
    refine TL.sg ?_
    refine TL.nil (TQ.next (TC.ret (TQ.then_ret ?_)))
    refine TQ.retE (res1 rfl rfl) (⟨_, _, rfl, rfl⟩) ?_
    exact ett
  · try simp only [zA, zB, zC, zD, zE, zF, zG, zH, zI, zJ] at c0
    refine TC.skip (TQ.next (TC.seq (TC.region ?_)))
    refine TL.eff rfl rfl rfl (X.lit rfl el23 rfl rfl rfl (by decide) rfl) ?_
    rintro _ _ ⟨g5, rfl, rfl⟩
    refine TL.mv ?_
    refine TL.eff rfl rfl rfl (X.appendS rfl el23 rfl pul rfl (Src.reads hA Try.underlying23 inn) (by simp only [maxLen]; omega) (by omega)) ?_
    rintro _ _ ⟨a7, c7, rfl, rfl⟩
    simp only [Nat.zero_add, List.nil_append]
    refine TL.sg ?_
    refine TL.nil (TQ.next (TC.ret ?_))
    refine TQ.retE (res1 rfl rfl) (⟨_, _, rfl, rfl⟩) ?_
    exact ett
theorem Clone_fn (a : Option Addr) (n cap : Nat) (l : List UInt8) (hn : l.length = n) (hl : n ≤ 140737488351232) (L : List SA) :
    Fn Try.prog 25 [.slice a n cap] (SA.rds 1 (.slice a n cap) n (l.map v8) :: L) (fun v L' => ∃ a' c', v = .slice a' n c' ∧ L' = SA.owns 5 1 (.slice a' n c') n (l.map v8) :: SA.rds 1 (.slice a n cap) n (l.map v8) :: L) := Clone_gen _ a n cap l Reads.rds hn hl L
def rdB (k : Nat) (l : List UInt8) (bad : Bool) : Bool := bad || decide (l.length < k)
def rdL (k : Nat) (l : List UInt8) (bad : Bool) : List UInt8 := if rdB k l bad then l else l.drop k
def rdV (k : Nat) (l : List UInt8) (bad : Bool) : List UInt8 := if rdB k l bad then [] else l.take k
theorem rdV_len (k : Nat) (l : List UInt8) (bad : Bool) : (rdV k l bad).length ≤ l.length := by unfold rdV; split <;> simp <;> omega
def R (b : Nat) (l : List UInt8) (bad : Bool) : SA := SA.ex fun x : Option Addr × Nat => SA.star (SA.blk b #[.slice x.1 l.length x.2, .bool bad] 89) (SA.rds 1 (.slice x.1 l.length x.2) l.length (l.map v8))
theorem put {b n cap : Nat} {bad : Bool} {a : Option Addr} {l : List UInt8} {cs : List Value} {cb : Array Value} {L L1 L2 L3 : List SA} (h1 : Pull (SA.blk b cb 89) L L1) (hb : cb = #[.slice a n cap, .bool bad]) (h2 : Pull (SA.rds 1 (.slice a n cap) n cs) L1 L2) (hn : l.length = n) (hc : l.map v8 = cs) (hE : Ent L2 L3) : Ent L (R b l bad :: L3) := by
  subst hb; subst hn; subst hc
  exact h1.ent.trans ((h2.ent.under _).trans ((Ent.unstarE.trans (Ent.exE (f := fun x : Option Addr × Nat => SA.star (SA.blk b #[.slice x.1 l.length x.2, .bool bad] 89) (SA.rds 1 (.slice x.1 l.length x.2) l.length (l.map v8))) (a, cap))).trans (hE.under _)))
--REG rostrum/wire.NewReader : _ _ ⟨p{d}, rfl, rfl⟩ => (rd.New_fn _ _ _ _ (by first | assumption | rfl) (by omega) _)
theorem New_gen (A : SA) (a : Option Addr) (n cap : Nat) (l : List UInt8) (hA : Reads A 1 (.slice a n cap) n (l.map v8)) (hn : l.length = n) (hl : n ≤ 140737488351232) (L : List SA) :
    Fn Try.prog 26 [.slice a n cap] (A :: L) (fun v L' => ∃ p, v = pt p 0 ∧ L' = R p l false :: A :: L) := by
  subst hn
  refine Fn.of (N := 7) Try.func26 rfl rfl ?_
  intro Xh
  refine TC.seq (TC.region ?_)
  refine TL.sg ?_
  refine TL.nil (TQ.next (TC.seq (TC.region ?_)))
  refine TL.mv ?_
  refine TL.eff rfl rfl rfl (X.cl rfl Try.func25 rfl (h := (Clone_gen A _ _ _ l hA rfl hl _))) ?_
  rintro _ _ ⟨a4, c4, rfl, rfl⟩
  refine TL.val rfl rfl rfl (Y.buildS rfl rfl pl89 zc89 rfl) ?_
  refine TL.eff rfl rfl rfl (X.boxA rfl rfl) ?_
  rintro _ _ ⟨b6, rfl, rfl⟩
  refine TL.sg ?_
  refine TL.nil (TQ.next (TC.ret ?_))
  refine TQ.retE (res1 rfl rfl) (⟨_, rfl, rfl⟩) ?_
  exact ((Pull.ent (A := SA.owns 5 1 (.slice a4 l.length c4) l.length (l.map v8)) pul).trans (Ent.freeze.trans (put pul (by rfl) pul rfl rfl ett)))
theorem New_fn (a : Option Addr) (n cap : Nat) (l : List UInt8) (hn : l.length = n) (hl : n ≤ 140737488351232) (L : List SA) :
    Fn Try.prog 26 [.slice a n cap] (SA.rds 1 (.slice a n cap) n (l.map v8) :: L) (fun v L' => ∃ p, v = pt p 0 ∧ L' = R p l false :: SA.rds 1 (.slice a n cap) n (l.map v8) :: L) := New_gen _ a n cap l Reads.rds hn hl L
--REG (*rostrum/wire.Reader).Left : _ _ ⟨rfl, rfl⟩ => (rd.Left_fn _ _ _ _)
theorem Left_fn (b : Nat) (l : List UInt8) (bad : Bool) (L : List SA) : Fn Try.prog 30 [pt b 0] (R b l bad :: L) (fun v L' => v = vN l.length ∧ L' = R b l bad :: L) := by
  refine Fn.of (N := 10) Try.func30 rfl rfl ?_
  intro Xh
  refine TC.open pul ?_
  rintro ⟨a, cap⟩
  refine TC.split pul ?_
  refine TC.seq (TC.region ?_)
  refine TL.sg ?_
  refine TL.nil (TQ.next (TC.seq (TC.seq (TC.region ?_))))
  refine TL.mv ?_
  refine TL.val rfl rfl rfl (by first | exact Y.eqNilP rfl Try.underlying69 rfl rfl | exact Y.eqNil0 rfl Try.underlying69 rfl rfl) ?_
  refine TL.nil (TQ.next ?_)
  refine TC.cond_f rfl ?_
  refine TC.skip (TQ.next (TC.seq (TC.region ?_)))
  refine TL.mv ?_
  refine TL.nc ?_
  refine TL.val rfl rfl rfl (Y.fieldAddr rfl fo89_0 rfl nqq) ?_
  refine TL.val rfl rfl rfl (Y.load rfl sc23 rfl ceoD) ?_
  refine TL.val rfl rfl rfl (Y.len rfl Try.underlying23 rfl) ?_
  refine TL.sg ?_
  refine TL.nil (TQ.next (TC.ret ?_))
  refine TQ.retE (res1 rfl rfl) (⟨rfl, rfl⟩) ?_
  exact (put pul (by rfl) pul rfl rfl ett)
--REG (*rostrum/wire.Reader).Bad : _ _ ⟨rfl, rfl⟩ => (rd.Bad_fn _ _ _ _)
theorem Bad_fn (b : Nat) (l : List UInt8) (bad : Bool) (L : List SA) : Fn Try.prog 28 [pt b 0] (R b l bad :: L) (fun v L' => v = .bool bad ∧ L' = R b l bad :: L) := by
  refine Fn.of (N := 11) Try.func28 rfl rfl ?_
  intro Xh
  refine TC.open pul ?_
  rintro ⟨a, cap⟩
  refine TC.split pul ?_
  refine TC.seq (TC.region ?_)
  refine TL.sg ?_
  refine TL.nil (TQ.next (TC.seq (TC.region ?_)))
  refine TL.mv ?_
  refine TL.val rfl rfl rfl (by first | exact Y.eqNilP rfl Try.underlying69 rfl rfl | exact Y.eqNil0 rfl Try.underlying69 rfl rfl) ?_
  refine TL.mv ?_
  refine TL.mg ?_
  refine TL.valG rfl rfl rfl (Y.nilCheck rfl rfl) ?_
  refine TL.valG rfl rfl rfl (Y.fieldAddr rfl fo89_1 rfl nqq) ?_
  refine TL.valG rfl rfl rfl (Y.load rfl sc4 rfl ceoD) ?_
  refine TL.val rfl rfl rfl (Y.pick_f rfl rfl rfl) ?_
  refine TL.sg ?_
  refine TL.nil (TQ.next (TC.ret ?_))
  refine TQ.retE (res1 rfl rfl) (⟨rfl, rfl⟩) ?_
  exact (put pul (by rfl) pul rfl rfl ett)
theorem cut_t (b k : Nat) (l : List UInt8) (hk : k < 9223372036854775808) (L : List SA) : Fn Try.prog 51 [pt b 0, vN k] (R b l true :: L) (fun v L' => v = .slice none 0 0 ∧ L' = R b l true :: L) := by
  refine Fn.of (N := 42) Try.func51 rfl rfl ?_
  intro Xh
  refine TC.seq (TC.region ?_)
  refine TL.sg ?_
  refine TL.nil (TQ.next (TC.seq (TC.seq (TC.region ?_))))
  refine TL.mv ?_
  refine TL.eff rfl rfl rfl (X.cl rfl Try.func28 rfl (h := (rd.Bad_fn _ _ _ _))) ?_
  rintro _ _ ⟨rfl, rfl⟩
  refine TL.mv ?_
  refine TL.not rfl rfl rfl ?_
  refine TL.not rfl rfl rfl ?_
  refine TL.val rfl rfl rfl (Y.pick_t rfl rfl rfl) ?_
  refine TL.mv ?_
  refine TL.not rfl rfl rfl ?_
  refine TL.not rfl rfl rfl ?_
  refine TL.not rfl rfl rfl ?_
  refine TL.not rfl rfl rfl ?_
  refine TL.not rfl rfl rfl ?_
  refine TL.not rfl rfl rfl ?_
  refine TL.not rfl rfl rfl ?_
  refine TL.val rfl rfl rfl (Y.pick_t rfl rfl rfl) ?_
  refine TL.nil (TQ.next ?_)
  refine TC.cond_t rfl ?_
  refine TC.seq (TC.seq (TC.region ?_))
  refine TL.mv ?_
  refine TL.val rfl rfl rfl (by first | exact Y.neNilP rfl Try.underlying69 rfl rfl | exact Y.neNil0 rfl Try.underlying69 rfl rfl) ?_
  refine TL.is true isf ?_
  refine TL.nil (TQ.next ?_)
  refine TC.cond_t rfl ?_
  refine TC.open pul ?_
  rintro ⟨a, cap⟩
  refine TC.split pul ?_
  refine TC.region ?_
  refine TL.mv ?_
  refine TL.nc ?_
  refine TL.val rfl rfl rfl (Y.fieldAddr rfl fo89_1 rfl nqq) ?_
  refine TL.eff0 rfl rfl (by first | exact X.store rfl sz4 rfl rfl rfl pul lnn (by first | exact setM | rfl) | exact X.storeOwn rfl sz4 rfl (Nat.zero_add _).symm rfl rfl pul lnn (by first | exact setML | rfl) | exact X.storeOwn rfl sz4 rfl rfl rfl rfl pul lnn (by first | exact setML | rfl)) ?_
  rintro _ _ rfl
  refine TL.nil (TQ.next (TC.seq (TC.region ?_)))
  refine TL.sg ?_
  refine TL.nil (TQ.next (TC.ret (TQ.then_ret ?_)))
  refine TQ.retE (res1 rfl rfl) (⟨rfl, rfl⟩) ?_
  exact (put pul (by rfl) pul rfl rfl ett)
theorem cut_s (b k : Nat) (l : List UInt8) (hk : k < 9223372036854775808) (hl : l.length < k) (L : List SA) : Fn Try.prog 51 [pt b 0, vN k] (R b l false :: L) (fun v L' => v = .slice none 0 0 ∧ L' = R b l true :: L) := by
  refine Fn.of (N := 42) Try.func51 rfl rfl ?_
  intro Xh
  refine TC.seq (TC.region ?_)
  refine TL.sg ?_
  refine TL.nil (TQ.next (TC.seq (TC.seq (TC.region ?_))))
  refine TL.mv ?_
  refine TL.eff rfl rfl rfl (X.cl rfl Try.func28 rfl (h := (rd.Bad_fn _ _ _ _))) ?_
  rintro _ _ ⟨rfl, rfl⟩
  refine TL.mv ?_
  refine TL.mg ?_
  refine TL.valG rfl rfl rfl (Y.bin rfl rfl rfl (br_ltN (n := 0))) ?_
  refine TL.is false isf ?_
  refine TL.val rfl rfl rfl (Y.pick_f rfl rfl rfl) ?_
  refine TL.mv ?_
  refine TL.mg ?_
  refine TL.open pul ?_
  rintro ⟨a, cap⟩
  refine TL.split pul ?_
  refine TL.mg ?_
  refine TL.valG rfl rfl rfl (Y.nilCheck rfl rfl) ?_
  refine TL.valG rfl rfl rfl (Y.fieldAddr rfl fo89_0 rfl nqq) ?_
  refine TL.valG rfl rfl rfl (Y.load rfl sc23 rfl ceoD) ?_
  refine TL.valG rfl rfl rfl (Y.len rfl Try.underlying23 rfl) ?_
  refine TL.valG rfl rfl rfl (Y.bin rfl rfl rfl (br_gtN)) ?_
  refine TL.is true isf ?_
  refine TL.val rfl rfl rfl (Y.pick_f rfl rfl rfl) ?_
  refine TL.nil (TQ.next ?_)
  refine TC.cond_t rfl ?_
  refine TC.seq (TC.seq (TC.region ?_))
  refine TL.mv ?_
  refine TL.val rfl rfl rfl (by first | exact Y.neNilP rfl Try.underlying69 rfl rfl | exact Y.neNil0 rfl Try.underlying69 rfl rfl) ?_
  refine TL.is true isf ?_
  refine TL.nil (TQ.next ?_)
  refine TC.cond_t rfl ?_
  refine TC.region ?_
  refine TL.mv ?_
  refine TL.nc ?_
  refine TL.val rfl rfl rfl (Y.fieldAddr rfl fo89_1 rfl nqq) ?_
  refine TL.eff0 rfl rfl (by first | exact X.store rfl sz4 rfl rfl rfl pul lnn (by first | exact setM | rfl) | exact X.storeOwn rfl sz4 rfl (Nat.zero_add _).symm rfl rfl pul lnn (by first | exact setML | rfl) | exact X.storeOwn rfl sz4 rfl rfl rfl rfl pul lnn (by first | exact setML | rfl)) ?_
  rintro _ _ rfl
  refine TL.nil (TQ.next (TC.seq (TC.region ?_)))
  refine TL.sg ?_
  refine TL.nil (TQ.next (TC.ret (TQ.then_ret ?_)))
  refine TQ.retE (res1 rfl rfl) (⟨rfl, rfl⟩) ?_
  exact (put pul (by rfl) pul rfl rfl ett)
theorem cut_o (b k : Nat) (l : List UInt8) (hk : k < 9223372036854775808) (hl : k ≤ l.length) (L : List SA) : Fn Try.prog 51 [pt b 0, vN k] (R b l false :: L)
    (fun v L' => ∃ a c, v = .slice a k c ∧ L' = SA.rds 1 (.slice a k c) k ((l.take k).map v8) :: R b (l.drop k) false :: L) := by
  refine Fn.of (N := 42) Try.func51 rfl rfl ?_
  intro Xh
  refine TC.seq (TC.region ?_)
  refine TL.sg ?_
  refine TL.nil (TQ.next (TC.seq (TC.seq (TC.region ?_))))
  refine TL.mv ?_
  refine TL.eff rfl rfl rfl (X.cl rfl Try.func28 rfl (h := (rd.Bad_fn _ _ _ _))) ?_
  rintro _ _ ⟨rfl, rfl⟩
  refine TL.mv ?_
  refine TL.mg ?_
  refine TL.valG rfl rfl rfl (Y.bin rfl rfl rfl (br_ltN (n := 0))) ?_
  refine TL.is false isf ?_
  refine TL.val rfl rfl rfl (Y.pick_f rfl rfl rfl) ?_
  refine TL.mv ?_
  refine TL.mg ?_
  refine TL.open pul ?_
  rintro ⟨a, cap⟩
  refine TL.split pul ?_
  refine TL.mg ?_
  refine TL.valG rfl rfl rfl (Y.nilCheck rfl rfl) ?_
  refine TL.valG rfl rfl rfl (Y.fieldAddr rfl fo89_0 rfl nqq) ?_
  refine TL.valG rfl rfl rfl (Y.load rfl sc23 rfl ceoD) ?_
  refine TL.valG rfl rfl rfl (Y.len rfl Try.underlying23 rfl) ?_
  refine TL.valG rfl rfl rfl (Y.bin rfl rfl rfl (br_gtN)) ?_
  refine TL.is false isf ?_
  refine TL.val rfl rfl rfl (Y.pick_f rfl rfl rfl) ?_
  refine TL.nil (TQ.next ?_)
  refine TC.cond_f rfl ?_
  refine TC.skip (TQ.next (TC.seq ?_))
  refine TC.know (reads_cap Reads.rds (a := a) (n := l.length) (cap := cap) (cs := l.map v8) inn) ?_
  rintro ⟨hc1, hc2, -, -⟩
  refine TC.region ?_
  refine TL.mv ?_
  refine TL.nc ?_
  refine TL.val rfl rfl rfl (Y.fieldAddr rfl fo89_0 rfl nqq) ?_
  refine TL.val rfl rfl rfl (Y.load rfl sc23 rfl ceoD) ?_
  refine TL.mv ?_
  refine TL.val rfl rfl rfl (Y.sliceHi2 rfl Try.underlying23 sz5 rfl rfl (by omega)) ?_
  refine TL.sg ?_
  refine TL.nil (TQ.next (TC.seq (TC.region ?_)))
  refine TL.mv ?_
  refine TL.mv ?_
  refine TL.nc ?_
  refine TL.val rfl rfl rfl (Y.fieldAddr rfl fo89_0 rfl nqq) ?_
  refine TL.val rfl rfl rfl (Y.load rfl sc23 rfl ceoD) ?_
  refine TL.mv ?_
  refine TL.val rfl rfl rfl (Y.sliceLo rfl Try.underlying23 sz5 rfl rfl (by omega)) ?_
  refine TL.nc ?_
  refine TL.val rfl rfl rfl (Y.fieldAddr rfl fo89_0 rfl nqq) ?_
  refine TL.eff0 rfl rfl (by first | exact X.store rfl sz23 rfl rfl rfl pul lnn (by first | exact setM | rfl) | exact X.storeOwn rfl sz23 rfl (Nat.zero_add _).symm rfl rfl pul lnn (by first | exact setML | rfl) | exact X.storeOwn rfl sz23 rfl rfl rfl rfl pul lnn (by first | exact setML | rfl)) ?_
  rintro _ _ rfl
  refine TL.nil (TQ.next (TC.seq (TC.region ?_)))
  refine TL.mv ?_
  refine TL.sg ?_
  refine TL.nil (TQ.next (TC.ret ?_))
  refine TQ.retE (res1 rfl rfl) (⟨_, _, rfl, rfl⟩) ?_
  exact ((Pull.ent (A := SA.rds 1 (.slice a l.length cap) l.length (l.map v8)) pul).trans ((Ent.cutRds hl).trans (Ent.under _ (put pul (by rfl) (l := l.drop k) (by first | exact Pull.here | exact Pull.there .here) (by simp) rfl ett))))
--REG (*rostrum/wire.Reader).cut : _ _ ⟨a{d}, c{d}, rfl, rfl⟩ => (rd.cut_fn _ {1} _ _ (by omega) _)
theorem cut_fn (b k : Nat) (l : List UInt8) (bad : Bool) (hk : k < 9223372036854775808) (L : List SA) : Fn Try.prog 51 [pt b 0, vN k] (R b l bad :: L)
    (fun v L' => ∃ a c, v = .slice a (rdV k l bad).length c ∧ L' = SA.rds 1 (.slice a (rdV k l bad).length c) (rdV k l bad).length ((rdV k l bad).map v8) :: R b (rdL k l bad) (rdB k l bad) :: L) := by
  have nilR : ∀ M : List SA, Ent M (SA.rds 1 (.slice none 0 0) 0 (([] : List UInt8).map v8) :: M) := fun M => (Ent.nilOwn 0 1).trans Ent.freeze
  by_cases hB : rdB k l bad = true
  · have e1 : rdV k l bad = [] := by simp [rdV, hB]
    have e2 : rdL k l bad = l := by simp [rdL, hB]
    rw [e1, e2, hB]
    cases bad with
    | true => exact (cut_t b k l hk L).mono fun v L' ⟨h1, h2⟩ => ⟨_, nilR _, none, 0, h1, by rw [h2]; rfl⟩
    | false => exact (cut_s b k l hk (by simpa [rdB] using hB) L).mono fun v L' ⟨h1, h2⟩ => ⟨_, nilR _, none, 0, h1, by rw [h2]; rfl⟩
  · have hB' : bad = false ∧ k ≤ l.length := by simpa [rdB] using hB
    obtain ⟨rfl, hl⟩ := hB'
    have e0 : rdB k l false = false := by simpa using hB
    have e1 : rdV k l false = l.take k := by simp [rdV, e0]
    have e2 : rdL k l false = l.drop k := by simp [rdL, e0]
    rw [e1, e2, e0, List.length_take, Nat.min_eq_left hl]
    exact cut_o b k l hk hl L
def num1 (x : UInt32) (c : UInt8) : UInt32 := shl32 x 8 ||| c.toUInt32
def num (l : List UInt8) : UInt32 := l.foldl num1 0
def numK (l : List UInt8) (k : Nat) : UInt32 := num (l.take k)
theorem numK_s (l : List UInt8) (k : Nat) (h : k < l.length) : numK l (k + 1) = num1 (numK l k) (l.getD k 0) := by
  unfold numK num
  rw [List.take_add_one, List.foldl_append, List.getD_eq_getElem?_getD, List.getElem?_eq_getElem h]
  rfl
theorem numK_all (l : List UInt8) : numK l l.length = num l := by rw [numK, List.take_length]
--REG (*rostrum/wire.Reader).number : _ _ ⟨rfl, rfl⟩ => (rd.number_fn _ {1} _ _ (by omega) _)
theorem number_fn (b k : Nat) (l : List UInt8) (bad : Bool) (hk : k ≤ 8) (L : List SA) : Fn Try.prog 47 [pt b 0, vN k] (R b l bad :: L)
    (fun v L' => v = v32 (num (rdV k l bad)) ∧ L' = R b (rdL k l bad) (rdB k l bad) :: L) := by
  have hV : (rdV k l bad).length ≤ 8 := by unfold rdV; split <;> simp <;> omega
  refine Fn.of (N := 23) Try.func47 rfl rfl ?_
  intro Xh
  refine TC.seq (TC.region ?_)
  refine TL.sg ?_
  refine TL.nil (TQ.next (TC.seq (TC.region ?_)))
  refine TL.sg ?_
  refine TL.nil (TQ.next (TC.seq (TC.seq (TC.region ?_))))
  refine TL.mv ?_
  refine TL.mv ?_
  refine TL.eff rfl rfl rfl (X.cl rfl Try.func51 rfl (h := (rd.cut_fn _ _ _ _ (by omega) _))) ?_
  rintro _ _ ⟨a10, c10, rfl, rfl⟩
  generalize rdV k l bad = V at hV ⊢
  refine TL.val rfl rfl rfl (Y.len rfl Try.underlying23 rfl) ?_
  refine TL.mv ?_
  refine TL.nil (TQ.next (TC.block ?_))
  refine TC.loopF (ι := Nat) [] (fun j => j ≤ V.length) (fun j => [(12, some (vN j)), (5, some (v32 (numK V j)))]) (fun j => []) (fun j => V.length - j) (0) (by omega) ⟨rfl, rfl, trivial⟩ Pulls.nil ?_
  rintro j hj F' L' rfl hL'
  simp only [List.cons_append, List.nil_append] at hL'
  subst hL'
  refine TC.seq (TC.region ?_)
  refine TL.val rfl rfl rfl (Y.bin rfl rfl rfl (br_ltN)) ?_
  refine TL.nil (TQ.next (TC.seq ?_))
  refine TC.cond rfl (fun c0 => ?_) (fun c0 => ?_)
  · try simp only [zA, zB, zC, zD, zE, zF, zG, zH, zI, zJ] at c0
    refine TC.skip (TQ.next (TC.seq (TC.block (TC.seq ?_))))
    refine TC.know (reads_some (Reads.rds (v := .slice a10 V.length c10)) inn (by omega) (by omega)) ?_
    rintro ⟨g, off, rfl⟩
    refine TC.region ?_
    refine TL.val rfl rfl rfl (by first | exact Y.indexSlB rfl sl23 rfl rfl (by omega) nqq | exact Y.indexSl rfl sl23 rfl rfl (by omega) nqq) ?_
    refine TL.val rfl rfl rfl (Y.load rfl sc5 rfl ceo8) ?_
    refine TL.sg ?_
    refine TL.nil (TQ.next (TC.region ?_))
    refine TL.mv ?_
    refine TL.val rfl rfl rfl (Y.bin rfl rfl rfl (br_shl32 (n := 8))) ?_
    refine TL.mv ?_
    refine TL.val rfl rfl rfl (Y.conv rfl Try.underlying5 Try.underlying22 rfl (cv_8_32)) ?_
    refine TL.val rfl rfl rfl (Y.bin rfl rfl rfl (br_or32)) ?_
    refine TL.sg ?_
    refine TL.nil (TQ.block_normal (TQ.next (TC.region ?_)))
    refine TL.val rfl rfl rfl (Y.bin rfl rfl rfl (br_addN (n := 1) (by omega))) ?_
    refine TL.mv ?_
    refine TL.nil ?_
    rw [show shl32 (numK V j) 8 ||| (V.getD j 0).toUInt32 = numK V (j + 1) from (numK_s V j (by omega)).symm]
    refine TQ.loopF (j + 1) (by omega) (by omega) ⟨rfl, rfl, trivial⟩ grw ?_ ?_ ?_
    · kernel_rfl
    · rfl
    · simp only [List.cons_append, List.nil_append]
      exact ett
  · try simp only [zA, zB, zC, zD, zE, zF, zG, zH, zI, zJ] at c0
    refine TC.exit (TQ.then_exit (TQ.then_exit (TQ.block_exit (TQ.next (TC.seq (TC.region ?_))))))
    refine TL.mv ?_
    refine TL.sg ?_
    refine TL.nil (TQ.next (TC.ret ?_))
    refine TQ.retE (res1 rfl rfl) (⟨by rw [show j = V.length by omega, numK_all], rfl⟩) ?_
    exact ett
--REG (*rostrum/wire.Reader).U8 : _ _ ⟨rfl, rfl⟩ => (rd.U8_fn _ _ _ _)
--REG (*rostrum/wire.Reader).U16 : _ _ ⟨rfl, rfl⟩ => (rd.U16_fn _ _ _ _)
theorem U16_fn (b : Nat) (l : List UInt8) (bad : Bool) (L : List SA) : Fn Try.prog 34 [pt b 0] (R b l bad :: L) (fun v L' => v = v16 (num (rdV 2 l bad)).toUInt16 ∧ L' = R b (rdL 2 l bad) (rdB 2 l bad) :: L) := by
  refine Fn.of (N := 6) Try.func34 rfl rfl ?_
  intro Xh
  refine TC.seq (TC.region ?_)
  refine TL.sg ?_
  refine TL.nil (TQ.next (TC.seq (TC.region ?_)))
  refine TL.mv ?_
  refine TL.eff rfl rfl rfl (X.cl rfl Try.func47 rfl (h := (rd.number_fn _ 2 _ _ (by omega) _))) ?_
  rintro _ _ ⟨rfl, rfl⟩
  refine TL.val rfl rfl rfl (Y.conv rfl Try.underlying22 Try.underlying40 rfl (cv_32_16)) ?_
  refine TL.sg ?_
  refine TL.nil (TQ.next (TC.ret ?_))
  refine TQ.retE (res1 rfl rfl) (⟨rfl, rfl⟩) ?_
  exact ett
--REG (*rostrum/wire.Reader).U32 : _ _ ⟨rfl, rfl⟩ => (rd.U32_fn _ _ _ _)
theorem U32_fn (b : Nat) (l : List UInt8) (bad : Bool) (L : List SA) : Fn Try.prog 27 [pt b 0] (R b l bad :: L) (fun v L' => v = v32 (num (rdV 4 l bad)) ∧ L' = R b (rdL 4 l bad) (rdB 4 l bad) :: L) := by
  refine Fn.of (N := 5) Try.func27 rfl rfl ?_
  intro Xh
  refine TC.seq (TC.region ?_)
  refine TL.sg ?_
  refine TL.nil (TQ.next (TC.seq (TC.region ?_)))
  refine TL.mv ?_
  refine TL.eff rfl rfl rfl (X.cl rfl Try.func47 rfl (h := (rd.number_fn _ 4 _ _ (by omega) _))) ?_
  rintro _ _ ⟨rfl, rfl⟩
  refine TL.sg ?_
  refine TL.nil (TQ.next (TC.ret ?_))
  refine TQ.retE (res1 rfl rfl) (⟨rfl, rfl⟩) ?_
  exact ett
--REG (*rostrum/wire.Reader).Take : _ _ ⟨a{d}, c{d}, rfl, rfl⟩ => (rd.Take_fn _ {1} _ _ (by omega) (by omega) _)
theorem Take_fn (b k : Nat) (l : List UInt8) (bad : Bool) (hk : k < 9223372036854775808) (hl : l.length ≤ 140737488351232) (L : List SA) : Fn Try.prog 35 [pt b 0, vN k] (R b l bad :: L)
    (fun v L' => ∃ a c, v = .slice a (rdV k l bad).length c ∧ L' = SA.owns 5 1 (.slice a (rdV k l bad).length c) (rdV k l bad).length ((rdV k l bad).map v8) :: R b (rdL k l bad) (rdB k l bad) :: L) := by
  have hV := rdV_len k l bad
  refine Fn.of (N := 9) Try.func35 rfl rfl ?_
  intro Xh
  refine TC.seq (TC.region ?_)
  refine TL.sg ?_
  refine TL.nil (TQ.next (TC.seq (TC.region ?_)))
  refine TL.mv ?_
  refine TL.mv ?_
  refine TL.eff rfl rfl rfl (X.cl rfl Try.func51 rfl (h := (rd.cut_fn _ _ _ _ (by omega) _))) ?_
  rintro _ _ ⟨a7, c7, rfl, rfl⟩
  refine TL.eff rfl rfl rfl (X.cl rfl Try.func25 rfl (h := (rd.Clone_fn _ _ _ _ (by first | assumption | rfl) (by omega) _))) ?_
  rintro _ _ ⟨a8, c8, rfl, rfl⟩
  refine TL.sg ?_
  refine TL.nil (TQ.next (TC.ret ?_))
  refine TQ.retE (res1 rfl rfl) (⟨_, _, rfl, rfl⟩) ?_
  exact ett
end rd
end Go.Proofs.Ytomplpdeeomehaa


/- The rotations. -/
namespace Go.Proofs.Ytomplpdeeomehaa
set_option linter.unusedVariables false
set_option linter.unusedSimpArgs false
open Go.RowKit
namespace rot
--FACTS
def rotl (x : UInt32) (n : Nat) : UInt32 := shl32 x n ||| shr32 x (32 - n)
end rot
end Go.Proofs.Ytomplpdeeomehaa


/- The block of SHA-1, as the program has it. -/
namespace Go.Proofs.Ytomplpdeeomehaa
set_option linter.unusedVariables false
set_option linter.unusedSimpArgs false
open Go.RowKit
namespace sha
open rot
theorem low5 (n : Nat) (hn : n < 32) : (UInt64.ofNat n &&& 31).toNat = n := by
  have h := Nat.and_two_pow_sub_one_eq_mod n 5
  simp only [Nat.reducePow, Nat.reduceSub] at h
  rw [UInt64.toNat_and]
  simp only [UInt64.toNat_ofNat', UInt64.reduceToNat, Nat.reducePow]
  rw [Nat.mod_eq_of_lt (by omega), h]; omega
theorem low5s (n : Nat) (hn : n < 32) : ((32 : UInt64) - (UInt64.ofNat n &&& 31)).toNat = 32 - n := by
  rw [UInt64.toNat_sub, low5 n hn]
  simp only [UInt64.reduceToNat, Nat.reducePow]; omega
namespace FxShaBlock
set_option maxRecDepth 100000
theorem ag111 : Program.aggN Try.prog 111 = some 80 := by kernel_rfl
theorem ar109 : Program.arrI Try.prog 109 = some (5, 1) := by kernel_rfl
theorem ar111 : Program.arrI Try.prog 111 = some (80, 1) := by kernel_rfl
theorem sc22 : Program.isSc Try.prog 22 = true := by kernel_rfl
theorem sz22 : (Try.prog.info? 22).map (·.size) = some 1 := by kernel_rfl
theorem zc108 : Program.zeroC Try.prog 108 = some ((List.replicate 5 (0 : UInt32)).map v32).toArray := by kernel_rfl
theorem zc111 : Program.zeroC Try.prog 111 = some ((List.replicate 80 (0 : UInt32)).map v32).toArray := by kernel_rfl
end FxShaBlock
open Go.Proofs.Ytomplpdeeomehaa.rd.FxWireR FxShaBlock
theorem bits_fn (x : UInt32) (n : Nat) (hn : n < 32) (L : List SA) : Fn Try.prog 58 [v32 x, vN n] L (fun v L' => v = v32 (rotl x n) ∧ L' = L) := by
  refine Fn.of (N := 17) Try.func58 rfl rfl ?_
  intro Xh
  refine TC.seq (TC.region ?_)
  refine TL.sg ?_
  refine TL.nil (TQ.next (TC.seq (TC.region ?_)))
  refine TL.mv ?_
  refine TL.val rfl rfl rfl (Y.conv rfl Try.underlying3 Try.underlying56 rfl cv_N_64) ?_
  refine TL.val rfl rfl rfl (Y.bin rfl rfl rfl (br_and64 (y := 31))) ?_
  refine TL.sg ?_
  refine TL.nil (TQ.next (TC.seq (TC.region ?_)))
  refine TL.mv ?_
  refine TL.mv ?_
  refine TL.val rfl rfl rfl (Y.bin rfl rfl rfl (br_shl32)) ?_
  refine TL.mv ?_
  refine TL.mv ?_
  refine TL.val rfl rfl rfl (Y.bin rfl rfl rfl (br_sub64 (x := 32))) ?_
  refine TL.val rfl rfl rfl (Y.bin rfl rfl rfl (br_shr32)) ?_
  refine TL.val rfl rfl rfl (Y.bin rfl rfl rfl (br_or32)) ?_
  refine TL.sg ?_
  refine TL.nil (TQ.next (TC.ret ?_))
  refine TQ.retE (res1 rfl rfl) (⟨by rw [low5 n hn, low5s n hn]; rfl, rfl⟩) ?_
  exact ett

/-! ### what it computes -/
def word (bs : List UInt8) (k : Nat) : UInt32 :=
  shl32 (bs.getD (4 * k) 0).toUInt32 24 ||| shl32 (bs.getD (4 * k + 1) 0).toUInt32 16 ||| shl32 (bs.getD (4 * k + 2) 0).toUInt32 8 ||| (bs.getD (4 * k + 3) 0).toUInt32
def fill1 (bs : List UInt8) : Nat → List UInt32
  | 0 => List.replicate 80 0
  | k + 1 => (fill1 bs k).set k (word bs k)
def fill2 (bs : List UInt8) : Nat → List UInt32
  | 0 => fill1 bs 16
  | j + 1 => (fill2 bs j).set (j + 16) (rotl ((fill2 bs j).getD (j + 16 - 3) 0 ^^^ (fill2 bs j).getD (j + 16 - 8) 0 ^^^ (fill2 bs j).getD (j + 16 - 14) 0 ^^^ (fill2 bs j).getD (j + 16 - 16) 0) 1)
theorem fill1_len (bs : List UInt8) : ∀ k, (fill1 bs k).length = 80
  | 0 => by simp [fill1]
  | k + 1 => by simp [fill1, fill1_len bs k]
theorem fill2_len (bs : List UInt8) : ∀ k, (fill2 bs k).length = 80
  | 0 => by simp [fill2, fill1_len]
  | k + 1 => by simp [fill2, fill2_len bs k]
def ff (q : Nat) (b c d : UInt32) : UInt32 := if q = 0 then d ^^^ (b &&& (c ^^^ d)) else if q = 1 then b ^^^ c ^^^ d else if q = 2 then (b &&& c) ||| (d &&& (b ||| c)) else b ^^^ c ^^^ d
def kk (q : Nat) : UInt32 := if q = 0 then 1518500249 else if q = 1 then 1859775393 else if q = 2 then 2400959708 else 3395469782
structure S5 where
  a : UInt32
  b : UInt32
  c : UInt32
  d : UInt32
  e : UInt32
def step (t : Nat) (x : UInt32) (s : S5) : S5 := ⟨rotl s.a 5 + ff (t / 20) s.b s.c s.d + s.e + kk (t / 20) + x, s.a, rotl s.b 30, s.c, s.d⟩
def rounds (ws : List UInt32) (s : S5) : Nat → S5
  | 0 => s
  | k + 1 => step k (ws.getD k 0) (rounds ws s k)
def adds (hs rs : List UInt32) : Nat → List UInt32
  | 0 => hs
  | k + 1 => (adds hs rs k).set k ((adds hs rs k).getD k 0 + rs.getD k 0)
theorem adds_len (hs rs : List UInt32) : ∀ k, (adds hs rs k).length = hs.length
  | 0 => rfl
  | k + 1 => by simp [adds, adds_len hs rs k]
def S5.list (s : S5) : List UInt32 := [s.a, s.b, s.c, s.d, s.e]
def s5 (hs : List UInt32) : S5 := ⟨hs.getD 0 0, hs.getD 1 0, hs.getD 2 0, hs.getD 3 0, hs.getD 4 0⟩
def block (hs : List UInt32) (bs : List UInt8) : List UInt32 := adds hs (rounds (fill2 bs 64) (s5 hs) 80).list 5
theorem ff_0 {q : Nat} {b c d : UInt32} (h : q = 0) : ff q b c d = d ^^^ (b &&& (c ^^^ d)) := by subst h; rfl
theorem ff_1 {q : Nat} {b c d : UInt32} (h : q = 1) : ff q b c d = b ^^^ c ^^^ d := by subst h; rfl
theorem ff_2 {q : Nat} {b c d : UInt32} (h : q = 2) : ff q b c d = (b &&& c) ||| (d &&& (b ||| c)) := by subst h; rfl
theorem ff_3 {q : Nat} {b c d : UInt32} (h : ¬ q = 0) (h1 : ¬ q = 1) (h2 : ¬ q = 2) : ff q b c d = b ^^^ c ^^^ d := by simp [ff, h, h1, h2]
theorem kk_0 {q : Nat} (h : q = 0) : kk q = 1518500249 := by subst h; rfl
theorem kk_1 {q : Nat} (h : q = 1) : kk q = 1859775393 := by subst h; rfl
theorem kk_2 {q : Nat} (h : q = 2) : kk q = 2400959708 := by subst h; rfl
theorem kk_3 {q : Nat} (h : ¬ q = 0) (h1 : ¬ q = 1) (h2 : ¬ q = 2) : kk q = 3395469782 := by simp [kk, h, h1, h2]

set_option maxHeartbeats 4000000 in
theorem block_fn (hb T n cap : Nat) (p : Addr) (hs : List UInt32) (bs : List UInt8) (A : SA) (hA : Reads A 1 (.slice (some p) n cap) n (bs.map v8)) (h5 : hs.length = 5) (hn : 64 ≤ n) (hl : bs.length = n) (L : List SA) :
    Fn Try.prog 57 [pt hb 0, .slice (some p) n cap] (SA.blk hb (hs.map v32).toArray T :: A :: L) (fun v L' => v = .tuple #[] ∧ L' = SA.blk hb ((block hs bs).map v32).toArray T :: A :: L) := by
  refine Fn.of (N := 178) Try.func57 rfl rfl ?_
  intro Xh
  refine TC.seq (TC.region ?_)
  refine TL.eff rfl rfl rfl (X.alloc rfl zc111) ?_
  rintro _ _ ⟨b4, rfl, rfl⟩
  refine TL.nil (TQ.next (TC.seq (TC.seq (TC.region ?_))))
  refine TL.mv ?_
  refine TL.nil (TQ.next (TC.block ?_))
  refine TC.loopF (ι := Nat) [] (fun k => k ≤ 16) (fun k => [(18, some (vN k))]) (fun k => [SA.blk b4 ((fill1 bs k).map v32).toArray 111]) (fun k => 16 - k) (0) (by omega) ⟨rfl, trivial⟩ (Pulls.cons pul Pulls.nil) ?_
  rintro k hk F' L' rfl hL'
  simp only [List.cons_append, List.nil_append] at hL'
  subst hL'
  have hw := fill1_len bs k
  refine TC.seq (TC.region ?_)
  refine TL.val rfl rfl rfl (Y.bin rfl rfl rfl (br_ltN (n := 16))) ?_
  refine TL.nil (TQ.next (TC.seq ?_))
  refine TC.cond rfl (fun c0 => ?_) (fun c0 => ?_)
  · try simp only [zA, zB, zC, zD, zE, zF, zG, zH, zI, zJ] at c0
    refine TC.skip (TQ.next (TC.seq (TC.block (TC.seq (TC.region ?_)))))
    refine TL.mv ?_
    refine TL.sg ?_
    refine TL.nil (TQ.next ?_)
    refine TC.draws 35 _ (by kernel_rfl) (by kernel_rfl) (fun _ h => h) ?_
    refine TA.tk 0 rfl rfl (Y.move rfl rfl) ?_
    refine TA.tk 1 rfl rfl (Y.move rfl rfl) ?_
    refine TA.tk 2 rfl rfl (Y.move rfl rfl) ?_
    refine TA.tk 3 rfl rfl (Y.bin rfl rfl rfl (br_mulN (m := 4) (by omega))) ?_
    refine TA.tk 4 rfl rfl (by first | exact Y.indexSlB rfl sl23 rfl rfl (by omega) nqq | exact Y.indexSl rfl sl23 rfl rfl (by omega) nqq) ?_
    refine TA.tk 5 rfl rfl (Y.load rfl sc5 rfl ceo8) ?_
    refine TA.tk 6 rfl rfl (Y.conv rfl Try.underlying5 Try.underlying22 rfl (cv_8_32)) ?_
    refine TA.tk 7 rfl rfl (Y.bin rfl rfl rfl (br_shl32 (n := 24))) ?_
    refine TA.tk 8 rfl rfl (Y.move rfl rfl) ?_
    refine TA.tk 9 rfl rfl (Y.move rfl rfl) ?_
    refine TA.tk 10 rfl rfl (Y.bin rfl rfl rfl (br_mulN (m := 4) (by omega))) ?_
    refine TA.tk 11 rfl rfl (Y.bin rfl rfl rfl (br_addN (n := 1) (by omega))) ?_
    refine TA.tk 12 rfl rfl (by first | exact Y.indexSlB rfl sl23 rfl rfl (by omega) nqq | exact Y.indexSl rfl sl23 rfl rfl (by omega) nqq) ?_
    refine TA.tk 13 rfl rfl (Y.load rfl sc5 rfl ceo8) ?_
    refine TA.tk 14 rfl rfl (Y.conv rfl Try.underlying5 Try.underlying22 rfl (cv_8_32)) ?_
    refine TA.tk 15 rfl rfl (Y.bin rfl rfl rfl (br_shl32 (n := 16))) ?_
    refine TA.tk 16 rfl rfl (Y.bin rfl rfl rfl (br_or32)) ?_
    refine TA.tk 17 rfl rfl (Y.move rfl rfl) ?_
    refine TA.tk 18 rfl rfl (Y.move rfl rfl) ?_
    refine TA.tk 19 rfl rfl (Y.bin rfl rfl rfl (br_mulN (m := 4) (by omega))) ?_
    refine TA.tk 20 rfl rfl (Y.bin rfl rfl rfl (br_addN (n := 2) (by omega))) ?_
    refine TA.tk 21 rfl rfl (by first | exact Y.indexSlB rfl sl23 rfl rfl (by omega) nqq | exact Y.indexSl rfl sl23 rfl rfl (by omega) nqq) ?_
    refine TA.tk 22 rfl rfl (Y.load rfl sc5 rfl ceo8) ?_
    refine TA.tk 23 rfl rfl (Y.conv rfl Try.underlying5 Try.underlying22 rfl (cv_8_32)) ?_
    refine TA.tk 24 rfl rfl (Y.bin rfl rfl rfl (br_shl32 (n := 8))) ?_
    refine TA.tk 25 rfl rfl (Y.bin rfl rfl rfl (br_or32)) ?_
    refine TA.tk 26 rfl rfl (Y.move rfl rfl) ?_
    refine TA.tk 27 rfl rfl (Y.move rfl rfl) ?_
    refine TA.tk 28 rfl rfl (Y.bin rfl rfl rfl (br_mulN (m := 4) (by omega))) ?_
    refine TA.tk 29 rfl rfl (Y.bin rfl rfl rfl (br_addN (n := 3) (by omega))) ?_
    refine TA.tk 30 rfl rfl (by first | exact Y.indexSlB rfl sl23 rfl rfl (by omega) nqq | exact Y.indexSl rfl sl23 rfl rfl (by omega) nqq) ?_
    refine TA.tk 31 rfl rfl (Y.load rfl sc5 rfl ceo8) ?_
    refine TA.tk 32 rfl rfl (Y.conv rfl Try.underlying5 Try.underlying22 rfl (cv_8_32)) ?_
    refine TA.tk 33 rfl rfl (Y.bin rfl rfl rfl (br_or32)) ?_
    refine TA.tk 34 rfl rfl (Y.indexArr rfl ar111 rfl rfl (by omega) nqq) ?_
    refine TA.one0 35 (by kernel_rfl) rfl rfl rfl (by first | exact X.store rfl sz22 rfl rfl rfl pul lnn (by first | exact setM | rfl) | exact X.storeOwn rfl sz22 rfl (Nat.zero_add _).symm rfl rfl pul lnn (by first | exact setML | rfl) | exact X.storeOwn rfl sz22 rfl rfl rfl rfl pul lnn (by first | exact setML | rfl)) ?_
    rintro _ _ rfl
    refine ⟨(Or.inl (by kernel_rfl)), ?_⟩
    refine TA.done (by kernel_rfl) ?_
    refine TQ.block_normal (TQ.next (TC.region ?_))
    refine TL.val rfl rfl rfl (Y.bin rfl rfl rfl (br_addN (n := 1) (by omega))) ?_
    refine TL.mv ?_
    refine TL.nil ?_
    refine TQ.loopF (k + 1) (by omega) (by omega) ⟨rfl, trivial⟩ grw ?_ ?_ ?_
    · kernel_rfl
    · rfl
    · simp only [List.cons_append, List.nil_append]
      exact ett
  · try simp only [zA, zB, zC, zD, zE, zF, zG, zH, zI, zJ] at c0
    refine TC.exit (TQ.then_exit (TQ.then_exit (TQ.block_exit (TQ.next (TC.seq (TC.seq (TC.region ?_)))))))
    refine TL.sg ?_
    refine TL.nil (TQ.next (TC.block ?_))
    obtain rfl : k = 16 := by omega
    refine TC.loopF (ι := Nat) [] (fun k => k ≤ 64) (fun k => [(6, some (vN (k + 16)))]) (fun k => [SA.blk b4 ((fill2 bs k).map v32).toArray 111]) (fun k => 64 - k) (0) (by omega) ⟨rfl, trivial⟩ (Pulls.cons pul Pulls.nil) ?_
    rintro k hk F' L' rfl hL'
    simp only [List.cons_append, List.nil_append] at hL'
    subst hL'
    have hw2 := fill2_len bs k
    refine TC.seq (TC.seq (TC.region ?_))
    refine TL.mv ?_
    refine TL.val rfl rfl rfl (Y.bin rfl rfl rfl (br_ltN (n := 80))) ?_
    refine TL.nil (TQ.next ?_)
    refine TC.cond rfl (fun c1 => ?_) (fun c1 => ?_)
    · try simp only [zA, zB, zC, zD, zE, zF, zG, zH, zI, zJ] at c1
      refine TC.skip (TQ.next (TC.seq (TC.block ?_)))
      refine TC.draws 22 _ (by kernel_rfl) (by kernel_rfl) (fun _ h => h) ?_
      refine TA.tk 0 rfl rfl (Y.move rfl rfl) ?_
      refine TA.tk 1 rfl rfl (Y.move rfl rfl) ?_
      refine TA.tk 2 rfl rfl (Y.bin rfl rfl rfl (br_subN (n := 3) (by omega) (by omega))) ?_
      refine TA.tk 3 rfl rfl (Y.indexArr rfl ar111 rfl rfl (by omega) nqq) ?_
      refine TA.tk 4 rfl rfl (Y.load rfl sc22 rfl ceo32) ?_
      refine TA.tk 5 rfl rfl (Y.move rfl rfl) ?_
      refine TA.tk 6 rfl rfl (Y.bin rfl rfl rfl (br_subN (n := 8) (by omega) (by omega))) ?_
      refine TA.tk 7 rfl rfl (Y.indexArr rfl ar111 rfl rfl (by omega) nqq) ?_
      refine TA.tk 8 rfl rfl (Y.load rfl sc22 rfl ceo32) ?_
      refine TA.tk 9 rfl rfl (Y.bin rfl rfl rfl (br_xor32)) ?_
      refine TA.tk 10 rfl rfl (Y.move rfl rfl) ?_
      refine TA.tk 11 rfl rfl (Y.bin rfl rfl rfl (br_subN (n := 14) (by omega) (by omega))) ?_
      refine TA.tk 12 rfl rfl (Y.indexArr rfl ar111 rfl rfl (by omega) nqq) ?_
      refine TA.tk 13 rfl rfl (Y.load rfl sc22 rfl ceo32) ?_
      refine TA.tk 14 rfl rfl (Y.bin rfl rfl rfl (br_xor32)) ?_
      refine TA.tk 15 rfl rfl (Y.move rfl rfl) ?_
      refine TA.tk 16 rfl rfl (Y.bin rfl rfl rfl (br_subN (n := 16) (by omega) (by omega))) ?_
      refine TA.tk 17 rfl rfl (Y.indexArr rfl ar111 rfl rfl (by omega) nqq) ?_
      refine TA.tk 18 rfl rfl (Y.load rfl sc22 rfl ceo32) ?_
      refine TA.tk 19 rfl rfl (Y.bin rfl rfl rfl (br_xor32)) ?_
      refine TA.one 20 (by kernel_rfl) rfl rfl rfl rfl (X.call rfl Try.func58 (by kernel_rfl) rfl rfl (bits_fn _ 1 (by decide) _)) ?_
      rintro _ _ ⟨rfl, rfl⟩
      refine ⟨(Or.inr (fun w h A hA => h A (by with_reducible (first | assumption | (repeat first | exact In.there hA | apply In.there))))), ?_⟩
      refine TA.tk 21 rfl rfl (Y.indexArr rfl ar111 rfl rfl (by omega) nqq) ?_
      refine TA.one0 22 (by kernel_rfl) rfl rfl rfl (by first | exact X.store rfl sz22 rfl rfl rfl pul lnn (by first | exact setM | rfl) | exact X.storeOwn rfl sz22 rfl (Nat.zero_add _).symm rfl rfl pul lnn (by first | exact setML | rfl) | exact X.storeOwn rfl sz22 rfl rfl rfl rfl pul lnn (by first | exact setML | rfl)) ?_
      rintro _ _ rfl
      refine ⟨(Or.inl (by kernel_rfl)), ?_⟩
      refine TA.done (by kernel_rfl) ?_
      refine TQ.block_normal (TQ.next (TC.region ?_))
      refine TL.mv ?_
      refine TL.val rfl rfl rfl (Y.bin rfl rfl rfl (br_addN (n := 1) (by omega))) ?_
      refine TL.sg ?_
      refine TL.nil ?_
      refine TQ.loopF (k + 1) (by omega) (by omega) ⟨rfl, trivial⟩ grw ?_ ?_ ?_
      · kernel_rfl
      · rfl
      · simp only [List.cons_append, List.nil_append]
        exact ett
    · try simp only [zA, zB, zC, zD, zE, zF, zG, zH, zI, zJ] at c1
      refine TC.exit (TQ.then_exit (TQ.then_exit (TQ.block_exit (TQ.next (TC.seq ?_)))))
      refine TC.draws 25 _ (by kernel_rfl) (by kernel_rfl) (fun _ h => h) ?_
      refine TA.tk 0 rfl rfl (Y.move rfl rfl) ?_
      refine TA.tk 1 rfl rfl (Y.nilCheck rfl rfl) ?_
      refine TA.tk 2 rfl rfl (Y.indexArr (j := 0) rfl ar109 rfl rfl (by omega) nqq) ?_
      refine TA.tk 3 rfl rfl (Y.load rfl sc22 rfl ceo32) ?_
      refine TA.tk 4 rfl rfl (Y.move rfl rfl) ?_
      refine TA.tk 5 rfl rfl (Y.nilCheck rfl rfl) ?_
      refine TA.tk 6 rfl rfl (Y.indexArr (j := 1) rfl ar109 rfl rfl (by omega) nqq) ?_
      refine TA.tk 7 rfl rfl (Y.load rfl sc22 rfl ceo32) ?_
      refine TA.tk 8 rfl rfl (Y.move rfl rfl) ?_
      refine TA.tk 9 rfl rfl (Y.nilCheck rfl rfl) ?_
      refine TA.tk 10 rfl rfl (Y.indexArr (j := 2) rfl ar109 rfl rfl (by omega) nqq) ?_
      refine TA.tk 11 rfl rfl (Y.load rfl sc22 rfl ceo32) ?_
      refine TA.tk 12 rfl rfl (Y.move rfl rfl) ?_
      refine TA.tk 13 rfl rfl (Y.nilCheck rfl rfl) ?_
      refine TA.tk 14 rfl rfl (Y.indexArr (j := 3) rfl ar109 rfl rfl (by omega) nqq) ?_
      refine TA.tk 15 rfl rfl (Y.load rfl sc22 rfl ceo32) ?_
      refine TA.tk 16 rfl rfl (Y.move rfl rfl) ?_
      refine TA.tk 17 rfl rfl (Y.nilCheck rfl rfl) ?_
      refine TA.tk 18 rfl rfl (Y.indexArr (j := 4) rfl ar109 rfl rfl (by omega) nqq) ?_
      refine TA.tk 19 rfl rfl (Y.load rfl sc22 rfl ceo32) ?_
      refine TA.tk 20 rfl rfl (Y.assign rfl rfl) ?_
      refine TA.tk 21 rfl rfl (Y.assign rfl rfl) ?_
      refine TA.tk 22 rfl rfl (Y.assign rfl rfl) ?_
      refine TA.tk 23 rfl rfl (Y.assign rfl rfl) ?_
      refine TA.tk 24 rfl rfl (Y.assign rfl rfl) ?_
      refine TA.done (by kernel_rfl) ?_
      refine TQ.next (TC.seq (TC.seq (TC.region ?_)))
      refine TL.val rfl rfl rfl (Y.loadAgg rfl ag111 rfl (Cels.full inn) (by ((try simp only [List.length_map, List.length_set, List.length_replicate]); omega))) ?_
      refine TL.mv ?_
      refine TL.nil (TQ.next (TC.block ?_))
      obtain rfl : k = 64 := by omega
      refine TC.loopF (ι := Nat) [] (fun k => k ≤ 80) (fun k => [(104, some (vN k)), (7, some (v32 (rounds (fill2 bs 64) (s5 hs) k).a)), (8, some (v32 (rounds (fill2 bs 64) (s5 hs) k).b)), (9, some (v32 (rounds (fill2 bs 64) (s5 hs) k).c)), (10, some (v32 (rounds (fill2 bs 64) (s5 hs) k).d)), (11, some (v32 (rounds (fill2 bs 64) (s5 hs) k).e))]) (fun k => []) (fun k => 80 - k) (0) (by omega) ⟨rfl, rfl, rfl, rfl, rfl, rfl, trivial⟩ Pulls.nil ?_
      rintro k hk F' L' rfl hL'
      simp only [List.cons_append, List.nil_append] at hL'
      subst hL'
      refine TC.seq (TC.region ?_)
      refine TL.val rfl rfl rfl (Y.bin rfl rfl rfl (br_ltN (n := 80))) ?_
      refine TL.nil (TQ.next (TC.seq ?_))
      refine TC.cond rfl (fun c2 => ?_) (fun c2 => ?_)
      · try simp only [zA, zB, zC, zD, zE, zF, zG, zH, zI, zJ] at c2
        refine TC.skip (TQ.next (TC.seq (TC.block (TC.seq (TC.region ?_)))))
        refine TL.mv ?_
        refine TL.val rfl rfl rfl (Y.indexAgg rfl Try.underlying111 sc22 sz22 rfl rfl (by omega) (by first | exact getM (d := (0 : UInt32)) lnn | rfl)) ?_
        refine TL.sg ?_
        refine TL.sg ?_
        refine TL.nil (TQ.next (TC.seq (TC.region ?_)))
        refine TL.sg ?_
        refine TL.sg ?_
        refine TL.nil (TQ.next ?_)
        refine TC.cutF (ι := Unit) [] (fun _ => True) (fun _ => [(14, some (v32 (ff (k / 20) (rounds (fill2 bs 64) (s5 hs) k).b (rounds (fill2 bs 64) (s5 hs) k).c (rounds (fill2 bs 64) (s5 hs) k).d))), (15, some (v32 (kk (k / 20))))]) (fun _ => []) (Ao := []) Pulls.nil ?_ ?_
        · rintro L' hL'
          simp only [List.cons_append, List.nil_append] at hL'
          subst hL'
          refine TC.seq (TC.region ?_)
          refine TL.mv ?_
          refine TL.val rfl rfl rfl (Y.bin rfl rfl rfl (br_quoN (n := 20) (by omega) (by omega))) ?_
          refine TL.nil (TQ.next (TC.block (TC.seq (TC.region ?_))))
          refine TL.val rfl rfl rfl (Y.bin rfl rfl rfl (br_eqN (n := 0))) ?_
          refine TL.sg ?_
          refine TL.nil (TQ.next ?_)
          refine TC.cond rfl (fun c3 => ?_) (fun c3 => ?_)
          · try simp only [zA, zB, zC, zD, zE, zF, zG, zH, zI, zJ] at c3
            refine TC.region ?_
            refine TL.mv ?_
            refine TL.mv ?_
            refine TL.mv ?_
            refine TL.mv ?_
            refine TL.val rfl rfl rfl (Y.bin rfl rfl rfl (br_xor32)) ?_
            refine TL.val rfl rfl rfl (Y.bin rfl rfl rfl (br_and32)) ?_
            refine TL.val rfl rfl rfl (Y.bin rfl rfl rfl (br_xor32)) ?_
            refine TL.sg ?_
            refine TL.sg ?_
            refine TL.nil (TQ.block_normal ?_)
            refine TQ.meetF (()) (trivial) (by first | exact ⟨by rw [ff_0 c3]; rfl, by rw [kk_0 c3]; rfl, trivial⟩ | exact ⟨by rw [ff_1 c4]; rfl, by rw [kk_1 c4]; rfl, trivial⟩ | exact ⟨by rw [ff_2 c5]; rfl, by rw [kk_2 c5]; rfl, trivial⟩ | exact ⟨by rw [ff_3 c3 c4 c5]; rfl, by rw [kk_3 c3 c4 c5]; rfl, trivial⟩) grw ?_ ?_
            · kernel_rfl
            · simp only [List.cons_append, List.nil_append]
              exact ett
          · try simp only [zA, zB, zC, zD, zE, zF, zG, zH, zI, zJ] at c3
            refine TC.seq (TC.region ?_)
            refine TL.val rfl rfl rfl (Y.bin rfl rfl rfl (br_eqN (n := 1))) ?_
            refine TL.sg ?_
            refine TL.nil (TQ.next ?_)
            refine TC.cond rfl (fun c4 => ?_) (fun c4 => ?_)
            · try simp only [zA, zB, zC, zD, zE, zF, zG, zH, zI, zJ] at c4
              refine TC.region ?_
              refine TL.mv ?_
              refine TL.mv ?_
              refine TL.val rfl rfl rfl (Y.bin rfl rfl rfl (br_xor32)) ?_
              refine TL.mv ?_
              refine TL.val rfl rfl rfl (Y.bin rfl rfl rfl (br_xor32)) ?_
              refine TL.sg ?_
              refine TL.sg ?_
              refine TL.nil (TQ.block_normal ?_)
              refine TQ.meetF (()) (trivial) (by first | exact ⟨by rw [ff_0 c3]; rfl, by rw [kk_0 c3]; rfl, trivial⟩ | exact ⟨by rw [ff_1 c4]; rfl, by rw [kk_1 c4]; rfl, trivial⟩ | exact ⟨by rw [ff_2 c5]; rfl, by rw [kk_2 c5]; rfl, trivial⟩ | exact ⟨by rw [ff_3 c3 c4 c5]; rfl, by rw [kk_3 c3 c4 c5]; rfl, trivial⟩) grw ?_ ?_
              · kernel_rfl
              · simp only [List.cons_append, List.nil_append]
                exact ett
            · try simp only [zA, zB, zC, zD, zE, zF, zG, zH, zI, zJ] at c4
              refine TC.seq (TC.region ?_)
              refine TL.val rfl rfl rfl (Y.bin rfl rfl rfl (br_eqN (n := 2))) ?_
              refine TL.sg ?_
              refine TL.nil (TQ.next ?_)
              refine TC.cond rfl (fun c5 => ?_) (fun c5 => ?_)
              · try simp only [zA, zB, zC, zD, zE, zF, zG, zH, zI, zJ] at c5
                refine TC.region ?_
                refine TL.mv ?_
                refine TL.mv ?_
                refine TL.val rfl rfl rfl (Y.bin rfl rfl rfl (br_and32)) ?_
                refine TL.mv ?_
                refine TL.mv ?_
                refine TL.mv ?_
                refine TL.val rfl rfl rfl (Y.bin rfl rfl rfl (br_or32)) ?_
                refine TL.val rfl rfl rfl (Y.bin rfl rfl rfl (br_and32)) ?_
                refine TL.val rfl rfl rfl (Y.bin rfl rfl rfl (br_or32)) ?_
                refine TL.sg ?_
                refine TL.sg ?_
                refine TL.nil (TQ.block_normal ?_)
                refine TQ.meetF (()) (trivial) (by first | exact ⟨by rw [ff_0 c3]; rfl, by rw [kk_0 c3]; rfl, trivial⟩ | exact ⟨by rw [ff_1 c4]; rfl, by rw [kk_1 c4]; rfl, trivial⟩ | exact ⟨by rw [ff_2 c5]; rfl, by rw [kk_2 c5]; rfl, trivial⟩ | exact ⟨by rw [ff_3 c3 c4 c5]; rfl, by rw [kk_3 c3 c4 c5]; rfl, trivial⟩) grw ?_ ?_
                · kernel_rfl
                · simp only [List.cons_append, List.nil_append]
                  exact ett
              · try simp only [zA, zB, zC, zD, zE, zF, zG, zH, zI, zJ] at c5
                refine TC.region ?_
                refine TL.mv ?_
                refine TL.mv ?_
                refine TL.val rfl rfl rfl (Y.bin rfl rfl rfl (br_xor32)) ?_
                refine TL.mv ?_
                refine TL.val rfl rfl rfl (Y.bin rfl rfl rfl (br_xor32)) ?_
                refine TL.sg ?_
                refine TL.sg ?_
                refine TL.nil (TQ.block_normal ?_)
                refine TQ.meetF (()) (trivial) (by first | exact ⟨by rw [ff_0 c3]; rfl, by rw [kk_0 c3]; rfl, trivial⟩ | exact ⟨by rw [ff_1 c4]; rfl, by rw [kk_1 c4]; rfl, trivial⟩ | exact ⟨by rw [ff_2 c5]; rfl, by rw [kk_2 c5]; rfl, trivial⟩ | exact ⟨by rw [ff_3 c3 c4 c5]; rfl, by rw [kk_3 c3 c4 c5]; rfl, trivial⟩) grw ?_ ?_
                · kernel_rfl
                · simp only [List.cons_append, List.nil_append]
                  exact ett
        · rintro ⟨⟩ - F' L' rfl hL'
          simp only [List.cons_append, List.nil_append] at hL'
          subst hL'
          refine TC.region ?_
          refine TL.mv ?_
          refine TL.eff rfl rfl rfl (X.call rfl Try.func58 (by kernel_rfl) rfl rfl (bits_fn _ 5 (by decide) _)) ?_
          rintro _ _ ⟨rfl, rfl⟩
          refine TL.mv ?_
          refine TL.val rfl rfl rfl (Y.bin rfl rfl rfl (br_add32)) ?_
          refine TL.mv ?_
          refine TL.val rfl rfl rfl (Y.bin rfl rfl rfl (br_add32)) ?_
          refine TL.mv ?_
          refine TL.val rfl rfl rfl (Y.bin rfl rfl rfl (br_add32)) ?_
          refine TL.mv ?_
          refine TL.val rfl rfl rfl (Y.bin rfl rfl rfl (br_add32)) ?_
          refine TL.mv ?_
          refine TL.mv ?_
          refine TL.eff rfl rfl rfl (X.call rfl Try.func58 (by kernel_rfl) rfl rfl (bits_fn _ 30 (by decide) _)) ?_
          rintro _ _ ⟨rfl, rfl⟩
          refine TL.mv ?_
          refine TL.mv ?_
          refine TL.sg ?_
          refine TL.sg ?_
          refine TL.sg ?_
          refine TL.sg ?_
          refine TL.sg ?_
          refine TL.nil (TQ.block_normal (TQ.next (TC.region ?_)))
          refine TL.val rfl rfl rfl (Y.bin rfl rfl rfl (br_addN (n := 1) (by omega))) ?_
          refine TL.mv ?_
          refine TL.nil ?_
          refine TQ.loopF (k + 1) (by omega) (by omega) ⟨rfl, rfl, rfl, rfl, rfl, rfl, trivial⟩ grw ?_ ?_ ?_
          · kernel_rfl
          · rfl
          · simp only [List.cons_append, List.nil_append]
            exact ett
      · try simp only [zA, zB, zC, zD, zE, zF, zG, zH, zI, zJ] at c2
        refine TC.exit (TQ.then_exit (TQ.then_exit (TQ.block_exit (TQ.next (TC.seq (TC.region ?_))))))
        refine TL.mv ?_
        refine TL.mv ?_
        refine TL.mv ?_
        refine TL.mv ?_
        refine TL.mv ?_
        refine TL.val rfl rfl rfl (Y.buildM rfl rfl Try.underlying108 sz22 zc108 rfl rfl rfl (by first | exact (by simp only [List.all_cons, List.all_nil, Value.oneCell', Bool.and_self]) | rfl)) ?_
        refine TL.mv ?_
        refine TL.nil (TQ.next (TC.block ?_))
        obtain rfl : k = 80 := by omega
        refine TC.loopF (ι := Nat) [] (fun k => k ≤ 5) (fun k => [(164, some (vN k))]) (fun k => [SA.blk hb ((adds hs (rounds (fill2 bs 64) (s5 hs) 80).list k).map v32).toArray T]) (fun k => 5 - k) (0) (by omega) ⟨rfl, trivial⟩ (Pulls.cons pul Pulls.nil) ?_
        rintro k hk F' L' rfl hL'
        simp only [List.cons_append, List.nil_append] at hL'
        subst hL'
        have hw7 := adds_len hs (rounds (fill2 bs 64) (s5 hs) 80).list k
        refine TC.seq (TC.region ?_)
        refine TL.val rfl rfl rfl (Y.bin rfl rfl rfl (br_ltN (n := 5))) ?_
        refine TL.nil (TQ.next (TC.seq ?_))
        refine TC.cond rfl (fun c6 => ?_) (fun c6 => ?_)
        · try simp only [zA, zB, zC, zD, zE, zF, zG, zH, zI, zJ] at c6
          refine TC.skip (TQ.next (TC.seq (TC.block (TC.seq (TC.region ?_)))))
          refine TL.mv ?_
          refine TL.val rfl rfl rfl (Y.indexAgg rfl Try.underlying108 sc22 sz22 rfl rfl (by omega) (getM (l := (rounds (fill2 bs 64) (s5 hs) 80).list) (d := 0) (by simp [S5.list]; omega))) ?_
          refine TL.sg ?_
          refine TL.sg ?_
          refine TL.nil (TQ.next ?_)
          refine TC.draws 9 _ (by kernel_rfl) (by kernel_rfl) (fun _ h => h) ?_
          refine TA.tk 0 rfl rfl (Y.move rfl rfl) ?_
          refine TA.tk 1 rfl rfl (Y.move rfl rfl) ?_
          refine TA.tk 2 rfl rfl (Y.nilCheck rfl rfl) ?_
          refine TA.tk 3 rfl rfl (Y.indexArr rfl ar109 rfl rfl (by omega) nqq) ?_
          refine TA.tk 4 rfl rfl (Y.load rfl sc22 rfl ceo32) ?_
          refine TA.tk 5 rfl rfl (Y.move rfl rfl) ?_
          refine TA.tk 6 rfl rfl (Y.bin rfl rfl rfl (br_add32)) ?_
          refine TA.tp 7 rfl rfl (Y.nilCheck rfl rfl) ?_
          refine TA.tk 8 rfl rfl (Y.indexArr rfl ar109 rfl rfl (by omega) nqq) ?_
          refine TA.one0 9 (by kernel_rfl) rfl rfl rfl (by first | exact X.store rfl sz22 rfl rfl rfl pul lnn (by first | exact setM | rfl) | exact X.storeOwn rfl sz22 rfl (Nat.zero_add _).symm rfl rfl pul lnn (by first | exact setML | rfl) | exact X.storeOwn rfl sz22 rfl rfl rfl rfl pul lnn (by first | exact setML | rfl)) ?_
          rintro _ _ rfl
          refine ⟨(Or.inl (by kernel_rfl)), ?_⟩
          refine TA.done (by kernel_rfl) ?_
          refine TQ.block_normal (TQ.next (TC.region ?_))
          refine TL.val rfl rfl rfl (Y.bin rfl rfl rfl (br_addN (n := 1) (by omega))) ?_
          refine TL.mv ?_
          refine TL.nil ?_
          refine TQ.loopF (k + 1) (by omega) (by omega) ⟨rfl, trivial⟩ grw ?_ ?_ ?_
          · kernel_rfl
          · rfl
          · simp only [List.cons_append, List.nil_append]
            exact ett
        · try simp only [zA, zB, zC, zD, zE, zF, zG, zH, zI, zJ] at c6
          refine TC.exit (TQ.then_exit (TQ.then_exit (TQ.block_exit ?_)))
          obtain rfl : k = 5 := by omega
          refine TQ.endE (res0 rfl) (⟨rfl, rfl⟩) ?_
          exact ett
end sha
end Go.Proofs.Ytomplpdeeomehaa


/- SHA-1 as plain functions: blocks one by one, padding. -/
namespace Go.Proofs.Ytomplpdeeomehaa
set_option linter.unusedVariables false
set_option linter.unusedSimpArgs false
open Go.RowKit
namespace sha

theorem word_congr {x y : List UInt8} (h : ∀ i, i < 64 → x.getD i 0 = y.getD i 0) {k : Nat} (hk : k < 16) : word x k = word y k := by
  simp only [word]
  rw [h _ (by omega), h _ (by omega), h _ (by omega), h _ (by omega)]
theorem fill1_congr {x y : List UInt8} (h : ∀ i, i < 64 → x.getD i 0 = y.getD i 0) : ∀ k, k ≤ 16 → fill1 x k = fill1 y k
  | 0, _ => rfl
  | k + 1, hk => by rw [fill1, fill1, fill1_congr h k (by omega), word_congr h (by omega)]
theorem fill2_congr {x y : List UInt8} (h : ∀ i, i < 64 → x.getD i 0 = y.getD i 0) : ∀ k, fill2 x k = fill2 y k
  | 0 => fill1_congr h 16 (Nat.le_refl _)
  | k + 1 => by rw [fill2, fill2, fill2_congr h k]
theorem block_congr {hs : List UInt32} {x y : List UInt8} (h : ∀ i, i < 64 → x.getD i 0 = y.getD i 0) : block hs x = block hs y := by
  simp only [block, fill2_congr h]
theorem block_len (hs : List UInt32) (bs : List UInt8) : (block hs bs).length = hs.length := adds_len _ _ _
def runB (hs : List UInt32) (bs : List UInt8) : Nat → List UInt32
  | 0 => hs
  | q + 1 => block (runB hs bs q) (bs.drop (64 * q))
theorem runB_len (hs : List UInt32) (bs : List UInt8) : ∀ q, (runB hs bs q).length = hs.length
  | 0 => rfl
  | q + 1 => by rw [runB, block_len, runB_len hs bs q]
theorem getD_drop' {x : List UInt8} {a i : Nat} : (x.drop a).getD i 0 = x.getD (a + i) 0 := by simp [List.getD_eq_getElem?_getD]
theorem getD_app {x y : List UInt8} {i : Nat} (h : i < x.length) : (x ++ y).getD i 0 = x.getD i 0 := by
  simp [List.getD_eq_getElem?_getD, List.getElem?_append_left h]
theorem runB_append (hs : List UInt32) (x y : List UInt8) : ∀ q, 64 * q ≤ x.length → runB hs (x ++ y) q = runB hs x q
  | 0, _ => rfl
  | q + 1, hq => by
    rw [runB, runB, runB_append hs x y q (by omega)]
    refine block_congr fun i hi => ?_
    rw [getD_drop', getD_drop', getD_app (by omega)]
def H0 : List UInt32 := [1732584193, 4023233417, 2562383102, 271733878, 3285377520]
def zeros (n : Nat) : Nat := (119 - n % 64) % 64
def lenB (n : UInt64) (i : Nat) : List UInt8 := (List.range i).map fun i => (shr64 n (56 - 8 * i)).toUInt8
theorem lenB_succ (n : UInt64) (i : Nat) : lenB n (i + 1) = lenB n i ++ [(shr64 n (56 - 8 * i)).toUInt8] := by simp [lenB, List.range_succ]
theorem lenB_len (n : UInt64) (i : Nat) : (lenB n i).length = i := by simp [lenB]
def bitsN (t : List UInt8) : UInt64 := UInt64.ofNat t.length * 8
def padded (t : List UInt8) : List UInt8 := t ++ ([128] ++ (List.replicate (zeros t.length) 0 ++ lenB (bitsN t) 8))
theorem padded_len (t : List UInt8) : (padded t).length = t.length + 9 + zeros t.length := by simp [padded, lenB_len]; omega
theorem padded_mod (t : List UInt8) : (padded t).length % 64 = 0 := by rw [padded_len]; simp only [zeros]; omega
def outB (hs : List UInt32) (i : Nat) : UInt8 := (shr32 (hs.getD (i / 4) 0) (24 - 8 * (i % 4))).toUInt8
def outN (hs : List UInt32) : Nat → List UInt8
  | 0 => List.replicate 20 0
  | k + 1 => (outN hs k).set k (outB hs k)
theorem outN_len (hs : List UInt32) : ∀ k, (outN hs k).length = 20
  | 0 => by simp [outN]
  | k + 1 => by simp [outN, outN_len hs k]
def sha (t : List UInt8) : List UInt8 := outN (runB H0 (padded t) ((padded t).length / 64)) 20
theorem sha_len (t : List UInt8) : (sha t).length = 20 := outN_len _ _
end sha
end Go.Proofs.Ytomplpdeeomehaa


/- The program's SHA-1 of parts. -/
namespace Go.Proofs.Ytomplpdeeomehaa
set_option linter.unusedVariables false
set_option linter.unusedSimpArgs false
open Go.RowKit
namespace sha
namespace FxShaSum
set_option maxRecDepth 100000
theorem ag101 : Program.aggN Try.prog 101 = some 20 := by kernel_rfl
theorem ar101 : Program.arrI Try.prog 101 = some (20, 1) := by kernel_rfl
theorem sl24 : Program.slI Try.prog 24 = some 1 := by kernel_rfl
theorem sz101 : (Try.prog.info? 101).map (·.size) = some 20 := by kernel_rfl
theorem sz109 : (Try.prog.info? 109).map (·.size) = some 5 := by kernel_rfl
theorem zc101 : Program.zeroC Try.prog 101 = some ((List.replicate 20 (0 : UInt8)).map v8).toArray := by kernel_rfl
theorem zc109 : Program.zeroC Try.prog 109 = some ((List.replicate 5 (0 : UInt32)).map v32).toArray := by kernel_rfl
end FxShaSum
open Go.Proofs.Ytomplpdeeomehaa.sha.FxShaBlock Go.Proofs.Ytomplpdeeomehaa.rd.FxWireR FxShaSum
theorem cat_take_succ {ps : List Pt} {k : Nat} {d : Pt} (h : k < ps.length) : cat (ps.take (k + 1)) = cat (ps.take k) ++ (ps.getD k d).2.2 := by
  rw [List.take_succ_eq_append_getElem h, cat, List.flatMap_append]
  simp [cat, List.getD_eq_getElem?_getD, h]
theorem cat_zero {ps : List Pt} : cat (ps.take 0) = [] := by simp [cat]
def rz (T : List UInt8) (j : Nat) : List UInt8 := T.drop (64 * (T.length / 64)) ++ ([128] ++ List.replicate j 0)
def rl (T : List UInt8) (i : Nat) : List UInt8 := T.drop (64 * (T.length / 64)) ++ ([128] ++ (List.replicate (zeros T.length) 0 ++ lenB (bitsN T) i))
theorem rz_0 (T : List UInt8) : List.map v8 (T.drop (64 * (T.length / 64))) ++ [Value.int .u8 128] = List.map v8 (rz T 0) := by simp [rz]
theorem rz_s (T : List UInt8) (j : Nat) : List.map v8 (rz T j) ++ [Value.int .u8 0] = List.map v8 (rz T (j + 1)) := by simp [rz, List.replicate_succ']
theorem rl_0 (T : List UInt8) : rz T (zeros T.length) = rl T 0 := by simp [rz, rl, lenB]
theorem rl_s (T : List UInt8) (j : Nat) : List.map v8 (rl T j) ++ [v8 (shr64 (UInt64.ofNat T.length * 8) (56 - 8 * j)).toUInt8] = List.map v8 (rl T (j + 1)) := by simp [rl, lenB_succ, bitsN]
theorem rl_8 (T : List UInt8) : rl T 8 = (padded T).drop (64 * (T.length / 64)) := by rw [rl, padded, List.drop_append_of_le_length (by omega)]
theorem cat_take_le (ps : List Pt) (k : Nat) : (cat (ps.take k)).length ≤ (cat ps).length := by
  conv => rhs; rw [← List.take_append_drop k ps]
  simp only [cat, List.flatMap_append, List.length_append]; omega
set_option maxHeartbeats 4000000 in
theorem sum_fn (B : SA) (pp : Addr) (m mc : Nat) (ps : List Pt) (vs : List Value) (hB0 : Reads B 1 (.slice (some pp) m mc) m vs) (hv : vs = ps.map pv) (hm : ps.length = m) (hlen : (cat ps).length ≤ 140737488354000) (L : List SA) :
    Fn Try.prog 56 [.slice (some pp) m mc] (B :: SA.parts ps :: L) (fun v L' => v = .agg ((sha (cat ps)).map v8).toArray ∧ L' = B :: SA.parts ps :: L) := by
  have hB : Reads B 1 (.slice (some pp) m mc) m (ps.map pv) := hv ▸ hB0
  clear hB0 hv
  refine Fn.of (N := 82) Try.func56 rfl rfl ?_
  intro Xh
  refine TC.know (reads_cap hB inn) ?_
  rintro ⟨hmc, hcm, -, -⟩
  simp only [maxLen] at hcm
  refine TC.seq (TC.region ?_)
  refine TL.eff rfl rfl rfl (X.alloc rfl zc101) ?_
  rintro _ _ ⟨b2, rfl, rfl⟩
  refine TL.nil (TQ.next (TC.seq (TC.region ?_)))
  refine TL.val rfl rfl rfl (Y.buildM rfl rfl Try.underlying109 sz22 zc109 rfl rfl rfl (by first | exact (by simp only [List.all_cons, List.all_nil, Value.oneCell', Bool.and_self]) | rfl)) ?_
  refine TL.eff rfl rfl rfl (X.alloc rfl zc109) ?_
  rintro _ _ ⟨b3, rfl, rfl⟩
  refine TL.eff0 rfl rfl (by first | exact X.storeAll rfl sz109 szz rfl rfl (by simp [Value.oneCell']) pul szz | exact X.storeAgg rfl sz109 szz rfl rfl (by simp [Value.oneCell']) pul szz (writeM (by ((try simp only [List.length_set, List.length_map, List.length_append, List.length_replicate]); omega)))) ?_
  rintro _ _ rfl
  refine TL.nil (TQ.next (TC.seq (TC.region ?_)))
  refine TL.sg ?_
  refine TL.nil (TQ.next (TC.seq (TC.region ?_)))
  refine TL.sg ?_
  refine TL.nil (TQ.next (TC.seq (TC.seq ?_)))
  refine TC.to (Ent.nilOwn 5 1) ?_
  refine TC.region ?_
  refine TL.mv ?_
  refine TL.val rfl rfl rfl (Y.len rfl Try.underlying24 rfl) ?_
  refine TL.mv ?_
  refine TL.nil (TQ.next (TC.block ?_))
  refine TC.loopF (ι := Nat × Option Addr × Nat) [] (fun i => i.1 ≤ m) (fun i => [(14, some (vN i.1)), (5, some (v64 (UInt64.ofNat (cat (ps.take i.1)).length))), (4, some (.slice i.2.1 ((cat (ps.take i.1)).length % 64) i.2.2))]) (fun i => [SA.blk b3 ((runB H0 (cat (ps.take i.1)) ((cat (ps.take i.1)).length / 64)).map v32).toArray 109, SA.owns 5 1 (.slice i.2.1 ((cat (ps.take i.1)).length % 64) i.2.2) ((cat (ps.take i.1)).length % 64) (((cat (ps.take i.1)).drop (64 * ((cat (ps.take i.1)).length / 64))).map v8)]) (fun i => m - i.1) ((0, none, 0)) (by omega) ⟨rfl, by rw [cat_zero]; rfl, by rw [cat_zero]; rfl, trivial⟩ (by simp only [cat_zero, List.length_nil, Nat.zero_mod, Nat.zero_div, runB, List.drop_nil, Nat.mul_zero, List.map_nil]; exact Pulls.cons pul (Pulls.cons pul Pulls.nil)) ?_
  rintro ⟨k, a, cap⟩ hk F' L' rfl hL'
  simp only [List.cons_append, List.nil_append] at hL'
  subst hL'
  have hle := cat_take_le ps k; have hle2 := cat_take_le ps (k + 1); dsimp only at hk ⊢
  refine TC.seq (TC.region ?_)
  refine TL.val rfl rfl rfl (Y.bin rfl rfl rfl (br_ltN)) ?_
  refine TL.nil (TQ.next (TC.seq ?_))
  refine TC.cond rfl (fun c0 => ?_) (fun c0 => ?_)
  · try simp only [zA, zB, zC, zD, zE, zF, zG, zH, zI, zJ] at c0
    refine TC.skip (TQ.next (TC.seq (TC.block (TC.seq (TC.region ?_)))))
    refine TL.val rfl rfl rfl (by first | exact Y.indexSlB rfl sl24 rfl rfl (by omega) nqq | exact Y.indexSl rfl sl24 rfl rfl (by omega) nqq) ?_
    refine TL.val rfl rfl rfl (Y.load rfl sc23 rfl ceoD) ?_
    refine TL.sg ?_
    refine TL.nil ?_
    have hmem : ps.getD k default ∈ ps := getD_mem' (by omega)
    have hcat := cat_take_succ (d := default) (show k < ps.length by omega)
    generalize ps.getD k default = x at hmem hcat ⊢
    generalize hT : cat (ps.take k) = T at hle hcat ⊢
    obtain ⟨T', hT'⟩ : ∃ T', T' = T ++ x.2.2 := ⟨_, rfl⟩
    have hTl : T'.length = T.length + x.2.2.length := by rw [hT', List.length_append]
    have hTb : T'.length ≤ (cat ps).length := by rw [hT', ← hcat]; exact hle2
    refine TQ.next (TC.seq (TC.region ?_))
    refine TL.mv ?_
    refine TL.mv ?_
    refine TL.val rfl rfl rfl (Y.len rfl Try.underlying23 rfl) ?_
    refine TL.val rfl rfl rfl (Y.conv rfl Try.underlying3 Try.underlying32 rfl (cv_N_64)) ?_
    refine TL.val rfl rfl rfl (Y.bin rfl rfl rfl (br_add64)) ?_
    refine TL.sg ?_
    refine TL.nil (TQ.next (TC.seq (TC.region ?_)))
    refine TL.mv ?_
    refine TL.mv ?_
    refine TL.eff rfl rfl rfl (X.appendS rfl el23 rfl pul rfl (Src.parts Try.underlying23 inn hmem) (by simp only [maxLen]; omega) (by omega)) ?_
    rintro _ _ ⟨a25, c25, rfl, rfl⟩
    refine TL.sg ?_
    refine TL.nil (TQ.next (TC.block ?_))
    have e1 : T.length % 64 + x.2.2.length = T'.length - 64 * (T.length / 64) := by omega
    have e2 : (T.drop (64 * (T.length / 64))).map v8 ++ x.2.2.map v8 = (T'.drop (64 * (T.length / 64))).map v8 := by rw [hT', List.drop_append_of_le_length (by omega), List.map_append]
    have e3 : runB H0 T (T.length / 64) = runB H0 T' (T.length / 64) := by rw [hT', runB_append _ _ _ _ (by omega)]
    rw [e1, e2, e3]
    refine TC.loopF (ι := Nat × Option Addr × Nat) [] (fun i => 64 * i.1 ≤ T'.length) (fun i => [(4, some (.slice i.2.1 (T'.length - 64 * i.1) i.2.2))]) (fun i => [SA.blk b3 ((runB H0 T' i.1).map v32).toArray 109, SA.owns 5 1 (.slice i.2.1 (T'.length - 64 * i.1) i.2.2) (T'.length - 64 * i.1) ((T'.drop (64 * i.1)).map v8)]) (fun i => T'.length - 64 * i.1) ((T.length / 64, _, _)) (by show 64 * (T.length / 64) ≤ T'.length; omega) ⟨rfl, trivial⟩ (Pulls.cons pul (Pulls.cons pul Pulls.nil)) ?_
    rintro ⟨q, a2, cap2⟩ hq F' L' rfl hL'
    simp only [List.cons_append, List.nil_append] at hL'
    subst hL'
    dsimp only at hq ⊢
    refine TC.seq (TC.seq (TC.region ?_))
    refine TL.mv ?_
    refine TL.val rfl rfl rfl (Y.len rfl Try.underlying23 rfl) ?_
    refine TL.val rfl rfl rfl (Y.bin rfl rfl rfl (br_geN (n := 64))) ?_
    refine TL.nil (TQ.next ?_)
    refine TC.cond rfl (fun c1 => ?_) (fun c1 => ?_)
    · try simp only [zA, zB, zC, zD, zE, zF, zG, zH, zI, zJ] at c1
      refine TC.know (owns_some inn (by omega)) ?_
      rintro ⟨g2, off2, rfl⟩
      refine TC.skip (TQ.next (TC.block (TC.seq (TC.region ?_))))
      refine TL.mv ?_
      refine TL.eff rfl rfl rfl (X.call rfl Try.func57 (by kernel_rfl) rfl rfl (Fn.pre (block_fn b3 _ _ _ _ (runB H0 T' q) (T'.drop (64 * q)) _ (Reads.owns (e := 5)) (by rw [runB_len]; rfl) (by omega) (by simp) _) (Ent.cons pul (Ent.cons pul Ent.refl)))) ?_
      rintro _ _ ⟨rfl, rfl⟩
      refine TL.nil (TQ.next (TC.region ?_))
      refine TL.mv ?_
      refine TL.val rfl rfl rfl (Y.sliceLo (k := 64) rfl Try.underlying23 sz5 rfl rfl (by omega)) ?_
      refine TL.sg ?_
      refine TL.nil (TQ.block_normal ?_)
      refine TQ.to (Ent.trans (Pull.ent pul) (Ent.dropOwn (k := 64) (by omega))) ?_
      have e4 : T'.length - 64 * q - 64 = T'.length - 64 * (q + 1) := by omega
      have e5 : ((T'.drop (64 * q)).map v8).drop (64 * 1) = (T'.drop (64 * (q + 1))).map v8 := by rw [← List.map_drop, List.drop_drop]; congr 2
      unfold cutV
      rw [e4, e5]
      refine TQ.loopF ((q + 1, _, _)) (by show 64 * (q + 1) ≤ T'.length; omega) (by show T'.length - 64 * (q + 1) < T'.length - 64 * q; omega) ⟨rfl, trivial⟩ grw ?_ ?_ ?_
      · kernel_rfl
      · rfl
      · simp only [List.cons_append, List.nil_append]
        exact ett
    · try simp only [zA, zB, zC, zD, zE, zF, zG, zH, zI, zJ] at c1
      refine TC.exit (TQ.then_exit (TQ.then_exit (TQ.block_exit (TQ.block_normal (TQ.next (TC.region ?_))))))
      refine TL.val rfl rfl rfl (Y.bin rfl rfl rfl (br_addN (n := 1) (by omega))) ?_
      refine TL.mv ?_
      refine TL.nil ?_
      have hTT : T' = cat (ps.take (k + 1)) := hT'.trans hcat.symm
      obtain rfl : q = T'.length / 64 := by omega
      have e6 : T'.length - 64 * (T'.length / 64) = T'.length % 64 := by omega
      rw [e6]
      subst hTT
      refine TQ.loopF ((k + 1, _, _)) (by omega) (by omega) ⟨rfl, by rw [hcat, List.length_append, UInt64.ofNat_add]; rfl, rfl, trivial⟩ grw ?_ ?_ ?_
      · kernel_rfl
      · rfl
      · simp only [List.cons_append, List.nil_append]
        exact ett
  · try simp only [zA, zB, zC, zD, zE, zF, zG, zH, zI, zJ] at c0
    refine TC.exit (TQ.then_exit (TQ.then_exit (TQ.block_exit (TQ.next (TC.seq ?_)))))
    obtain rfl : k = m := by omega
    have eT : ps.take k = ps := List.take_of_length_le (by omega)
    rw [eT]
    generalize cat ps = T at hlen ⊢
    have ez : zeros T.length = (119 - T.length % 64) % 64 := rfl
    refine TC.region ?_
    refine TL.mv ?_
    refine TL.eff rfl rfl rfl (X.lit rfl el23 rfl rfl rfl (by decide) rfl) ?_
    rintro _ _ ⟨g35, rfl, rfl⟩
    refine TL.eff rfl rfl rfl (X.appendS rfl el23 rfl pul rfl (by first | exact Src.owns Try.underlying23 inn | exact Src.rds Try.underlying23 inn | exact Src.reads (by assumption) Try.underlying23 inn) (by simp only [maxLen]; omega) (by omega)) ?_
    rintro _ _ ⟨a36, c36, rfl, rfl⟩
    refine TL.sg ?_
    refine TL.nil (TQ.next (TC.seq (TC.block ?_)))
    rw [rz_0]
    refine TC.loopF (ι := Nat × Option Addr × Nat) [] (fun i => i.1 ≤ zeros T.length) (fun i => [(4, some (.slice i.2.1 (T.length % 64 + 1 + i.1) i.2.2))]) (fun i => [SA.owns 5 1 (.slice i.2.1 (T.length % 64 + 1 + i.1) i.2.2) (T.length % 64 + 1 + i.1) ((rz T i.1).map v8)]) (fun i => zeros T.length - i.1) ((0, _, _)) (Nat.zero_le _) ⟨rfl, trivial⟩ (Pulls.cons pul Pulls.nil) ?_
    rintro ⟨j, a4, cap4⟩ hj F' L' rfl hL'
    simp only [List.cons_append, List.nil_append] at hL'
    subst hL'
    dsimp only at hj ⊢
    refine TC.seq (TC.seq (TC.region ?_))
    refine TL.mv ?_
    refine TL.val rfl rfl rfl (Y.len rfl Try.underlying23 rfl) ?_
    refine TL.val rfl rfl rfl (Y.bin rfl rfl rfl (br_remN (n := 64) (by omega))) ?_
    refine TL.val rfl rfl rfl (Y.bin rfl rfl rfl (br_neN (n := 56))) ?_
    refine TL.nil (TQ.next ?_)
    refine TC.cond rfl (fun c2 => ?_) (fun c2 => ?_)
    · try simp only [zA, zB, zC, zD, zE, zF, zG, zH, zI, zJ] at c2
      have hj2 : j < zeros T.length := by omega
      refine TC.skip (TQ.next (TC.block (TC.region ?_)))
      refine TL.mv ?_
      refine TL.eff rfl rfl rfl (X.lit rfl el23 rfl rfl rfl (by decide) rfl) ?_
      rintro _ _ ⟨g42, rfl, rfl⟩
      refine TL.eff rfl rfl rfl (X.appendS rfl el23 rfl pul rfl (by first | exact Src.owns Try.underlying23 inn | exact Src.rds Try.underlying23 inn | exact Src.reads (by assumption) Try.underlying23 inn) (by simp only [maxLen]; omega) (by omega)) ?_
      rintro _ _ ⟨a43, c43, rfl, rfl⟩
      refine TL.sg ?_
      refine TL.nil (TQ.block_normal ?_)
      rw [rz_s]
      refine TQ.loopF ((j + 1, _, _)) (by show j + 1 ≤ zeros T.length; omega) (by show zeros T.length - (j + 1) < zeros T.length - j; omega) ⟨rfl, trivial⟩ grw ?_ ?_ ?_
      · kernel_rfl
      · rfl
      · simp only [List.cons_append, List.nil_append]
        exact ett
    · try simp only [zA, zB, zC, zD, zE, zF, zG, zH, zI, zJ] at c2
      refine TC.exit (TQ.then_exit (TQ.then_exit (TQ.block_exit (TQ.next (TC.seq (TC.seq ?_))))))
      obtain rfl : j = zeros T.length := by omega
      rw [rl_0]
      refine TC.region ?_
      refine TL.mv ?_
      refine TL.nil (TQ.next (TC.block ?_))
      refine TC.loopF (ι := Nat × Option Addr × Nat) [] (fun i => i.1 ≤ 8) (fun i => [(44, some (vN i.1)), (4, some (.slice i.2.1 (T.length % 64 + 1 + zeros T.length + i.1) i.2.2))]) (fun i => [SA.owns 5 1 (.slice i.2.1 (T.length % 64 + 1 + zeros T.length + i.1) i.2.2) (T.length % 64 + 1 + zeros T.length + i.1) ((rl T i.1).map v8)]) (fun i => 8 - i.1) ((0, _, _)) (by omega) ⟨rfl, rfl, trivial⟩ (Pulls.cons pul Pulls.nil) ?_
      rintro ⟨j, a6, cap6⟩ hj6 F' L' rfl hL'
      simp only [List.cons_append, List.nil_append] at hL'
      subst hL'
      dsimp only at hj6 ⊢
      refine TC.seq (TC.region ?_)
      refine TL.val rfl rfl rfl (Y.bin rfl rfl rfl (br_ltN (n := 8))) ?_
      refine TL.nil (TQ.next (TC.seq ?_))
      refine TC.cond rfl (fun c3 => ?_) (fun c3 => ?_)
      · try simp only [zA, zB, zC, zD, zE, zF, zG, zH, zI, zJ] at c3
        refine TC.skip (TQ.next (TC.seq (TC.block (TC.seq (TC.region ?_)))))
        refine TL.mv ?_
        refine TL.sg ?_
        refine TL.nil (TQ.next (TC.region ?_))
        refine TL.mv ?_
        refine TL.mv ?_
        refine TL.val rfl rfl rfl (Y.bin rfl rfl rfl (br_mul64 (y := 8))) ?_
        refine TL.mv ?_
        refine TL.val rfl rfl rfl (Y.bin rfl rfl rfl (br_mulN (m := 8) (by omega))) ?_
        refine TL.val rfl rfl rfl (Y.bin rfl rfl rfl (br_subN (m := 56) (by omega) (by omega))) ?_
        refine TL.val rfl rfl rfl (Y.bin rfl rfl rfl (br_shr64)) ?_
        refine TL.val rfl rfl rfl (Y.conv rfl Try.underlying32 Try.underlying5 rfl (cv_64_8)) ?_
        refine TL.eff rfl rfl rfl (X.lit rfl el23 rfl rfl rfl (by decide) rfl) ?_
        rintro _ _ ⟨g55, rfl, rfl⟩
        refine TL.eff rfl rfl rfl (X.appendS rfl el23 rfl pul rfl (by first | exact Src.owns Try.underlying23 inn | exact Src.rds Try.underlying23 inn | exact Src.reads (by assumption) Try.underlying23 inn) (by simp only [maxLen]; omega) (by omega)) ?_
        rintro _ _ ⟨a56, c56, rfl, rfl⟩
        refine TL.sg ?_
        refine TL.nil (TQ.block_normal (TQ.next (TC.region ?_)))
        refine TL.val rfl rfl rfl (Y.bin rfl rfl rfl (br_addN (n := 1) (by omega))) ?_
        refine TL.mv ?_
        refine TL.nil ?_
        rw [rl_s]
        refine TQ.loopF ((j + 1, _, _)) (by show j + 1 ≤ 8; omega) (by show 8 - (j + 1) < 8 - j; omega) ⟨rfl, rfl, trivial⟩ grw ?_ ?_ ?_
        · kernel_rfl
        · rfl
        · simp only [List.cons_append, List.nil_append]
          exact ett
      · try simp only [zA, zB, zC, zD, zE, zF, zG, zH, zI, zJ] at c3
        refine TC.exit (TQ.then_exit (TQ.then_exit (TQ.block_exit (TQ.next (TC.seq (TC.block ?_))))))
        obtain rfl : j = 8 := by omega
        have hMl := padded_len T
        have hMm := padded_mod T
        have e4 : T.length % 64 + 1 + zeros T.length + 8 = (padded T).length - 64 * (T.length / 64) := by omega
        have e6 : runB H0 T (T.length / 64) = runB H0 (padded T) (T.length / 64) := by rw [padded, runB_append _ _ _ _ (by omega)]
        rw [e4, rl_8, e6]
        refine TC.loopF (ι := Nat × Option Addr × Nat) [] (fun i => 64 * i.1 ≤ (padded T).length) (fun i => [(4, some (.slice i.2.1 ((padded T).length - 64 * i.1) i.2.2))]) (fun i => [SA.blk b3 ((runB H0 (padded T) i.1).map v32).toArray 109, SA.owns 5 1 (.slice i.2.1 ((padded T).length - 64 * i.1) i.2.2) ((padded T).length - 64 * i.1) (((padded T).drop (64 * i.1)).map v8)]) (fun i => (padded T).length - 64 * i.1) ((T.length / 64, _, _)) (by show 64 * (T.length / 64) ≤ (padded T).length; omega) ⟨rfl, trivial⟩ (Pulls.cons pul (Pulls.cons pul Pulls.nil)) ?_
        rintro ⟨q, a2, cap2⟩ hq F' L' rfl hL'
        simp only [List.cons_append, List.nil_append] at hL'
        subst hL'
        dsimp only at hq ⊢
        refine TC.seq (TC.seq (TC.region ?_))
        refine TL.mv ?_
        refine TL.val rfl rfl rfl (Y.len rfl Try.underlying23 rfl) ?_
        refine TL.val rfl rfl rfl (Y.bin rfl rfl rfl (br_gtN (n := 0))) ?_
        refine TL.nil (TQ.next ?_)
        refine TC.cond rfl (fun c4 => ?_) (fun c4 => ?_)
        · try simp only [zA, zB, zC, zD, zE, zF, zG, zH, zI, zJ] at c4
          refine TC.know (owns_some inn (by omega)) ?_
          rintro ⟨g2, off2, rfl⟩
          refine TC.skip (TQ.next (TC.seq (TC.block (TC.region ?_))))
          refine TL.mv ?_
          refine TL.eff rfl rfl rfl (X.call rfl Try.func57 (by kernel_rfl) rfl rfl (Fn.pre (block_fn b3 _ _ _ _ (runB H0 (padded T) q) ((padded T).drop (64 * q)) _ (Reads.owns (e := 5)) (by rw [runB_len]; rfl) (by omega) (by simp) _) (Ent.cons pul (Ent.cons pul Ent.refl)))) ?_
          rintro _ _ ⟨rfl, rfl⟩
          refine TL.nil (TQ.block_normal (TQ.next (TC.region ?_)))
          refine TL.mv ?_
          refine TL.val rfl rfl rfl (Y.sliceLo (k := 64) rfl Try.underlying23 sz5 rfl rfl (by omega)) ?_
          refine TL.sg ?_
          refine TL.nil ?_
          refine TQ.to (Ent.trans (Pull.ent pul) (Ent.dropOwn (k := 64) (by omega))) ?_
          have e4 : (padded T).length - 64 * q - 64 = (padded T).length - 64 * (q + 1) := by omega
          have e5 : (((padded T).drop (64 * q)).map v8).drop (64 * 1) = ((padded T).drop (64 * (q + 1))).map v8 := by rw [← List.map_drop, List.drop_drop]; congr 2
          unfold cutV
          rw [e4, e5]
          refine TQ.loopF ((q + 1, _, _)) (by show 64 * (q + 1) ≤ (padded T).length; omega) (by show (padded T).length - 64 * (q + 1) < (padded T).length - 64 * q; omega) ⟨rfl, trivial⟩ grw ?_ ?_ ?_
          · kernel_rfl
          · rfl
          · simp only [List.cons_append, List.nil_append]
            exact ett
        · try simp only [zA, zB, zC, zD, zE, zF, zG, zH, zI, zJ] at c4
          refine TC.exit (TQ.then_exit (TQ.then_exit (TQ.block_exit (TQ.next (TC.seq ?_)))))
          obtain rfl : q = (padded T).length / 64 := by omega
          have hrl := runB_len H0 (padded T) ((padded T).length / 64)
          replace hrl : (runB H0 (padded T) ((padded T).length / 64)).length = 5 := hrl
          generalize hH : runB H0 (padded T) ((padded T).length / 64) = H at hrl ⊢
          refine TC.region ?_
          refine TL.eff rfl rfl rfl (X.alloc rfl zc101) ?_
          rintro _ _ ⟨b9, rfl, rfl⟩
          refine TL.nil (TQ.next (TC.seq (TC.seq (TC.region ?_))))
          refine TL.mv ?_
          refine TL.nil (TQ.next (TC.block ?_))
          refine TC.loopF (ι := Nat) [] (fun k => k ≤ 20) (fun k => [(65, some (vN k))]) (fun k => [SA.blk b9 ((outN H k).map v8).toArray 101]) (fun k => 20 - k) (0) (by omega) ⟨rfl, trivial⟩ (Pulls.cons pul Pulls.nil) ?_
          rintro k' hk' F' L' rfl hL'
          simp only [List.cons_append, List.nil_append] at hL'
          subst hL'
          have hol := outN_len H k'
          refine TC.seq (TC.region ?_)
          refine TL.val rfl rfl rfl (Y.bin rfl rfl rfl (br_ltN (n := 20))) ?_
          refine TL.nil (TQ.next (TC.seq ?_))
          refine TC.cond rfl (fun c5 => ?_) (fun c5 => ?_)
          · try simp only [zA, zB, zC, zD, zE, zF, zG, zH, zI, zJ] at c5
            refine TC.skip (TQ.next (TC.seq (TC.block (TC.seq (TC.region ?_)))))
            refine TL.mv ?_
            refine TL.sg ?_
            refine TL.nil (TQ.next (TC.region ?_))
            refine TL.mv ?_
            refine TL.mv ?_
            refine TL.val rfl rfl rfl (Y.bin rfl rfl rfl (br_quoN (n := 4) (by omega) (by omega))) ?_
            refine TL.val rfl rfl rfl (Y.indexArr rfl ar109 rfl rfl (by omega) nqq) ?_
            refine TL.val rfl rfl rfl (Y.load rfl sc22 rfl ceo32) ?_
            refine TL.mv ?_
            refine TL.val rfl rfl rfl (Y.bin rfl rfl rfl (br_remN (n := 4) (by omega))) ?_
            refine TL.val rfl rfl rfl (Y.bin rfl rfl rfl (br_mulN (m := 8) (by omega))) ?_
            refine TL.val rfl rfl rfl (Y.bin rfl rfl rfl (br_subN (m := 24) (by omega) (by omega))) ?_
            refine TL.val rfl rfl rfl (Y.bin rfl rfl rfl (br_shr32)) ?_
            refine TL.val rfl rfl rfl (Y.conv rfl Try.underlying22 Try.underlying5 rfl (cv_32_8)) ?_
            refine TL.val rfl rfl rfl (Y.indexArr rfl ar101 rfl rfl (by omega) nqq) ?_
            refine TL.eff0 rfl rfl (by first | exact X.store rfl sz5 rfl rfl rfl pul lnn (by first | exact setM | rfl) | exact X.storeOwn rfl sz5 rfl (Nat.zero_add _).symm rfl rfl pul lnn (by first | exact setML | rfl) | exact X.storeOwn rfl sz5 rfl rfl rfl rfl pul lnn (by first | exact setML | rfl)) ?_
            rintro _ _ rfl
            refine TL.nil (TQ.block_normal (TQ.next (TC.region ?_)))
            refine TL.val rfl rfl rfl (Y.bin rfl rfl rfl (br_addN (n := 1) (by omega))) ?_
            refine TL.mv ?_
            refine TL.nil ?_
            skip
            refine TQ.loopF (k' + 1) (by omega) (by omega) ⟨rfl, trivial⟩ grw ?_ ?_ ?_
            · kernel_rfl
            · rfl
            · simp only [List.cons_append, List.nil_append]
              exact ett
          · try simp only [zA, zB, zC, zD, zE, zF, zG, zH, zI, zJ] at c5
            refine TC.exit (TQ.then_exit (TQ.then_exit (TQ.block_exit (TQ.next (TC.seq ?_)))))
            obtain rfl : k' = 20 := by omega
            have hol := outN_len H 20
            refine TC.region ?_
            refine TL.val rfl rfl rfl (Y.loadAgg rfl ag101 rfl (Cels.full inn) (by ((try simp only [List.length_map, List.length_set, List.length_replicate]); omega))) ?_
            refine TL.eff0 rfl rfl (by first | exact X.storeAll rfl sz101 szz rfl rfl (by simp [Value.oneCell']) pul szz | exact X.storeAgg rfl sz101 szz rfl rfl (by simp [Value.oneCell']) pul szz (writeM (by ((try simp only [List.length_set, List.length_map, List.length_append, List.length_replicate]); omega)))) ?_
            rintro _ _ rfl
            refine TL.nil (TQ.next (TC.ret ?_))
            have hsha : sha T = outN H 20 := by rw [sha, hH]
            rw [← hsha]
            refine TQ.retE (resC rfl ag101 rfl (Cels.full inn) szz) (⟨rfl, rfl⟩) ?_
            exact ett
end sha
end Go.Proofs.Ytomplpdeeomehaa


/- The document's SHA-1. -/
namespace Go.Proofs.Ytomplpdeeomehaa
set_option linter.unusedVariables false
set_option linter.unusedSimpArgs false
open Go.RowKit
namespace sha
--FACTS
def rr (T : List UInt8) (j : Nat) : List UInt8 := T ++ ([128] ++ List.replicate j 0)
end sha
end Go.Proofs.Ytomplpdeeomehaa


/- The HMAC, the program's and the document's. -/
namespace Go.Proofs.Ytomplpdeeomehaa
set_option linter.unusedVariables false
set_option linter.unusedSimpArgs false
open Go.RowKit
namespace sha
namespace FxShaMac
set_option maxRecDepth 100000
theorem ar105 : Program.arrI Try.prog 105 = some (64, 1) := by kernel_rfl
theorem ar106 : Program.arrI Try.prog 106 = some (2, 64) := by kernel_rfl
theorem el24 : Elt Try.prog 24 23 1 24 (.slice none 0 0) := ⟨Try.underlying24, by kernel_rfl, rfl, by decide, by simp [Value.cells, Value.oneCell']⟩
theorem zc106 : Program.zeroC Try.prog 106 = some ((List.replicate 128 (0 : UInt8)).map v8).toArray := by kernel_rfl
theorem zc107 : Program.zeroC Try.prog 107 = some ((List.replicate 2 (0 : UInt8)).map v8).toArray := by kernel_rfl
end FxShaMac
open Go.Proofs.Ytomplpdeeomehaa.sha.FxShaSum Go.Proofs.Ytomplpdeeomehaa.rd.FxWireR FxShaMac
def keyed (key : List UInt8) : List UInt8 := if 64 < key.length then sha key else key
def row (kb : List UInt8) (x : UInt8) : List UInt8 := tab 64 fun m => kb.getD m 0 ^^^ x
def mac (key msg : List UInt8) : List UInt8 := sha (row (keyed key) 92 ++ sha (row (keyed key) 54 ++ msg))
theorem mac_len (key msg : List UInt8) : (mac key msg).length = 20 := sha_len _
theorem keyed_len (key : List UInt8) : (keyed key).length ≤ 64 := by
  unfold keyed; split
  · rw [sha_len]; decide
  · omega
def px (i : Nat) : UInt8 := if i = 0 then 54 else 92
def pads (kb : List UInt8) (i j : Nat) : List UInt8 := tab 128 fun m => if m / 64 < i then kb.getD (m % 64) 0 ^^^ px (m / 64) else if m / 64 = i then (if m % 64 < j then kb.getD (m % 64) 0 ^^^ px i else kb.getD (m % 64) 0) else 0
def pads0 (kb : List UInt8) (i : Nat) : List UInt8 := tab 128 fun m => if m / 64 < i then kb.getD (m % 64) 0 ^^^ px (m / 64) else 0
theorem pads0_0 (kb : List UInt8) : List.replicate 128 0 = pads0 kb 0 := by rw [tab_rep, pads0]; exact tab_congr fun i hi => by simp
theorem pads_copy (kb : List UInt8) (i : Nat) (hi : i < 2) (hk : kb.length ≤ 64) : (pads0 kb i).take (i * 64) ++ kb ++ (pads0 kb i).drop (i * 64 + kb.length) = pads kb i 0 := by
  rw [pads0, tab_write (d := 0) (by omega), pads]
  refine tab_congr fun m hm => ?_
  by_cases h1 : i * 64 ≤ m ∧ m < i * 64 + kb.length
  · rw [if_pos h1, if_neg (by omega), if_pos (by omega), if_neg (by omega)]; congr 1; omega
  · rw [if_neg h1]
    by_cases h2 : m / 64 < i
    · rw [if_pos h2, if_pos h2]
    · rw [if_neg h2, if_neg h2]
      by_cases h3 : m / 64 = i
      · rw [if_pos h3, if_neg (by omega), List.getD_eq_getElem?_getD, List.getElem?_eq_none (by omega)]; rfl
      · rw [if_neg h3]
theorem pads_set (kb : List UInt8) (i j : Nat) (hi : i < 2) (hj : j < 64) : (pads kb i j).set (i * 64 + j) ((pads kb i j).getD (i * 64 + j) 0 ^^^ px i) = pads kb i (j + 1) := by
  have e : (pads kb i j).getD (i * 64 + j) 0 = kb.getD j 0 := by
    rw [pads, tab_getD (by omega), if_neg (by omega), if_pos (by omega), if_neg (by omega)]; congr 1; omega
  rw [e, pads, tab_set, pads]
  refine tab_congr fun m hm => ?_
  by_cases h : m = i * 64 + j
  · rw [if_pos h, if_neg (by omega), if_pos (by omega), if_pos (by omega)]; congr 2; omega
  · rw [if_neg h]
    by_cases h2 : m / 64 < i
    · rw [if_pos h2, if_pos h2]
    · rw [if_neg h2, if_neg h2]
      by_cases h3 : m / 64 = i
      · rw [if_pos h3, if_pos h3]
        by_cases h4 : m % 64 < j
        · rw [if_pos h4, if_pos (by omega)]
        · rw [if_neg h4, if_neg (by omega)]
      · rw [if_neg h3, if_neg h3]
theorem pads_64 (kb : List UInt8) (i : Nat) : pads kb i 64 = pads0 kb (i + 1) := by
  rw [pads, pads0]
  refine tab_congr fun m hm => ?_
  by_cases h2 : m / 64 < i
  · rw [if_pos h2, if_pos (by omega)]
  · rw [if_neg h2]
    by_cases h3 : m / 64 = i
    · rw [if_pos h3, if_pos (by omega), if_pos (by omega), h3]
    · rw [if_neg h3, if_neg (by omega)]
theorem pads_len (kb : List UInt8) (i j : Nat) : (pads kb i j).length = 128 := tab_len
theorem pads0_len (kb : List UInt8) (i : Nat) : (pads0 kb i).length = 128 := tab_len
theorem row_len (kb : List UInt8) (x : UInt8) : (row kb x).length = 64 := tab_len
theorem pads0_row (kb : List UInt8) (r : Nat) (hr : r < 2) : ∀ j u, ((row kb (px r)).map v8)[j]? = some u → ((pads0 kb 2).map v8).toArray[r * 64 + j]? = some u := by
  intro j u h
  rw [List.getElem?_toArray]
  rw [List.getElem?_map] at h ⊢
  rw [row, tab_get] at h
  rw [pads0, tab_get]
  split at h
  · rw [if_pos (by omega), if_pos (by omega)]
    rw [show (r * 64 + j) % 64 = j by omega, show (r * 64 + j) / 64 = r by omega]
    exact h
  · cases h
theorem getPx {k : Nat} (h : k < 2) : (#[Value.int .u8 54, Value.int .u8 92] : Array Value)[k]? = some (v8 (px k)) := by
  match k, h with
  | 0, _ => rfl
  | 1, _ => rfl
set_option maxHeartbeats 4000000 in
theorem mac_fn (a : Option Addr) (n cap : Nat) (key : List UInt8) (hn : key.length = n) (am : Option Addr) (nm cm : Nat) (msg : List UInt8) (hm : msg.length = nm) (hln : n ≤ 140737488353000) (hlm : nm ≤ 140737488353000) (L : List SA) :
    Fn Try.prog 54 [.slice a n cap, .slice am nm cm] (SA.rds 1 (.slice a n cap) n (key.map v8) :: SA.rds 1 (.slice am nm cm) nm (msg.map v8) :: L)
      (fun v L' => v = .agg ((mac key msg).map v8).toArray ∧ L' = SA.rds 1 (.slice a n cap) n (key.map v8) :: SA.rds 1 (.slice am nm cm) nm (msg.map v8) :: L) := by
  subst hn; subst hm
  refine Fn.of (N := 52) Try.func54 rfl rfl ?_
  intro Xh
  refine TC.to (Ent.dup Dup.rds) ?_
  refine TC.seq (TC.region ?_)
  refine TL.eff rfl rfl rfl (X.alloc rfl zc101) ?_
  rintro _ _ ⟨b4, rfl, rfl⟩
  refine TL.nil (TQ.next ?_)
  refine TC.cutF (ι := Option Addr × Nat) [] (fun _ => True) (fun i => [(0, some (.slice i.1 (keyed key).length i.2))]) (fun i => [SA.rds 1 (.slice i.1 (keyed key).length i.2) (keyed key).length ((keyed key).map v8)]) (Ao := [SA.rds 1 (.slice a key.length cap) key.length (key.map v8)]) (Pulls.cons pul Pulls.nil) ?_ ?_
  · rintro L' hL'
    simp only [List.cons_append, List.nil_append] at hL'
    subst hL'
    refine TC.seq (TC.region ?_)
    refine TL.mv ?_
    refine TL.val rfl rfl rfl (Y.len rfl Try.underlying23 rfl) ?_
    refine TL.val rfl rfl rfl (Y.bin rfl rfl rfl (br_gtN (n := 64))) ?_
    refine TL.nil (TQ.next ?_)
    refine TC.cond rfl (fun c0 => ?_) (fun c0 => ?_)
    · try simp only [zA, zB, zC, zD, zE, zF, zG, zH, zI, zJ] at c0
      have hk : keyed key = sha key := if_pos c0
      refine TC.to (Ent.part1 (x := (a, cap, key))) ?_
      refine TC.seq (TC.region ?_)
      refine TL.mv ?_
      refine TL.eff rfl rfl rfl (X.lit rfl el24 rfl rfl rfl (by decide) rfl) ?_
      rintro _ _ ⟨g15, rfl, rfl⟩
      refine TL.eff rfl rfl rfl (X.call rfl Try.func56 (by kernel_rfl) rfl rfl (Fn.pre (sum_fn _ _ _ _ [(a, cap, key)] _ (Reads.owns (e := 23)) rfl rfl (by simp [cat]; omega) _) (Ent.cons pul (Ent.cons pul Ent.refl)))) ?_
      rintro _ _ ⟨rfl, rfl⟩
      rw [show cat [(a, cap, key)] = key by simp [cat]]
      have hsl := sha_len key
      refine TL.eff rfl rfl rfl (X.alloc rfl zc101) ?_
      rintro _ _ ⟨b5, rfl, rfl⟩
      refine TL.eff0 rfl rfl (by first | exact X.storeAll rfl sz101 szz rfl rfl (by simp [Value.oneCell']) pul szz | exact X.storeAgg rfl sz101 szz rfl rfl (by simp [Value.oneCell']) pul szz (writeM (by ((try simp only [List.length_set, List.length_map, List.length_append, List.length_replicate]); omega)))) ?_
      rintro _ _ rfl
      refine TL.nil (TQ.next (TC.region ?_))
      refine TL.val rfl rfl rfl (Y.sliceArr rfl Try.underlying101 sz5 rfl) ?_
      refine TL.sg ?_
      refine TL.nil ?_
      refine TQ.to (Ent.trans (Pull.ent (A := SA.blk b5 _ _) pul) (Ent.freezeB.trans (Ent.rblkRds (sz := 1) (k := 0) (n := 20) (c := 20) (l := (sha key).map v8) (by simp [sha_len]) one8 (Nat.le_refl _) (by decide) (fun j u h => by simpa using h)))) ?_
      refine TQ.meetF ((_, _)) (trivial) (by first | exact ⟨by rw [hk]; rfl, trivial⟩ | exact ⟨by rw [hk, sha_len]; rfl, trivial⟩) grw ?_ ?_
      · kernel_rfl
      · simp only [List.cons_append, List.nil_append]
        exact (by first | (rw [hk, sha_len]; exact ett) | (rw [hk]; exact ett))
    · try simp only [zA, zB, zC, zD, zE, zF, zG, zH, zI, zJ] at c0
      have hk : keyed key = key := if_neg (by omega)
      refine TC.skip ?_
      refine TQ.meetF ((_, _)) (trivial) (by first | exact ⟨by rw [hk]; rfl, trivial⟩ | exact ⟨by rw [hk, sha_len]; rfl, trivial⟩) grw ?_ ?_
      · kernel_rfl
      · simp only [List.cons_append, List.nil_append]
        exact (by first | (rw [hk, sha_len]; exact ett) | (rw [hk]; exact ett))
  · rintro ⟨ak, ck⟩ - F' L' rfl hL'
    simp only [List.cons_append, List.nil_append] at hL'
    subst hL'
    have hkl := keyed_len key
    generalize hkb : keyed key = kb at hkl ⊢
    refine TC.seq (TC.region ?_)
    refine TL.eff rfl rfl rfl (X.alloc rfl zc106) ?_
    rintro _ _ ⟨b6, rfl, rfl⟩
    refine TL.nil (TQ.next (TC.seq (TC.seq (TC.region ?_))))
    refine TL.val rfl rfl rfl (Y.buildM rfl rfl Try.underlying107 sz5 zc107 rfl rfl rfl (by first | exact (by simp only [List.all_cons, List.all_nil, Value.oneCell', Bool.and_self]) | rfl)) ?_
    refine TL.mv ?_
    refine TL.nil (TQ.next (TC.block ?_))
    refine TC.loopF (ι := Nat) [] (fun k => k ≤ 2) (fun k => [(19, some (vN k))]) (fun k => [SA.blk b6 ((pads0 kb k).map v8).toArray 106]) (fun k => 2 - k) (0) (by omega) ⟨rfl, trivial⟩ (by rw [← pads0_0]; exact Pulls.cons pul Pulls.nil) ?_
    rintro k hk F' L' rfl hL'
    simp only [List.cons_append, List.nil_append] at hL'
    subst hL'
    have hpl := pads0_len kb k
    refine TC.seq (TC.region ?_)
    refine TL.val rfl rfl rfl (Y.bin rfl rfl rfl (br_ltN (n := 2))) ?_
    refine TL.nil (TQ.next (TC.seq ?_))
    refine TC.cond rfl (fun c1 => ?_) (fun c1 => ?_)
    · try simp only [zA, zB, zC, zD, zE, zF, zG, zH, zI, zJ] at c1
      refine TC.skip (TQ.next (TC.seq (TC.block (TC.seq (TC.region ?_)))))
      refine TL.mv ?_
      refine TL.val rfl rfl rfl (Y.indexAgg rfl Try.underlying107 sc5 sz5 rfl rfl (by omega) (getPx (by omega))) ?_
      refine TL.sg ?_
      refine TL.sg ?_
      refine TL.nil (TQ.next (TC.seq (TC.region ?_)))
      refine TL.mv ?_
      refine TL.val rfl rfl rfl (Y.indexArr rfl ar106 rfl rfl (by omega) nqq) ?_
      refine TL.val rfl rfl rfl (Y.sliceArr rfl Try.underlying105 sz5 rfl) ?_
      refine TL.mv ?_
      refine TL.eff rfl rfl rfl (X.copyBlk rfl Try.underlying23 sz5 rfl rfl (Src.rds Try.underlying23 inn) pul (by omega) (by simp [pads0_len]; omega) (by rw [writeAt_list _ _ _ (by simp [pads0_len]; omega)])) ?_
      rintro _ _ ⟨rfl, rfl⟩
      refine TL.nil (TQ.next (TC.seq (TC.region ?_)))
      refine TL.mv ?_
      refine TL.nil (TQ.next (TC.block ?_))
      have ep : (List.take (k * 64) (List.map v8 (pads0 kb k)) ++ List.map v8 kb ++ List.drop (k * 64 + (List.map v8 kb).length) (List.map v8 (pads0 kb k))) = List.map v8 (pads kb k 0) := by rw [← pads_copy kb k (by omega) hkl]; simp
      rw [ep]
      refine TC.loopF (ι := Nat) [] (fun j => j ≤ 64) (fun j => [(28, some (vN j))]) (fun j => [SA.blk b6 ((pads kb k j).map v8).toArray 106]) (fun j => 64 - j) (0) (by omega) ⟨rfl, trivial⟩ (Pulls.cons pul Pulls.nil) ?_
      rintro j hj F' L' rfl hL'
      simp only [List.cons_append, List.nil_append] at hL'
      subst hL'
      have hpl2 := pads_len kb k j
      refine TC.seq (TC.region ?_)
      refine TL.val rfl rfl rfl (Y.bin rfl rfl rfl (br_ltN (n := 64))) ?_
      refine TL.nil (TQ.next (TC.seq ?_))
      refine TC.cond rfl (fun c2 => ?_) (fun c2 => ?_)
      · try simp only [zA, zB, zC, zD, zE, zF, zG, zH, zI, zJ] at c2
        refine TC.skip (TQ.next (TC.seq (TC.block (TC.seq (TC.region ?_)))))
        refine TL.mv ?_
        refine TL.sg ?_
        refine TL.nil (TQ.next ?_)
        refine TC.draws 9 _ (by kernel_rfl) (by kernel_rfl) (fun _ h => h) ?_
        refine TA.tk 0 rfl rfl (Y.move rfl rfl) ?_
        refine TA.tk 1 rfl rfl (Y.move rfl rfl) ?_
        refine TA.tk 2 rfl rfl (Y.indexArr rfl ar106 rfl rfl (by omega) nqq) ?_
        refine TA.tk 3 rfl rfl (Y.indexArr rfl ar105 rfl rfl (by omega) nqq) ?_
        refine TA.tk 4 rfl rfl (Y.load rfl sc5 rfl ceo8) ?_
        refine TA.tk 5 rfl rfl (Y.move rfl rfl) ?_
        refine TA.tk 6 rfl rfl (Y.bin rfl rfl rfl (br_xor8)) ?_
        refine TA.tp 7 rfl rfl (Y.indexArr rfl ar106 rfl rfl (by omega) nqq) ?_
        refine TA.tk 8 rfl rfl (Y.indexArr rfl ar105 rfl rfl (by omega) nqq) ?_
        refine TA.one0 9 (by kernel_rfl) rfl rfl rfl (by first | exact X.store rfl sz5 rfl rfl rfl pul lnn (by first | exact setM | rfl) | exact X.storeOwn rfl sz5 rfl (Nat.zero_add _).symm rfl rfl pul lnn (by first | exact setML | rfl) | exact X.storeOwn rfl sz5 rfl rfl rfl rfl pul lnn (by first | exact setML | rfl)) ?_
        rintro _ _ rfl
        refine ⟨(Or.inl (by kernel_rfl)), ?_⟩
        refine TA.done (by kernel_rfl) ?_
        refine TQ.block_normal (TQ.next (TC.region ?_))
        refine TL.val rfl rfl rfl (Y.bin rfl rfl rfl (br_addN (n := 1) (by omega))) ?_
        refine TL.mv ?_
        refine TL.nil ?_
        refine TQ.loopF (j + 1) (by omega) (by omega) ⟨rfl, trivial⟩ grw ?_ ?_ ?_
        · kernel_rfl
        · rfl
        · simp only [List.cons_append, List.nil_append]
          exact (by rw [← pads_set kb k j (by omega) (by omega)]; exact ett)
      · try simp only [zA, zB, zC, zD, zE, zF, zG, zH, zI, zJ] at c2
        refine TC.exit (TQ.then_exit (TQ.then_exit (TQ.block_exit (TQ.block_normal (TQ.next (TC.region ?_))))))
        refine TL.val rfl rfl rfl (Y.bin rfl rfl rfl (br_addN (n := 1) (by omega))) ?_
        refine TL.mv ?_
        refine TL.nil ?_
        obtain rfl : j = 64 := by omega
        rw [pads_64]
        refine TQ.loopF (k + 1) (by omega) (by omega) ⟨rfl, trivial⟩ grw ?_ ?_ ?_
        · kernel_rfl
        · rfl
        · simp only [List.cons_append, List.nil_append]
          exact ett
    · try simp only [zA, zB, zC, zD, zE, zF, zG, zH, zI, zJ] at c1
      refine TC.exit (TQ.then_exit (TQ.then_exit (TQ.block_exit (TQ.next (TC.seq ?_)))))
      obtain rfl : k = 2 := by omega
      have hr0 := row_len kb 54
      have hr1 := row_len kb 92
      refine TC.to (Ent.trans (Pull.ent (A := SA.blk b6 _ _) pul) (Ent.freezeB.trans ((Ent.dup Dup.rblk).trans (Ent.rblkRds (sz := 1) (k := 0) (n := 64) (c := 64) (l := (row kb 54).map v8) (by simp [hr0]) one8 (Nat.le_refl _) (by decide) (fun j u h => by have := pads0_row kb 0 (by decide) j u h; simpa using this))))) ?_
      refine TC.to (Ent.trans (Pull.ent (A := SA.rds 1 (.slice am _ _) _ _) pul) Ent.swap) ?_
      refine TC.to (Ent.trans (by rw [show (64 : Nat) = (row kb 54).length from hr0.symm]; exact Ent.refl) (Ent.part2 (x := (some ⟨b6, 0, none⟩, 64, row kb 54)) (z := (am, cm, msg)))) ?_
      refine TC.region ?_
      refine TL.val rfl rfl rfl (Y.indexArr (j := 0) rfl ar106 rfl rfl (by omega) nqq) ?_
      refine TL.val rfl rfl rfl (Y.sliceArr rfl Try.underlying105 sz5 rfl) ?_
      refine TL.mv ?_
      refine TL.eff rfl rfl rfl (X.lit rfl el24 rfl rfl rfl (by decide) rfl) ?_
      rintro _ _ ⟨g45, rfl, rfl⟩
      refine TL.eff rfl rfl rfl (X.call rfl Try.func56 (by kernel_rfl) rfl rfl (Fn.pre (sum_fn _ _ _ _ [(some ⟨b6, 0, none⟩, 64, row kb 54), (am, cm, msg)] [.slice (some ⟨b6, 0, none⟩) 64 64, .slice am msg.length cm] (Reads.owns (e := 23)) (by simp [pv, hr0]) rfl (by simp [cat, hr0]; omega) _) (Ent.cons pul (Ent.cons pul Ent.refl)))) ?_
      rintro _ _ ⟨rfl, rfl⟩
      rw [show cat [(some ⟨b6, 0, none⟩, 64, row kb 54), (am, cm, msg)] = row kb 54 ++ msg by simp [cat]]
      have hsl := sha_len (row kb 54 ++ msg)
      generalize hH : sha (row kb 54 ++ msg) = h at hsl ⊢
      refine TL.eff rfl rfl rfl (X.alloc rfl zc101) ?_
      rintro _ _ ⟨b10, rfl, rfl⟩
      refine TL.eff0 rfl rfl (by first | exact X.storeAll rfl sz101 szz rfl rfl (by simp [Value.oneCell']) pul szz | exact X.storeAgg rfl sz101 szz rfl rfl (by simp [Value.oneCell']) pul szz (writeM (by ((try simp only [List.length_set, List.length_map, List.length_append, List.length_replicate]); omega)))) ?_
      rintro _ _ rfl
      refine TL.nil (TQ.next (TC.seq ?_))
      refine TC.to (Ent.trans (Pull.ent (A := SA.blk b10 _ _) pul) (Ent.freezeB.trans (Ent.rblkRds (sz := 1) (k := 0) (n := h.length) (c := 20) (l := h.map v8) (by simp) one8 (by omega) (by decide) (fun j u h => by simpa using h)))) ?_
      refine TC.to (Ent.trans (Pull.ent (A := SA.rblk b6 _ _) pul) (Ent.rblkRds (sz := 1) (k := 64) (n := (row kb 92).length) (c := 64) (l := (row kb 92).map v8) (by simp) one8 (by omega) (by decide) (fun j u h => by have := pads0_row kb 1 (by decide) j u h; simpa using this))) ?_
      refine TC.to (Ent.part2 (x := (some ⟨b6, 64, none⟩, 64, row kb 92)) (z := (some ⟨b10, 0, none⟩, 20, h))) ?_
      refine TC.draws 5 [] (by kernel_rfl) (by kernel_rfl) (fun _ _ A hA => by cases hA) ?_
      refine TA.tk 0 rfl rfl (Y.indexArr (j := 1) rfl ar106 rfl rfl (by omega) nqq) ?_
      refine TA.tk 1 rfl rfl (Y.sliceArr rfl Try.underlying105 sz5 rfl) ?_
      refine TA.tk 2 rfl rfl (Y.sliceArr rfl Try.underlying101 sz5 rfl) ?_
      refine TA.one 3 (by kernel_rfl) rfl rfl rfl rfl (X.lit rfl el24 rfl rfl rfl (by decide) rfl) ?_
      rintro _ _ ⟨g50, rfl, rfl⟩
      refine ⟨(Or.inr (fun w h A hA => by cases hA)), ?_⟩
      refine TA.one 4 (by kernel_rfl) rfl rfl rfl rfl (X.call rfl Try.func56 (by kernel_rfl) rfl rfl (Fn.pre (sum_fn _ _ _ _ [(some ⟨b6, 64, none⟩, 64, row kb 92), (some ⟨b10, 0, none⟩, 20, h)] [.slice (some ⟨b6, 64, none⟩) 64 64, .slice (some ⟨b10, 0, none⟩) 20 20] (Reads.owns (e := 23)) (by simp [pv, hr1, hsl]) rfl (by simp [cat, hr1, hsl]) _) (Ent.cons pul (Ent.cons pul Ent.refl)))) ?_
      rintro _ _ ⟨rfl, rfl⟩
      rw [show cat [(some ⟨b6, 64, none⟩, 64, row kb 92), (some ⟨b10, 0, none⟩, 20, h)] = row kb 92 ++ h by simp [cat]]
      have hsl2 := sha_len (row kb 92 ++ h)
      refine ⟨(Or.inr (fun w h A hA => by cases hA)), ?_⟩
      refine TA.one0 5 (by kernel_rfl) rfl rfl rfl (by first | exact X.storeAll rfl sz101 szz rfl rfl (by simp [Value.oneCell']) pul szz | exact X.storeAgg rfl sz101 szz rfl rfl (by simp [Value.oneCell']) pul szz (writeM (by ((try simp only [List.length_set, List.length_map, List.length_append, List.length_replicate]); omega)))) ?_
      rintro _ _ rfl
      refine ⟨(Or.inl (by kernel_rfl)), ?_⟩
      refine TA.done (by kernel_rfl) ?_
      refine TQ.next (TC.ret ?_)
      refine TQ.retE (resC rfl ag101 rfl (Cels.full inn) szz) (⟨by rw [mac, hkb, hH], rfl⟩) ?_
      exact ett
end sha
end Go.Proofs.Ytomplpdeeomehaa


/- assoc: a side's state; the small functions, walked. -/
namespace Go.Proofs.Ytomplpdeeomehaa
set_option linter.unusedVariables false
set_option linter.unusedSimpArgs false
open Go.RowKit
namespace ac
open wr (be16 be32)
namespace FxAsA
set_option maxRecDepth 100000
theorem fo68_11 : Program.fieldOff Try.prog 68 11 = some 11 := by kernel_rfl
theorem fo68_12 : Program.fieldOff Try.prog 68 12 = some 12 := by kernel_rfl
theorem fo68_3 : Program.fieldOff Try.prog 68 3 = some 3 := by kernel_rfl
theorem fo68_9 : Program.fieldOff Try.prog 68 9 = some 9 := by kernel_rfl
theorem pl66 : Program.places Try.prog 66 = some [(0, 1), (1, 1), (2, 1), (3, 1)] := by kernel_rfl
theorem sc2 : Program.isSc Try.prog 2 = true := by kernel_rfl
theorem sc3 : Program.isSc Try.prog 3 = true := by kernel_rfl
theorem sc64 : Program.isSc Try.prog 64 = true := by kernel_rfl
theorem zc66 : Program.zeroC Try.prog 66 = some #[.bool false, .int .i64 0, .int .i64 0, .int .i64 0] := by kernel_rfl
theorem zc85 : Program.zeroC Try.prog 85 = some #[.slice none 0 0] := by kernel_rfl
end FxAsA
open Go.Proofs.Ytomplpdeeomehaa.wr.FxWireW FxAsA
abbrev Msg := UInt16 × UInt32 × Bs
abbrev Itm := Msg × Bool
structure AS (μ : Type) where
  tag : UInt32
  first : UInt32
  secret : List UInt8
  state : Nat
  known : Bool
  other : UInt32
  top : UInt32
  kept : UInt32 → Option μ
  base : UInt32
  queue : List (μ × Bool)
  sent : Nat
  clock : Int
  tset : Bool
  moment : Int
  delay : Int
  fires : Nat
  shake : List UInt8
structure AP where
  sa : Option Addr
  sc : Nat
  mb : Nat
  qa : Option Addr
  qc : Nat
  ha : Option Addr
  hc : Nat
def asC (p : AP) (S : AS Msg) : Array Value := #[v32 S.tag, v32 S.first, .slice p.sa S.secret.length p.sc, vN S.state, vB S.known, v32 S.other, v32 S.top, .map (some p.mb), v32 S.base, .slice p.qa S.queue.length p.qc, vN S.sent, vI S.clock, vB S.tset, vI S.moment, vI S.delay, vN S.fires, .slice p.ha S.shake.length p.hc]
abbrev aB (b : Nat) (p : AP) (S : AS Msg) : SA := SA.blk b (asC p S) 68
abbrev aS (p : AP) (S : AS Msg) : SA := SA.rds 1 (.slice p.sa S.secret.length p.sc) S.secret.length (S.secret.map v8)
abbrev aM (p : AP) (S : AS Msg) : SA := SA.mapD p.mb S.kept
abbrev aQ (p : AP) (S : AS Msg) : SA := SA.owns 82 4 (.slice p.qa S.queue.length p.qc) S.queue.length (Dat.cs S.queue)
abbrev aD (S : AS Msg) : SA := SA.rdss (S.queue.flatMap Dat.g)
abbrev aH (p : AP) (S : AS Msg) : SA := SA.rds 1 (.slice p.ha S.shake.length p.hc) S.shake.length (S.shake.map v8)
def AS.starts {μ : Type} (S : AS μ) : AS μ := { S with tset := true, moment := S.clock, delay := 1000, fires := 0 }
--REG (*rostrum/assoc.Assoc).start : _ _ ⟨rfl, rfl⟩ => (ac.start_fn _ _ _ _)
theorem start_fn (b : Nat) (p : AP) (S : AS Msg) (L : List SA) : Fn Try.prog 46 [pt b 0] (aB b p S :: L) (fun v L' => v = .tuple #[] ∧ L' = aB b p S.starts :: L) := by
  refine Fn.of (N := 10) Try.func46 rfl rfl ?_
  intro Xh
  refine TC.region ?_
  refine TL.mv ?_
  refine TL.mv ?_
  refine TL.nc ?_
  refine TL.val rfl rfl rfl (by first | exact Y.fieldAddrJ rfl fo68_11 rfl nqq | exact Y.fieldAddr rfl fo68_11 rfl nqq) ?_
  refine TL.val rfl rfl rfl (Y.load rfl sc2 rfl celN) ?_
  refine TL.as (vI S.clock) (by rfl) ?_
  refine TL.val rfl rfl rfl (Y.buildS (cells := #[vB true, vI S.clock, vI 1000, vN 0]) rfl rfl pl66 zc66 (by kernel_rfl)) ?_
  refine TL.nc ?_
  refine TL.val rfl rfl rfl (by first | exact Y.fieldAddrJ rfl fo68_12 rfl nqq | exact Y.fieldAddr rfl fo68_12 rfl nqq) ?_
  refine TL.eff0 rfl rfl (X.storeAgg (cs' := asC p S.starts) rfl (by kernel_rfl) rfl rfl rfl (allOne (by rfl)) pul (by show 12 + 4 ≤ 17; decide) rfl) ?_
  rintro _ _ rfl
  refine TL.nil ?_
  refine TQ.endE (res0 rfl) (⟨rfl, rfl⟩) ?_
  exact ett
--REG (*rostrum/assoc.Assoc).State : _ _ ⟨rfl, rfl⟩ => (ac.State_fn _ _ _ _)
theorem State_fn (b : Nat) (p : AP) (S : AS Msg) (L : List SA) : Fn Try.prog 14 [pt b 0] (aB b p S :: L) (fun v L' => v = vN S.state ∧ L' = aB b p S :: L) := by
  refine Fn.of (N := 9) Try.func14 rfl rfl ?_
  intro Xh
  refine TC.seq (TC.region ?_)
  refine TL.sg ?_
  refine TL.nil (TQ.next (TC.seq (TC.seq (TC.region ?_))))
  refine TL.mv ?_
  refine TL.val rfl rfl rfl (by first | exact Y.eqNilP rfl Try.underlying26 rfl rfl | exact Y.eqNil0 rfl Try.underlying26 rfl rfl) ?_
  refine TL.nil (TQ.next ?_)
  refine TC.cond_f rfl ?_
  refine TC.skip (TQ.next (TC.seq (TC.region ?_)))
  refine TL.mv ?_
  refine TL.nc ?_
  refine TL.val rfl rfl rfl (by first | exact Y.fieldAddrJ rfl fo68_3 rfl nqq | exact Y.fieldAddr rfl fo68_3 rfl nqq) ?_
  refine TL.val rfl rfl rfl (Y.load rfl sc3 rfl celN) ?_
  refine TL.sg ?_
  refine TL.nil (TQ.next (TC.ret ?_))
  refine TQ.retE (res1 rfl rfl) (⟨rfl, rfl⟩) ?_
  exact ett
--REG (*rostrum/assoc.Assoc).Waiting : _ _ ⟨rfl, rfl⟩ => (ac.Waiting_fn _ _ _ _)
theorem Waiting_fn (b : Nat) (p : AP) (S : AS Msg) (L : List SA) : Fn Try.prog 22 [pt b 0] (aB b p S :: L) (fun v L' => v = vN S.queue.length ∧ L' = aB b p S :: L) := by
  refine Fn.of (N := 10) Try.func22 rfl rfl ?_
  intro Xh
  refine TC.seq (TC.region ?_)
  refine TL.sg ?_
  refine TL.nil (TQ.next (TC.seq (TC.seq (TC.region ?_))))
  refine TL.mv ?_
  refine TL.val rfl rfl rfl (by first | exact Y.eqNilP rfl Try.underlying26 rfl rfl | exact Y.eqNil0 rfl Try.underlying26 rfl rfl) ?_
  refine TL.nil (TQ.next ?_)
  refine TC.cond_f rfl ?_
  refine TC.skip (TQ.next (TC.seq (TC.region ?_)))
  refine TL.mv ?_
  refine TL.nc ?_
  refine TL.val rfl rfl rfl (by first | exact Y.fieldAddrJ rfl fo68_9 rfl nqq | exact Y.fieldAddr rfl fo68_9 rfl nqq) ?_
  refine TL.val rfl rfl rfl (Y.load rfl sc64 rfl celD) ?_
  refine TL.as (.slice p.qa S.queue.length p.qc) (by rfl) ?_
  refine TL.val rfl rfl rfl (Y.len rfl Try.underlying64 rfl) ?_
  refine TL.sg ?_
  refine TL.nil (TQ.next (TC.ret ?_))
  refine TQ.retE (res1 rfl rfl) (⟨rfl, rfl⟩) ?_
  exact ett
def pkt (tag : UInt32) (kind : UInt8) : List UInt8 := be32 tag ++ be32 (shl32 kind.toUInt32 24)
theorem pkt_len (tag : UInt32) (kind : UInt8) : (pkt tag kind).length = 8 := rfl
--REG rostrum/assoc.packet : _ _ ⟨a{d}, c{d}, rfl, rfl⟩ => (ac.packet_fn _ {1} _)
theorem packet_fn (tag : UInt32) (kind : UInt8) (L : List SA) : Fn Try.prog 44 [v32 tag, v8 kind] L (fun v L' => ∃ a c, v = .slice a 8 c ∧ L' = SA.owns 5 1 (.slice a 8 c) 8 ((pkt tag kind).map v8) :: L) := by
  refine Fn.of (N := 13) Try.func44 rfl rfl ?_
  intro Xh
  refine TC.seq (TC.region ?_)
  refine TL.sg ?_
  refine TL.nil (TQ.next (TC.seq (TC.region ?_)))
  refine TL.eff rfl rfl rfl (X.alloc rfl zc85) ?_
  rintro _ _ ⟨b5, rfl, rfl⟩
  refine TL.nil ?_
  refine TQ.to (wr.mk0 (b := b5)) ?_
  refine TQ.next (TC.seq (TC.region ?_))
  refine TL.mv ?_
  refine TL.eff rfl rfl rfl (X.cl rfl Try.func45 rfl (h := (wr.U32_fn _ _ _ (by first | omega | (simp only [List.length_append, List.length_nil, List.length_cons, wr.be16_len, wr.be32_len]; omega) | (simp only [List.length_append, List.length_nil, List.length_cons, wr.be16_len, wr.be32_len, r1.be2_len, r1.be4_len]; omega) | (simp; omega)) _))) ?_
  rintro _ _ ⟨rfl, rfl⟩
  refine TL.nil (TQ.next (TC.seq (TC.region ?_)))
  refine TL.mv ?_
  refine TL.val rfl rfl rfl (Y.conv rfl Try.underlying5 Try.underlying22 rfl (cv_8_32)) ?_
  refine TL.val rfl rfl rfl (Y.bin rfl rfl rfl (br_shl32 (n := 24))) ?_
  refine TL.eff rfl rfl rfl (X.cl rfl Try.func45 rfl (h := (wr.U32_fn _ _ _ (by first | omega | (simp only [List.length_append, List.length_nil, List.length_cons, wr.be16_len, wr.be32_len]; omega) | (simp only [List.length_append, List.length_nil, List.length_cons, wr.be16_len, wr.be32_len, r1.be2_len, r1.be4_len]; omega) | (simp; omega)) _))) ?_
  rintro _ _ ⟨rfl, rfl⟩
  refine TL.nil (TQ.next (TC.seq ?_))
  refine TC.open pul ?_
  rintro ⟨a, c⟩
  refine TC.split pul ?_
  refine TC.region ?_
  refine TL.val rfl rfl rfl (Y.load rfl sc85 rfl celD) ?_
  refine TL.sg ?_
  refine TL.nil (TQ.next (TC.ret ?_))
  refine TQ.retE (res1 rfl rfl) (⟨_, _, rfl, rfl⟩) ?_
  exact ett
end ac
end Go.Proofs.Ytomplpdeeomehaa


/- assoc: New, cookies, data packets, Start, Abort, walked. -/
namespace Go.Proofs.Ytomplpdeeomehaa
set_option linter.unusedVariables false
set_option linter.unusedSimpArgs false
open Go.RowKit
namespace ac
open wr (be16 be32)
namespace FxAsB
set_option maxRecDepth 100000
theorem fo68_0 : Program.fieldOff Try.prog 68 0 = some 0 := by kernel_rfl
theorem fo68_1 : Program.fieldOff Try.prog 68 1 = some 1 := by kernel_rfl
theorem fo68_2 : Program.fieldOff Try.prog 68 2 = some 2 := by kernel_rfl
theorem pl68 : Program.places Try.prog 68 = some [(0, 1), (1, 1), (2, 1), (3, 1), (4, 1), (5, 1), (6, 1), (7, 1), (8, 1), (9, 1), (10, 1), (11, 1), (12, 4), (16, 1)] := by kernel_rfl
theorem zc100 : Program.zeroC Try.prog 100 = some ((List.replicate 4 (0 : UInt32)).map v32).toArray := by kernel_rfl
theorem zc68 : Program.zeroC Try.prog 68 = some #[.int .u32 0, .int .u32 0, .slice none 0 0, .int .i64 0, .bool false, .int .u32 0, .int .u32 0, .map none, .int .u32 0, .slice none 0 0, .int .i64 0, .int .i64 0, .bool false, .int .i64 0, .int .i64 0, .int .i64 0, .slice none 0 0] := by kernel_rfl
end FxAsB
open Go.Proofs.Ytomplpdeeomehaa.sha.FxShaBlock Go.Proofs.Ytomplpdeeomehaa.rd.FxWireR Go.Proofs.Ytomplpdeeomehaa.wr.FxWireW Go.Proofs.Ytomplpdeeomehaa.sha.FxShaSum Go.Proofs.Ytomplpdeeomehaa.ac.FxAsA FxAsB
section
variable {P : Program} {N : Nat} {F : FE} {As L : List SA} {o : Oper} {x y : Operand}
theorem Y.maxK {k : IntKind} {m n : Int} {at' : Array TypeId} (ho : o.op = .call { callee := .builtin .max, args := #[x, y], argTypes := at' }) (hx : evO F x = some (.int k m)) (hy : evO F y = some (.int k n)) : Yld P N o F As (.int k (max m n)) := fun a w ha hw => by
  unfold execOp; rw [ho]
  replace hx := ha.eval hx
  replace hy := ha.eval hy
  generalize a.eval = ρ at hx hy ⊢
  simp [resolve, invoke, builtin, hx, hy, Builtin.max_, Builtin.max2, Result.andThen, Oper.upon, go_sem]
  split <;> omega
end
theorem readsBlk {b T n : Nat} {l : List UInt8} (hn : l.length = n) (hm : n ≤ maxLen) : Reads (SA.blk b (l.map v8).toArray T) 1 (.slice (some ⟨b, 0, none⟩) n n) n (l.map v8) := fun w O R h => by
  subst hn
  refine ⟨by simp, one8, some ⟨b, 0, none⟩, l.length, rfl, Nat.le_refl _, hm, by simp, ?_⟩
  intro p hp j u hu
  cases hp
  rw [Addr.add_lit, h.2.cell]
  simpa using hu
theorem macO_fn (ka : Option Addr) (kn kc : Nat) (key : List UInt8) (hk : key.length = kn) (a : Option Addr) (n cap : Nat) (b : List UInt8) (hn : b.length = n) (h1 : kn ≤ 140737488351232) (h2 : n ≤ 140737488351232) (L : List SA) :
    Fn Try.prog 54 [.slice ka kn kc, .slice a n cap] (SA.rds 1 (.slice ka kn kc) kn (key.map v8) :: SA.owns 5 1 (.slice a n cap) n (b.map v8) :: L)
      (fun v L' => v = .agg ((sha.mac key b).map v8).toArray ∧ L' = SA.rds 1 (.slice ka kn kc) kn (key.map v8) :: SA.owns 5 1 (.slice a n cap) n (b.map v8) :: L) :=
  Fn.lend0 (Lend.cons Lend1.rds (Lend.cons Lend1.own Lend.nil)) (sha.mac_fn ka kn kc key hk a n cap b hn (by omega) (by omega) []) L
def tagOf (t : UInt32) : UInt32 := if t = 0 then 1 else t
theorem tagOf_v (t : UInt32) : Value.int .u32 (max (t.toNat : Int) 1) = v32 (tagOf t) := by
  unfold tagOf
  by_cases h : t = 0
  · subst h; rfl
  · rw [if_neg h]
    have : t.toNat ≠ 0 := fun e => h (UInt32.toNat_inj.1 (by simpa using e))
    rw [v32, show max (t.toNat : Int) 1 = t.toNat by omega]
def newS (tag tsn : UInt32) (secret : List UInt8) : AS Msg := { tag := tagOf tag, first := tsn, secret := secret, state := 0, known := false, other := 0, top := 0, kept := fun _ => none, base := tsn, queue := [], sent := 0, clock := 0, tset := false, moment := 0, delay := 0, fires := 0, shake := [] }
--REG rostrum/assoc.New : _ _ ⟨b{d}, p{d}, rfl, rfl⟩ => (ac.New_fn _ _ _ _ _ _ (by first | assumption | rfl) (by omega) _)
theorem New_fn (tag tsn : UInt32) (a : Option Addr) (n cap : Nat) (secret : List UInt8) (hn : secret.length = n) (hs : n ≤ 140737488351232) (L : List SA) :
    Fn Try.prog 11 [v32 tag, v32 tsn, .slice a n cap] (SA.rds 1 (.slice a n cap) n (secret.map v8) :: L)
      (fun v L' => ∃ b p, v = pt b 0 ∧ L' = aB b p (newS tag tsn secret) :: aS p (newS tag tsn secret) :: aM p (newS tag tsn secret) :: aQ p (newS tag tsn secret) :: aD (newS tag tsn secret) :: aH p (newS tag tsn secret) :: SA.rds 1 (.slice a n cap) n (secret.map v8) :: L) := by
  subst hn
  refine Fn.of (N := 16) Try.func11 rfl rfl ?_
  intro Xh
  refine TC.seq (TC.region ?_)
  refine TL.sg ?_
  refine TL.nil (TQ.next (TC.seq (TC.region ?_)))
  refine TL.mv ?_
  refine TL.val rfl rfl rfl (Y.maxK (n := 1) rfl rfl rfl) ?_
  refine TL.as (v32 (tagOf tag)) (by exact tagOf_v tag) ?_
  refine TL.mv ?_
  refine TL.mv ?_
  refine TL.mv ?_
  refine TL.eff rfl rfl rfl (X.cl rfl Try.func25 rfl (h := (rd.Clone_fn _ _ _ _ (by first | assumption | rfl) (by omega) _))) ?_
  rintro _ _ ⟨a12, c12, rfl, rfl⟩
  refine TL.eff rfl rfl rfl (X.makeMap (β := Msg) rfl) ?_
  rintro _ _ ⟨b13, rfl, rfl⟩
  refine TL.val rfl rfl rfl (Y.buildS (cells := asC ⟨a12, c12, b13, none, 0, none, 0⟩ (newS tag tsn secret)) rfl rfl pl68 zc68 (by kernel_rfl)) ?_
  refine TL.eff rfl rfl rfl (X.boxA rfl rfl) ?_
  rintro _ _ ⟨b15, rfl, rfl⟩
  refine TL.sg ?_
  refine TL.nil (TQ.next (TC.ret ?_))
  refine TQ.retE (res1 rfl rfl) (⟨b15, ⟨a12, c12, b13, none, 0, none, 0⟩, rfl, rfl⟩) ?_
  exact (Ent.trans ((Pull.ent (A := SA.owns 5 1 (.slice a12 secret.length c12) secret.length (secret.map v8)) pul).trans Ent.freeze) (Ent.trans (Ent.nilOwn 82 4) (Ent.trans Ent.rdss0 (Ent.trans ((Ent.nilOwn 0 1).trans Ent.freeze) ett))))
def ckB {μ : Type} (S : AS μ) (tag tsn : UInt32) : List UInt8 := be32 tag ++ be32 tsn ++ be32 S.tag ++ be32 S.first
def cookieB {μ : Type} (S : AS μ) (tag tsn : UInt32) : List UInt8 := ckB S tag tsn ++ sha.mac S.secret (ckB S tag tsn)
theorem cookieB_len {μ : Type} (S : AS μ) (tag tsn : UInt32) : (cookieB S tag tsn).length = 36 := by rw [cookieB, List.length_append, sha.mac_len]; rfl
theorem flat_len4 (l : List UInt32) : (l.flatMap be32).length = 4 * l.length := by
  induction l with
  | nil => rfl
  | cons x l ih => rw [List.flatMap_cons, List.length_append, ih]; simp [be32]; omega
theorem flat4 (l : List UInt32) (k : Nat) (x : UInt32) (h : l[k]? = some x) : (l.take k).flatMap be32 ++ be32 x = (l.take (k + 1)).flatMap be32 := by rw [List.take_add_one, h, List.flatMap_append]; simp
set_option maxHeartbeats 1000000 in
--REG (*rostrum/assoc.Assoc).cookie : _ _ ⟨a{d}, c{d}, rfl, rfl⟩ => (ac.cookie_fn _ _ _ {1} {2} (by assumption) _)
theorem cookie_fn (b : Nat) (p : AP) (S : AS Msg) (tag tsn : UInt32) (hs : S.secret.length ≤ 140737488351232) (L : List SA) :
    Fn Try.prog 49 [pt b 0, v32 tag, v32 tsn] (aB b p S :: aS p S :: L) (fun v L' => ∃ a c, v = .slice a 36 c ∧ L' = SA.owns 5 1 (.slice a 36 c) 36 ((cookieB S tag tsn).map v8) :: aB b p S :: aS p S :: L) := by
  refine Fn.of (N := 37) Try.func49 rfl rfl ?_
  intro Xh
  refine TC.seq (TC.region ?_)
  refine TL.sg ?_
  refine TL.nil (TQ.next (TC.seq (TC.region ?_)))
  refine TL.eff rfl rfl rfl (X.alloc rfl zc85) ?_
  rintro _ _ ⟨b7, rfl, rfl⟩
  refine TL.nil ?_
  refine TQ.to (wr.mk0 (b := b7)) ?_
  refine TQ.next (TC.seq (TC.seq ?_))
  refine TC.draws 12 _ (by kernel_rfl) (by kernel_rfl) (fun _ h => h) ?_
  refine TA.tk 0 rfl rfl (Y.move rfl rfl) ?_
  refine TA.tk 1 rfl rfl (Y.move rfl rfl) ?_
  refine TA.tk 2 rfl rfl (Y.move rfl rfl) ?_
  refine TA.tk 3 rfl rfl (Y.nilCheck rfl rfl) ?_
  refine TA.tk 4 rfl rfl (by first | exact Y.fieldAddrJ rfl fo68_0 rfl nqq | exact Y.fieldAddr rfl fo68_0 rfl nqq) ?_
  refine TA.tk 5 rfl rfl (Y.load rfl sc22 rfl cel32) ?_
  refine TA.as (v32 S.tag) (by rfl) ?_
  refine TA.tk 6 rfl rfl (Y.move rfl rfl) ?_
  refine TA.tk 7 rfl rfl (Y.nilCheck rfl rfl) ?_
  refine TA.tk 8 rfl rfl (by first | exact Y.fieldAddrJ rfl fo68_1 rfl nqq | exact Y.fieldAddr rfl fo68_1 rfl nqq) ?_
  refine TA.tk 9 rfl rfl (Y.load rfl sc22 rfl cel32) ?_
  refine TA.as (v32 S.first) (by rfl) ?_
  refine TA.tk 10 rfl rfl (Y.buildM rfl rfl Try.underlying100 sz22 zc100 rfl rfl rfl (by first | exact (by simp only [List.all_cons, List.all_nil, Value.oneCell', Bool.and_self]) | rfl)) ?_
  refine TA.as (.agg (([tag, tsn, S.tag, S.first] : List UInt32).map v32).toArray) (by rfl) ?_
  refine TA.tk 11 rfl rfl (Y.move rfl rfl) ?_
  refine TA.done (by kernel_rfl) ?_
  refine TQ.next (TC.block ?_)
  refine TC.loopF (ι := Nat) [] (fun k => k ≤ 4) (fun k => [(22, some (vN k))]) (fun k => [wr.W b7 ((([tag, tsn, S.tag, S.first] : List UInt32).take k).flatMap be32)]) (fun k => 4 - k) (0) (by omega) ⟨rfl, trivial⟩ (Pulls.cons pul Pulls.nil) ?_
  rintro k hk F' L' rfl hL'
  simp only [List.cons_append, List.nil_append] at hL'
  subst hL'
  refine TC.seq (TC.region ?_)
  refine TL.val rfl rfl rfl (Y.bin rfl rfl rfl (br_ltN (n := 4))) ?_
  refine TL.nil (TQ.next (TC.seq ?_))
  refine TC.cond rfl (fun c0 => ?_) (fun c0 => ?_)
  · try simp only [zA, zB, zC, zD, zE, zF, zG, zH, zI, zJ] at c0
    refine TC.skip (TQ.next (TC.seq (TC.block (TC.seq ?_))))
    obtain ⟨x, hx, -⟩ := getS (l := ([tag, tsn, S.tag, S.first] : List UInt32)) (i := k) (by show k < 4; omega)
    refine TC.region ?_
    refine TL.val rfl rfl rfl (Y.indexAgg rfl Try.underlying100 sc22 sz22 rfl rfl (by omega) (by first | exact getM (d := (0 : UInt32)) lnn | rfl)) ?_
    refine TL.as (v32 x) (by (rw [List.getD_eq_getElem?_getD, hx]; rfl)) ?_
    refine TL.sg ?_
    refine TL.nil (TQ.next (TC.region ?_))
    refine TL.mv ?_
    refine TL.eff rfl rfl rfl (X.cl rfl Try.func45 rfl (h := (wr.U32_fn b7 x _ (by rw [flat_len4, List.length_take]; show 4 * min k 4 ≤ _; omega) _))) ?_
    rintro _ _ ⟨rfl, rfl⟩
    rw [flat4 _ k x hx]
    refine TL.nil (TQ.block_normal (TQ.next (TC.region ?_)))
    refine TL.val rfl rfl rfl (Y.bin rfl rfl rfl (br_addN (n := 1) (by omega))) ?_
    refine TL.mv ?_
    refine TL.nil ?_
    refine TQ.loopF (k + 1) (by omega) (by omega) ⟨rfl, trivial⟩ grw ?_ ?_ ?_
    · kernel_rfl
    · rfl
    · simp only [List.cons_append, List.nil_append]
      exact ett
  · try simp only [zA, zB, zC, zD, zE, zF, zG, zH, zI, zJ] at c0
    obtain rfl : k = 4 := by omega
    rw [show (([tag, tsn, S.tag, S.first] : List UInt32).take 4).flatMap be32 = ckB S tag tsn by simp [ckB]]
    refine TC.exit (TQ.then_exit (TQ.then_exit (TQ.block_exit (TQ.next ?_))))
    refine TC.cutF (ι := Nat) [] (fun _ => True) (fun i => [(10, some (pt i 0))]) (fun i => [SA.blk i ((sha.mac S.secret (ckB S tag tsn)).map v8).toArray 101]) (Ao := []) Pulls.nil ?_ ?_
    · rintro L' hL'
      simp only [List.cons_append, List.nil_append] at hL'
      subst hL'
      refine TC.open pul ?_
      rintro ⟨wa, wc⟩
      refine TC.split pul ?_
      refine TC.draws 7 [aB b p S, SA.blk b7 #[.slice wa (ckB S tag tsn).length wc] 85] (by kernel_rfl) (by kernel_rfl) hld ?_
      refine TA.tk 0 rfl rfl (Y.move rfl rfl) ?_
      refine TA.tk 1 rfl rfl (Y.nilCheck rfl rfl) ?_
      refine TA.tk 2 rfl rfl (by first | exact Y.fieldAddrJ rfl fo68_2 rfl nqq | exact Y.fieldAddr rfl fo68_2 rfl nqq) ?_
      refine TA.tk 3 rfl rfl (Y.load rfl sc23 rfl celD) ?_
      refine TA.as (.slice p.sa S.secret.length p.sc) (by rfl) ?_
      refine TA.tk 4 rfl rfl (Y.load rfl sc85 rfl celD) ?_
      refine TA.any (rs := [5, 6]) (by kernel_rfl) (by simp) ?_
      simp only [List.forall_mem_cons, List.not_mem_nil, false_implies, implies_true, and_true]
      refine ⟨?_, ?_⟩
      · skip
        refine TAo.eff rfl rfl rfl rfl (X.cl rfl Try.func54 rfl (h := (macO_fn _ _ _ S.secret rfl _ _ _ (ckB S tag tsn) rfl hs (by show 16 ≤ _; omega) _))) ?_
        rintro _ _ ⟨rfl, rfl⟩
        refine ⟨(Or.inr hld), ?_⟩
        refine TA.one 6 (by kernel_rfl) rfl rfl rfl rfl (X.alloc rfl zc101) ?_
        rintro _ _ ⟨b10, rfl, rfl⟩
        refine ⟨(Or.inr hld), ?_⟩
        refine TA.one0 7 (by kernel_rfl) rfl rfl rfl (X.storeAll rfl (by kernel_rfl) (by rw [List.size_toArray, List.length_map, sha.mac_len]) rfl rfl (fun v hv => one8 v (by simpa using hv)) pul (by simp [sha.mac_len])) ?_
        rintro _ _ rfl
        refine ⟨(Or.inl (by kernel_rfl)), ?_⟩
        refine TA.done (by kernel_rfl) ?_
        refine TQ.to (wr.put (b := b7) pul (by rfl) pul (l := ckB S tag tsn) rfl rfl Ent.refl) ?_
        refine TQ.meetF (b10) (trivial) ⟨rfl, trivial⟩ grw ?_ ?_
        · kernel_rfl
        · simp only [List.cons_append, List.nil_append]
          exact ett
      · skip
        refine TAo.eff rfl rfl rfl rfl (X.alloc rfl zc101) ?_
        rintro _ _ ⟨b10, rfl, rfl⟩
        refine ⟨(Or.inr hld), ?_⟩
        refine TA.one 5 (by kernel_rfl) rfl rfl rfl rfl (X.cl rfl Try.func54 rfl (h := (macO_fn _ _ _ S.secret rfl _ _ _ (ckB S tag tsn) rfl hs (by show 16 ≤ _; omega) _))) ?_
        rintro _ _ ⟨rfl, rfl⟩
        refine ⟨(Or.inr hld), ?_⟩
        refine TA.one0 7 (by kernel_rfl) rfl rfl rfl (X.storeAll rfl (by kernel_rfl) (by rw [List.size_toArray, List.length_map, sha.mac_len]) rfl rfl (fun v hv => one8 v (by simpa using hv)) pul (by simp [sha.mac_len])) ?_
        rintro _ _ rfl
        refine ⟨(Or.inl (by kernel_rfl)), ?_⟩
        refine TA.done (by kernel_rfl) ?_
        refine TQ.to (wr.put (b := b7) pul (by rfl) pul (l := ckB S tag tsn) rfl rfl Ent.refl) ?_
        refine TQ.meetF (b10) (trivial) ⟨rfl, trivial⟩ grw ?_ ?_
        · kernel_rfl
        · simp only [List.cons_append, List.nil_append]
          exact ett
    · rintro b10 - F' L' rfl hL'
      simp only [List.cons_append, List.nil_append] at hL'
      subst hL'
      refine TC.seq (TC.region ?_)
      refine TL.val rfl rfl rfl (Y.sliceArr rfl Try.underlying101 sz5 rfl) ?_
      refine TL.eff rfl rfl rfl (X.cl rfl Try.func48 rfl (h := (wr.Bytes_fn (SA.blk b10 ((sha.mac S.secret (ckB S tag tsn)).map v8).toArray 101) b7 20 (some ⟨b10, 0, none⟩) 20 _ (sha.mac S.secret (ckB S tag tsn)) (readsBlk (sha.mac_len _ _) (by decide)) (sha.mac_len _ _) (by show 16 + 20 ≤ _; omega) _))) ?_
      rintro _ _ ⟨rfl, rfl⟩
      rw [show ckB S tag tsn ++ sha.mac S.secret (ckB S tag tsn) = cookieB S tag tsn from rfl]
      refine TL.nil (TQ.next (TC.seq ?_))
      refine TC.open pul ?_
      rintro ⟨wa2, wc2⟩
      refine TC.split pul ?_
      rw [cookieB_len]
      refine TC.region ?_
      refine TL.val rfl rfl rfl (Y.load rfl sc85 rfl celD) ?_
      refine TL.sg ?_
      refine TL.nil (TQ.next (TC.ret ?_))
      refine TQ.retE (res1 rfl rfl) (⟨_, _, rfl, rfl⟩) ?_
      exact ett
end ac
end Go.Proofs.Ytomplpdeeomehaa


/- assoc: copies, data packets, Start, Abort, walked. -/
namespace Go.Proofs.Ytomplpdeeomehaa
set_option linter.unusedVariables false
set_option linter.unusedSimpArgs false
open Go.RowKit
namespace ac
open wr (be16 be32)
namespace FxAsC
set_option maxRecDepth 100000
theorem ag51 : Program.aggN Try.prog 51 = some 3 := by kernel_rfl
theorem fo51_0 : Program.fieldOff Try.prog 51 0 = some 0 := by kernel_rfl
theorem fo51_1 : Program.fieldOff Try.prog 51 1 = some 1 := by kernel_rfl
theorem fo51_2 : Program.fieldOff Try.prog 51 2 = some 2 := by kernel_rfl
theorem fo66_0 : Program.fieldOff Try.prog 66 0 = some 0 := by kernel_rfl
theorem fo68_13 : Program.fieldOff Try.prog 68 13 = some 16 := by kernel_rfl
theorem fo68_4 : Program.fieldOff Try.prog 68 4 = some 4 := by kernel_rfl
theorem fo68_5 : Program.fieldOff Try.prog 68 5 = some 5 := by kernel_rfl
theorem fo68_8 : Program.fieldOff Try.prog 68 8 = some 8 := by kernel_rfl
theorem fo82_0 : Program.fieldOff Try.prog 82 0 = some 0 := by kernel_rfl
theorem sc40 : Program.isSc Try.prog 40 = true := by kernel_rfl
theorem sl64 : Program.slI Try.prog 64 = some 4 := by kernel_rfl
theorem zc51 : Program.zeroC Try.prog 51 = some #[.int .u16 0, .int .u32 0, .slice none 0 0] := by kernel_rfl
end FxAsC
open Go.Proofs.Ytomplpdeeomehaa.ac.FxAsB Go.Proofs.Ytomplpdeeomehaa.ac.FxAsA Go.Proofs.Ytomplpdeeomehaa.sha.FxShaBlock Go.Proofs.Ytomplpdeeomehaa.rd.FxWireR Go.Proofs.Ytomplpdeeomehaa.wr.FxWireW FxAsC
abbrev PM := UInt16 × UInt32 × List UInt8
def pm (m : Msg) : PM := (m.1, m.2.1, m.2.2.l)
def msC (st : UInt16) (kd : UInt32) (s : Value) : Array Value := #[v16 st, v32 kd, s]
--REG (rostrum/assoc.Message).copy : _ _ ⟨a{d}, c{d}, rfl, rfl⟩ => (ac.copy_fn _ _ _ _ _ _ (by first | assumption | rfl) (by omega) _)
theorem copy_fn (st : UInt16) (kd : UInt32) (a : Option Addr) (n cap : Nat) (l : List UInt8) (hn : l.length = n) (hl : n ≤ 140737488351232) (L : List SA) :
    Fn Try.prog 41 [.agg (msC st kd (.slice a n cap))] (SA.rds 1 (.slice a n cap) n (l.map v8) :: L)
      (fun v L' => ∃ a' c', v = .agg (msC st kd (.slice a' n c')) ∧ L' = SA.owns 5 1 (.slice a' n c') n (l.map v8) :: SA.rds 1 (.slice a n cap) n (l.map v8) :: L) := by
  refine Fn.of (N := 8) Try.func41 rfl rfl ?_
  intro Xh
  refine TC.seq (TC.region ?_)
  refine TL.eff rfl rfl rfl (X.boxA rfl rfl) ?_
  rintro _ _ ⟨b1, rfl, rfl⟩
  refine TL.eff rfl rfl rfl (X.alloc rfl zc51) ?_
  rintro _ _ ⟨b2, rfl, rfl⟩
  refine TL.nil (TQ.next (TC.seq (TC.region ?_)))
  refine TL.val rfl rfl rfl (by first | exact Y.fieldAddrJ rfl fo51_2 rfl nqq | exact Y.fieldAddr rfl fo51_2 rfl nqq) ?_
  refine TL.val rfl rfl rfl (Y.load rfl sc23 rfl celD) ?_
  refine TL.as (.slice a n cap) (by rfl) ?_
  refine TL.eff rfl rfl rfl (X.cl rfl Try.func25 rfl (h := (rd.Clone_fn _ _ _ _ (by first | assumption | rfl) (by omega) _))) ?_
  rintro _ _ ⟨a5, c5, rfl, rfl⟩
  refine TL.val rfl rfl rfl (by first | exact Y.fieldAddrJ rfl fo51_2 rfl nqq | exact Y.fieldAddr rfl fo51_2 rfl nqq) ?_
  refine TL.eff0 rfl rfl (X.store (cs' := msC st kd (.slice a5 n c5)) rfl (by kernel_rfl) rfl rfl rfl pul (by show 2 < 3; decide) rfl) ?_
  rintro _ _ rfl
  refine TL.nil (TQ.next (TC.seq (TC.region ?_)))
  refine TL.val rfl rfl rfl (Y.loadAgg rfl ag51 rfl (Cels.all (cs := msC st kd (.slice a5 n c5)) inn) (by first | rfl | ((try simp only [List.length_map, List.length_set, List.length_replicate]); omega))) ?_
  refine TL.as (.agg (msC st kd (.slice a5 n c5))) (by rfl) ?_
  refine TL.eff0 rfl rfl (X.storeAll rfl (by kernel_rfl) (by rfl) rfl rfl (allOne (by rfl)) pul (by rfl)) ?_
  rintro _ _ rfl
  refine TL.nil (TQ.next (TC.ret ?_))
  refine TQ.retE (resC rfl ag51 rfl (Cels.all (cs := msC st kd (.slice a5 n c5)) inn) rfl) (⟨_, _, rfl, rfl⟩) ?_
  exact ett
def dataB (other tsn : UInt32) (m : PM) : List UInt8 := pkt other 5 ++ be32 tsn ++ be16 m.1 ++ be32 m.2.1 ++ m.2.2
theorem Ent.itemD {S : AS Msg} {L L1 : List SA} {st : UInt16} {kd : UInt32} {bs : Bs} {co : Bool} (h : Pull (aD S) L L1) (hx : (((st, kd, bs), co) : Itm) ∈ S.queue) : Ent L (SA.rds 1 (.slice bs.a bs.l.length bs.cap) bs.l.length (bs.l.map v8) :: aD S :: L1) := by
  refine h.ent.trans ((Ent.rdss_sub (hs := Dat.g bs) fun q hq => List.mem_flatMap.2 ⟨_, hx, ?_⟩).trans ((Ent.bytesOf (s := bs)).trans (Ent.under _ Ent.drop)))
  show q ∈ ([] ++ ([] ++ Dat.g bs)) ++ []
  simpa using hq
set_option maxHeartbeats 1000000 in
theorem data_fn (b : Nat) (p : AP) (S : AS Msg) (i : Nat) (st : UInt16) (kd : UInt32) (bs : Bs) (co : Bool) (hx : S.queue[i]? = some ((st, kd, bs), co)) (hl : bs.l.length ≤ 1099511627700) (L : List SA) :
    Fn Try.prog 43 [pt b 0, vN i] (aB b p S :: aQ p S :: aD S :: L)
      (fun v L' => ∃ a c, v = .slice a (dataB S.other (S.base + UInt32.ofNat i) (st, kd, bs.l)).length c ∧ L' = SA.owns 5 1 (.slice a (dataB S.other (S.base + UInt32.ofNat i) (st, kd, bs.l)).length c) (dataB S.other (S.base + UInt32.ofNat i) (st, kd, bs.l)).length ((dataB S.other (S.base + UInt32.ofNat i) (st, kd, bs.l)).map v8) :: aB b p S :: aQ p S :: aD S :: L) := by
  have hi := (List.getElem?_eq_some_iff.1 hx).1
  refine Fn.of (N := 38) Try.func43 rfl rfl ?_
  intro Xh
  refine TC.know (owns_some (a := p.qa) (n := S.queue.length) inn (by omega)) ?_
  rintro ⟨g, off, hqa⟩
  refine TC.to (Ent.itemD pul (List.mem_of_getElem? hx)) ?_
  refine TC.seq (TC.region ?_)
  refine TL.sg ?_
  refine TL.nil (TQ.next (TC.seq (TC.region ?_)))
  refine TL.mv ?_
  refine TL.nc ?_
  refine TL.val rfl rfl rfl (by first | exact Y.fieldAddrJ rfl fo68_9 rfl nqq | exact Y.fieldAddr rfl fo68_9 rfl nqq) ?_
  refine TL.val rfl rfl rfl (Y.load rfl sc64 rfl celD) ?_
  refine TL.as (.slice (some ⟨g, off, none⟩) S.queue.length p.qc) (by (rw [← hqa]; rfl)) ?_
  refine TL.mv ?_
  refine TL.val rfl rfl rfl (by first | exact Y.indexSlB rfl sl64 rfl rfl (by omega) nqq | exact Y.indexSl rfl sl64 rfl rfl (by omega) nqq) ?_
  refine TL.val rfl rfl rfl (by first | exact Y.fieldAddrJ rfl fo82_0 rfl nqq | exact Y.fieldAddr rfl fo82_0 rfl nqq) ?_
  refine TL.val rfl rfl rfl (Y.loadAgg rfl ag51 rfl (Cels.pre (Cels.at (A := SA.owns 82 4 (.slice (some ⟨g, off, none⟩) S.queue.length p.qc) S.queue.length (Dat.cs S.queue)) Reads.owns (by rw [← hqa]; exact inn) hx) (l' := [v16 st, v32 kd, .slice bs.a bs.l.length bs.cap]) ⟨_, rfl⟩) (by first | rfl | ((try simp only [List.length_map, List.length_set, List.length_replicate]); omega))) ?_
  refine TL.as (.agg (msC st kd (.slice bs.a bs.l.length bs.cap))) (by rfl) ?_
  refine TL.eff rfl rfl rfl (X.alloc rfl zc51) ?_
  rintro _ _ ⟨b5, rfl, rfl⟩
  refine TL.eff0 rfl rfl (X.storeAll rfl (by kernel_rfl) (by rfl) rfl rfl (allOne (by rfl)) pul (by rfl)) ?_
  rintro _ _ rfl
  refine TL.nil (TQ.next (TC.seq (TC.region ?_)))
  refine TL.mv ?_
  refine TL.nc ?_
  refine TL.val rfl rfl rfl (by first | exact Y.fieldAddrJ rfl fo68_5 rfl nqq | exact Y.fieldAddr rfl fo68_5 rfl nqq) ?_
  refine TL.val rfl rfl rfl (Y.load rfl sc22 rfl cel32) ?_
  refine TL.as (v32 S.other) (by rfl) ?_
  refine TL.eff rfl rfl rfl (X.cl rfl Try.func44 rfl (h := (ac.packet_fn _ 5 _))) ?_
  rintro _ _ ⟨a19, c19, rfl, rfl⟩
  refine TL.eff rfl rfl rfl (X.alloc rfl zc85) ?_
  rintro _ _ ⟨b6, rfl, rfl⟩
  refine TL.eff0 rfl rfl (by first | exact X.store rfl sz85 rfl rfl rfl pul lnn (by first | exact setM | rfl) | exact X.storeOwn rfl sz85 rfl (Nat.zero_add _).symm rfl rfl pul lnn (by first | exact setML | rfl) | exact X.storeOwn rfl sz85 rfl rfl rfl rfl pul lnn (by first | exact setML | rfl)) ?_
  rintro _ _ rfl
  refine TL.nil ?_
  refine TQ.to (wr.put (b := b6) pul (by rfl) pul (l := pkt S.other 5) rfl rfl Ent.refl) ?_
  refine TQ.next (TC.seq (TC.region ?_))
  refine TL.mv ?_
  refine TL.nc ?_
  refine TL.val rfl rfl rfl (by first | exact Y.fieldAddrJ rfl fo68_8 rfl nqq | exact Y.fieldAddr rfl fo68_8 rfl nqq) ?_
  refine TL.val rfl rfl rfl (Y.load rfl sc22 rfl cel32) ?_
  refine TL.as (v32 S.base) (by rfl) ?_
  refine TL.mv ?_
  refine TL.val rfl rfl rfl (Y.conv rfl Try.underlying3 Try.underlying22 rfl cv_N_32) ?_
  refine TL.val rfl rfl rfl (Y.bin rfl rfl rfl (br_add32)) ?_
  refine TL.eff rfl rfl rfl (X.cl rfl Try.func45 rfl (h := (wr.U32_fn b6 (S.base + UInt32.ofNat i) (pkt S.other 5) (by show 8 ≤ _; decide) _))) ?_
  rintro _ _ ⟨rfl, rfl⟩
  refine TL.nil (TQ.next (TC.seq (TC.region ?_)))
  refine TL.val rfl rfl rfl (by first | exact Y.fieldAddrJ rfl fo51_0 rfl nqq | exact Y.fieldAddr rfl fo51_0 rfl nqq) ?_
  refine TL.val rfl rfl rfl (Y.load rfl sc40 rfl cel16) ?_
  refine TL.as (v16 st) (by rfl) ?_
  refine TL.eff rfl rfl rfl (X.cl rfl Try.func53 rfl (h := (wr.U16_fn b6 st _ (by show 12 ≤ _; decide) _))) ?_
  rintro _ _ ⟨rfl, rfl⟩
  refine TL.nil (TQ.next (TC.seq (TC.region ?_)))
  refine TL.val rfl rfl rfl (by first | exact Y.fieldAddrJ rfl fo51_1 rfl nqq | exact Y.fieldAddr rfl fo51_1 rfl nqq) ?_
  refine TL.val rfl rfl rfl (Y.load rfl sc22 rfl cel32) ?_
  refine TL.as (v32 kd) (by rfl) ?_
  refine TL.eff rfl rfl rfl (X.cl rfl Try.func45 rfl (h := (wr.U32_fn b6 kd _ (by show 14 ≤ _; decide) _))) ?_
  rintro _ _ ⟨rfl, rfl⟩
  refine TL.nil (TQ.next (TC.seq (TC.region ?_)))
  refine TL.val rfl rfl rfl (by first | exact Y.fieldAddrJ rfl fo51_2 rfl nqq | exact Y.fieldAddr rfl fo51_2 rfl nqq) ?_
  refine TL.val rfl rfl rfl (Y.load rfl sc23 rfl celD) ?_
  refine TL.as (.slice bs.a bs.l.length bs.cap) (by rfl) ?_
  refine TL.eff rfl rfl rfl (X.cl rfl Try.func48 rfl (h := (wr.BytesR_fn b6 _ _ _ _ bs.l rfl (by show 18 + _ ≤ _; omega) _))) ?_
  rintro _ _ ⟨rfl, rfl⟩
  rw [show pkt S.other 5 ++ be32 (S.base + UInt32.ofNat i) ++ be16 st ++ be32 kd ++ bs.l = dataB S.other (S.base + UInt32.ofNat i) (st, kd, bs.l) from rfl]
  refine TL.nil (TQ.next (TC.seq ?_))
  refine TC.open pul ?_
  rintro ⟨wa2, wc2⟩
  refine TC.split pul ?_
  refine TC.region ?_
  refine TL.val rfl rfl rfl (Y.load rfl sc85 rfl celD) ?_
  refine TL.sg ?_
  refine TL.nil (TQ.next (TC.ret ?_))
  refine TQ.retE (res1 rfl rfl) (⟨_, _, rfl, rfl⟩) ?_
  exact ett
def initB {μ : Type} (S : AS μ) : List UInt8 := pkt 0 1 ++ be32 S.tag ++ be32 S.first
def AS.started {μ : Type} (S : AS μ) (now : Int) : AS μ := ({ S with clock := max S.clock now, state := 1, shake := initB S } : AS μ).starts
theorem Start_no (b : Nat) (p : AP) (S : AS Msg) (now : Int) (h : S.state ≠ 0) (L : List SA) : Fn Try.prog 23 [pt b 0, vI now] (aB b p S :: L) (fun v L' => v = .tuple #[.slice none 0 0, vN 9] ∧ L' = aB b p S :: L) := by
  refine Fn.of (N := 45) Try.func23 rfl rfl ?_
  intro Xh
  refine TC.seq (TC.region ?_)
  refine TL.sg ?_
  refine TL.sg ?_
  refine TL.nil (TQ.next (TC.seq (TC.seq (TC.region ?_))))
  refine TL.mv ?_
  refine TL.val rfl rfl rfl (by first | exact Y.eqNilP rfl Try.underlying26 rfl rfl | exact Y.eqNil0 rfl Try.underlying26 rfl rfl) ?_
  refine TL.nil (TQ.next ?_)
  refine TC.cond_f rfl ?_
  refine TC.skip (TQ.next (TC.seq (TC.seq (TC.region ?_))))
  refine TL.mv ?_
  refine TL.nc ?_
  refine TL.val rfl rfl rfl (by first | exact Y.fieldAddrJ rfl fo68_3 rfl nqq | exact Y.fieldAddr rfl fo68_3 rfl nqq) ?_
  refine TL.val rfl rfl rfl (Y.load rfl sc3 rfl celN) ?_
  refine TL.as (vN S.state) (by rfl) ?_
  refine TL.val rfl rfl rfl (Y.bin rfl rfl rfl (br_neN (n := 0))) ?_
  refine TL.is true (by simpa using h) ?_
  refine TL.nil (TQ.next ?_)
  refine TC.cond_t rfl ?_
  refine TC.seq (TC.region ?_)
  refine TL.sg ?_
  refine TL.sg ?_
  refine TL.nil (TQ.next (TC.ret (TQ.then_ret ?_)))
  refine TQ.retE (res2 rfl rfl rfl) (⟨rfl, rfl⟩) ?_
  exact ett
set_option maxHeartbeats 1000000 in
theorem Start_yes (b : Nat) (p : AP) (S : AS Msg) (now : Int) (h : S.state = 0) (L : List SA) : Fn Try.prog 23 [pt b 0, vI now] (aB b p S :: L)
    (fun v L' => ∃ a c ha hc, v = .tuple #[.slice a 16 c, vN 0] ∧ L' = SA.owns 5 1 (.slice a 16 c) 16 ((initB S).map v8) :: aB b { p with ha := ha, hc := hc } (S.started now) :: aH { p with ha := ha, hc := hc } (S.started now) :: L) := by
  refine Fn.of (N := 45) Try.func23 rfl rfl ?_
  intro Xh
  refine TC.seq (TC.region ?_)
  refine TL.sg ?_
  refine TL.sg ?_
  refine TL.nil (TQ.next (TC.seq (TC.seq (TC.region ?_))))
  refine TL.mv ?_
  refine TL.val rfl rfl rfl (by first | exact Y.eqNilP rfl Try.underlying26 rfl rfl | exact Y.eqNil0 rfl Try.underlying26 rfl rfl) ?_
  refine TL.nil (TQ.next ?_)
  refine TC.cond_f rfl ?_
  refine TC.skip (TQ.next (TC.seq (TC.seq (TC.region ?_))))
  refine TL.mv ?_
  refine TL.nc ?_
  refine TL.val rfl rfl rfl (by first | exact Y.fieldAddrJ rfl fo68_3 rfl nqq | exact Y.fieldAddr rfl fo68_3 rfl nqq) ?_
  refine TL.val rfl rfl rfl (Y.load rfl sc3 rfl celN) ?_
  refine TL.as (vN S.state) (by rfl) ?_
  refine TL.val rfl rfl rfl (Y.bin rfl rfl rfl (br_neN (n := 0))) ?_
  refine TL.is false (by simpa using h) ?_
  refine TL.nil (TQ.next ?_)
  refine TC.cond_f rfl ?_
  refine TC.skip (TQ.next (TC.seq (TC.region ?_)))
  refine TL.mv ?_
  refine TL.mv ?_
  refine TL.nc ?_
  refine TL.val rfl rfl rfl (by first | exact Y.fieldAddrJ rfl fo68_11 rfl nqq | exact Y.fieldAddr rfl fo68_11 rfl nqq) ?_
  refine TL.val rfl rfl rfl (Y.load rfl sc2 rfl celN) ?_
  refine TL.as (vI S.clock) (by rfl) ?_
  refine TL.mv ?_
  refine TL.val rfl rfl rfl (Y.maxI rfl rfl rfl) ?_
  refine TL.nc ?_
  refine TL.val rfl rfl rfl (by first | exact Y.fieldAddrJ rfl fo68_11 rfl nqq | exact Y.fieldAddr rfl fo68_11 rfl nqq) ?_
  refine TL.eff0 rfl rfl (X.store (cs' := asC p { S with clock := max S.clock now }) rfl (by kernel_rfl) rfl rfl rfl pul (by show 11 < 17; decide) rfl) ?_
  rintro _ _ rfl
  refine TL.nil (TQ.next (TC.seq (TC.region ?_)))
  refine TL.eff rfl rfl rfl (X.cl rfl Try.func44 rfl (h := (packet_fn 0 1 _))) ?_
  rintro _ _ ⟨a23, c23, rfl, rfl⟩
  refine TL.eff rfl rfl rfl (X.alloc rfl zc85) ?_
  rintro _ _ ⟨b6, rfl, rfl⟩
  refine TL.eff0 rfl rfl (by first | exact X.store rfl sz85 rfl rfl rfl pul lnn (by first | exact setM | rfl) | exact X.storeOwn rfl sz85 rfl (Nat.zero_add _).symm rfl rfl pul lnn (by first | exact setML | rfl) | exact X.storeOwn rfl sz85 rfl rfl rfl rfl pul lnn (by first | exact setML | rfl)) ?_
  rintro _ _ rfl
  refine TL.nil ?_
  refine TQ.to (wr.put (b := b6) pul (by rfl) pul (l := pkt 0 1) rfl rfl Ent.refl) ?_
  refine TQ.next (TC.seq (TC.region ?_))
  refine TL.mv ?_
  refine TL.nc ?_
  refine TL.val rfl rfl rfl (by first | exact Y.fieldAddrJ rfl fo68_0 rfl nqq | exact Y.fieldAddr rfl fo68_0 rfl nqq) ?_
  refine TL.val rfl rfl rfl (Y.load rfl sc22 rfl cel32) ?_
  refine TL.as (v32 S.tag) (by rfl) ?_
  refine TL.eff rfl rfl rfl (X.cl rfl Try.func45 rfl (h := (wr.U32_fn b6 S.tag (pkt 0 1) (by decide) _))) ?_
  rintro _ _ ⟨rfl, rfl⟩
  refine TL.nil (TQ.next (TC.seq (TC.region ?_)))
  refine TL.mv ?_
  refine TL.nc ?_
  refine TL.val rfl rfl rfl (by first | exact Y.fieldAddrJ rfl fo68_1 rfl nqq | exact Y.fieldAddr rfl fo68_1 rfl nqq) ?_
  refine TL.val rfl rfl rfl (Y.load rfl sc22 rfl cel32) ?_
  refine TL.as (v32 S.first) (by rfl) ?_
  refine TL.eff rfl rfl rfl (X.cl rfl Try.func45 rfl (h := (wr.U32_fn b6 S.first _ (by show 12 ≤ _; decide) _))) ?_
  rintro _ _ ⟨rfl, rfl⟩
  rw [show pkt 0 1 ++ be32 S.tag ++ be32 S.first = initB S from rfl]
  refine TL.nil (TQ.next (TC.seq ?_))
  refine TC.open pul ?_
  rintro ⟨wa, wc⟩
  refine TC.split pul ?_
  refine TC.to ((Pull.ent (A := SA.owns 5 1 (.slice wa (initB S).length wc) (initB S).length ((initB S).map v8)) pul).trans Ent.freeze) ?_
  refine TC.region ?_
  refine TL.mv ?_
  refine TL.mv ?_
  refine TL.val rfl rfl rfl (Y.load rfl sc85 rfl celD) ?_
  refine TL.nc ?_
  refine TL.val rfl rfl rfl (by first | exact Y.fieldAddrJ rfl fo68_3 rfl nqq | exact Y.fieldAddr rfl fo68_3 rfl nqq) ?_
  refine TL.eff0 rfl rfl (X.store (cs' := asC p { S with clock := max S.clock now, state := 1 }) rfl (by kernel_rfl) rfl rfl rfl pul (by show 3 < 17; decide) rfl) ?_
  rintro _ _ rfl
  refine TL.nc ?_
  refine TL.val rfl rfl rfl (by first | exact Y.fieldAddrJ rfl fo68_13 rfl nqq | exact Y.fieldAddr rfl fo68_13 rfl nqq) ?_
  refine TL.eff0 rfl rfl (X.store (cs' := asC { p with ha := wa, hc := wc } { S with clock := max S.clock now, state := 1, shake := initB S }) rfl (by kernel_rfl) rfl rfl rfl pul (by show 16 < 17; decide) rfl) ?_
  rintro _ _ rfl
  refine TL.nil (TQ.next (TC.seq (TC.region ?_)))
  refine TL.mv ?_
  refine TL.eff rfl rfl rfl (X.cl rfl Try.func46 rfl (h := (start_fn b { p with ha := wa, hc := wc } { S with clock := max S.clock now, state := 1, shake := initB S } _))) ?_
  rintro _ _ ⟨rfl, rfl⟩
  refine TL.nil (TQ.next (TC.seq (TC.region ?_)))
  refine TL.val rfl rfl rfl (Y.load rfl sc85 rfl celD) ?_
  refine TL.eff rfl rfl rfl (X.cl rfl Try.func25 rfl (h := (rd.Clone_fn _ _ _ (initB S) rfl (by show 16 ≤ _; decide) _))) ?_
  rintro _ _ ⟨a44, c44, rfl, rfl⟩
  refine TL.sg ?_
  refine TL.sg ?_
  refine TL.nil (TQ.next (TC.ret ?_))
  refine TQ.retE (res2 rfl rfl rfl) (⟨_, _, wa, wc, rfl, rfl⟩) ?_
  exact ett
end ac
end Go.Proofs.Ytomplpdeeomehaa


/- assoc: what a side does, as plain data. -/
namespace Go.Proofs.Ytomplpdeeomehaa
set_option linter.unusedVariables false
set_option linter.unusedSimpArgs false
open Go.RowKit
namespace ac
open wr (be16 be32)
open rd (num)
abbrev PS := AS PM
def abs (S : AS Msg) : PS := { tag := S.tag, first := S.first, secret := S.secret, state := S.state, known := S.known, other := S.other, top := S.top, kept := fun k => (S.kept k).map pm, base := S.base, queue := S.queue.map fun x => (pm x.1, x.2), sent := S.sent, clock := S.clock, tset := S.tset, moment := S.moment, delay := S.delay, fires := S.fires, shake := S.shake }
def n32 (b : List UInt8) (at_ : Nat) : UInt32 := num ((b.drop at_).take 4)
def fitsB (k : UInt8) (n : Nat) : Bool :=
  if k = 1 then decide (n = 8) else if k = 2 then decide (n = 44) else if k = 3 then decide (n = 36) else if k = 4 ∨ k = 7 then decide (n = 0)
  else if k = 5 then decide (10 ≤ n ∧ n ≤ 1034) else if k = 6 then decide (4 ≤ n ∧ n % 4 = 0 ∧ n ≤ 68) else false
section
variable {μ : Type} (S : AS μ)
def AS.clocked (now : Int) : AS μ := { S with clock := max S.clock now }
def AS.initAckB (tag tsn : UInt32) : List UInt8 := pkt tag 2 ++ be32 S.tag ++ be32 S.first ++ cookieB S tag tsn
def echoB (other : UInt32) (c : List UInt8) : List UInt8 := pkt other 3 ++ c
def AS.echo (tag tsn : UInt32) (c : List UInt8) : AS μ := ({ S with known := true, other := tag, top := tsn - 1, state := 2, shake := echoB tag c } : AS μ).starts
def AS.opened (tag tsn : UInt32) : AS μ := { S with state := 3, known := true, other := tag, top := tsn - 1 }
def AS.keep (t : UInt32) (m : μ) : AS μ := if (S.kept t).isNone = true ∧ t - S.top - 1 < 32 then { S with kept := mput S.kept t m } else S
def AS.step1 : AS μ := { S with top := S.top + 1, kept := mdel S.kept (S.top + 1) }
def AS.deliver : Nat → AS μ → List μ × AS μ
  | 0, S => ([], S)
  | f + 1, S => match S.kept (S.top + 1) with
    | none => ([], S)
    | some m => (m :: (AS.deliver f S.step1).1, (AS.deliver f S.step1).2)
def AS.recv (t : UInt32) (m : μ) : List μ × AS μ := AS.deliver 33 (S.keep t m)
def AS.beyond : List UInt32 := ((List.range 32).map fun d => S.top + 1 + UInt32.ofNat d).filter fun t => (S.kept t).isSome
def AS.sackB : List UInt8 := pkt S.other 6 ++ be32 S.top ++ (S.beyond.take 16).flatMap be32
def AS.Win (w : Nat) : Prop := ∀ k, (S.kept k).isSome = true → (k - S.top - 1).toNat < w
def AS.left (cum : UInt32) : Bool := decide (1 ≤ cum - S.base + 1 ∧ cum - S.base + 1 ≤ UInt32.ofNat S.sent)
def AS.cutQ (n : UInt32) : AS μ := { S with queue := S.queue.drop n.toNat, base := S.base + n, sent := S.sent - n.toNat }
def AS.drop1 (cum : UInt32) : AS μ := if S.left cum then S.cutQ (cum - S.base + 1) else S
def AS.mark (t : UInt32) : AS μ := if t - S.base < UInt32.ofNat S.sent then { S with queue := S.queue.modify (t - S.base).toNat fun x => (x.1, true) } else S
def AS.ack1 (cum : UInt32) (gaps : List UInt32) : AS μ :=
  if S.left cum then { (gaps.foldl AS.mark (S.drop1 cum)).starts with tset := decide (0 < (gaps.foldl AS.mark (S.drop1 cum)).sent) } else gaps.foldl AS.mark (S.drop1 cum)
def AS.win : List Nat := List.range' S.sent (min S.queue.length 16 - S.sent)
def AS.more : AS μ := if S.win ≠ [] ∧ S.tset = false then ({ S with sent := max S.sent (min S.queue.length 16) } : AS μ).starts else { S with sent := max S.sent (min S.queue.length 16) }
def AS.taken (m : μ) (now : Int) : AS μ := { S with clock := max S.clock now, queue := S.queue ++ [(m, false)] }
end
def words : List UInt8 → List UInt32
  | a :: b :: c :: d :: r => num [a, b, c, d] :: words r
  | _ => []
def pdef : PM := (0, 0, [])
def AS.dataAt (S : PS) (i : Nat) : List UInt8 := dataB S.other (S.base + UInt32.ofNat i) ((S.queue[i]?.map (·.1)).getD pdef)
def AS.moreOut (S : PS) : List (List UInt8) := S.win.map S.dataAt
def AS.handle (S0 : PS) (now : Int) (b : List UInt8) : PS × List (List UInt8) × List PM × Nat :=
  let S := S0.clocked now
  let kw := n32 b 4
  let k := shr32 kw 24
  if b.length < 8 ∨ kw &&& 16777215 ≠ 0 ∨ fitsB k.toUInt8 (b.length - 8) = false ∨ (decide (n32 b 0 = 0) ≠ decide (k = 1)) then (S, [], [], 2)
  else if k ≤ 2 ∧ n32 b 8 = 0 then (S, [], [], 2)
  else if k = 1 then (if S.state ≠ 0 ∧ S.state ≠ 3 then (S, [], [], 9) else (S, [S.initAckB (n32 b 8) (n32 b 12)], [], 0))
  else if n32 b 0 ≠ S.tag then (S, [], [], 4)
  else if k = 2 then (if S.state ≠ 1 then (S, [], [], 9) else (S.echo (n32 b 8) (n32 b 12) (b.drop 16), [echoB (n32 b 8) (b.drop 16)], [], 0))
  else if k = 3 then (
    if b.drop 8 ≠ cookieB S (n32 b 8) (n32 b 12) then (S, [], [], 4)
    else if S.state = 0 then (S.opened (n32 b 8) (n32 b 12), [pkt (n32 b 8) 4], [], 0)
    else if S.state ≠ 3 ∨ S.other ≠ n32 b 8 then (S, [], [], 9)
    else (S, [pkt S.other 4], [], 0))
  else if k = 4 then (if S.state = 2 then ({ S with state := 3, tset := false }, [], [], 0) else if S.state = 3 then (S, [], [], 0) else (S, [], [], 9))
  else if k = 7 then ({ S with state := 4, tset := false }, [], [], 0)
  else if S.state ≠ 3 then (S, [], [], 9)
  else if k = 5 then (
    let r := S.recv (n32 b 8) ((num ((b.drop 12).take 2)).toUInt16, n32 b 14, b.drop 18)
    (r.2, [r.2.sackB], r.1, 0))
  else (
    let S2 := S.ack1 (n32 b 8) (words (b.drop 12))
    (S2.more, S2.moreOut, [], 0))
structure Inv {μ : Type} (S : AS μ) : Prop where
  sent : S.sent ≤ S.queue.length
  s16 : S.sent ≤ 16
  q32 : S.queue.length ≤ 32
  near : S.Win 32
  none : S.state < 3 → ∀ k, S.kept k = none
  secret : S.secret.length ≤ 140737488351232
  shake : S.shake.length ≤ 1000
  fires : S.fires ≤ 8
  delay : 0 ≤ S.delay ∧ S.delay ≤ 8000
structure Short (S : AS Msg) : Prop where
  queue : ∀ x ∈ S.queue, x.1.2.2.l.length ≤ 1024
end ac
end Go.Proofs.Ytomplpdeeomehaa


/- assoc: the handshake's packets and receive, walked. -/
namespace Go.Proofs.Ytomplpdeeomehaa
set_option linter.unusedVariables false
set_option linter.unusedSimpArgs false
open Go.RowKit
namespace ac
open wr (be16 be32)
open rd (num rdB rdL rdV)
namespace FxAsE
set_option maxRecDepth 100000
theorem fo68_6 : Program.fieldOff Try.prog 68 6 = some 6 := by kernel_rfl
end FxAsE
open Go.Proofs.Ytomplpdeeomehaa.sha.FxShaMac Go.Proofs.Ytomplpdeeomehaa.ac.FxAsB Go.Proofs.Ytomplpdeeomehaa.ac.FxAsC Go.Proofs.Ytomplpdeeomehaa.ac.FxAsA Go.Proofs.Ytomplpdeeomehaa.sha.FxShaBlock Go.Proofs.Ytomplpdeeomehaa.wr.FxWireW FxAsE
theorem Ent.nilD {α : Type} [Dat α] {L : List SA} : Ent L (SA.dat (⟨none, 0, []⟩ : Sl α) :: L) := Ent.trans (Ent.nilOwn 0 (Dat.sz α)) (Ent.trans (Ent.under _ Ent.rdss0) (Ent.mkOwn (l := ([] : List α)) (cells := []) Pull.here Pull.here rfl rfl (by rw [Dat.cs_eq]; rfl)))
theorem Ent.one1 {e e' n g cap : Nat} {a : Option Addr} {l : List UInt8} {L L1 L2 : List SA} (h1 : Pull (SA.owns e 1 (.slice a n cap) n (l.map v8)) L L1) (h2 : Pull (SA.owns e' 1 (.slice (some ⟨g, 0, none⟩) 1 1) 1 [.slice a n cap]) L1 L2) (hn : l.length = n) : Ent L (SA.dat (⟨some ⟨g, 0, none⟩, 1, [⟨a, cap, l⟩]⟩ : Sl Bs) :: L2) := by
  subst hn
  exact Ent.trans Ent.bsNil (Ent.trans (Ent.bsPull (xs := []) (a := a) (cap := cap) (l := l) Pull.here h1 rfl rfl) (Ent.mkJoin (xs := [⟨a, cap, l⟩]) Pull.here h2 rfl rfl))
theorem u32_ok (b : Nat) (l : List UInt8) (h : 4 ≤ l.length) (L : List SA) : Fn Try.prog 27 [pt b 0] (rd.R b l false :: L) (fun v L' => v = v32 (num (l.take 4)) ∧ L' = rd.R b (l.drop 4) false :: L) := by
  have hb : rdB 4 l false = false := by simp [rdB]; omega
  refine (rd.U32_fn b l false L).mono ?_
  rintro v L' ⟨rfl, rfl⟩
  exact ⟨_, Ent.refl, by rw [rdV, hb]; rfl, by rw [rdL, hb]; rfl⟩
theorem u16_ok (b : Nat) (l : List UInt8) (h : 2 ≤ l.length) (L : List SA) : Fn Try.prog 34 [pt b 0] (rd.R b l false :: L) (fun v L' => v = v16 (num (l.take 2)).toUInt16 ∧ L' = rd.R b (l.drop 2) false :: L) := by
  have hb : rdB 2 l false = false := by simp [rdB]; omega
  refine (rd.U16_fn b l false L).mono ?_
  rintro v L' ⟨rfl, rfl⟩
  exact ⟨_, Ent.refl, by rw [rdV, hb]; rfl, by rw [rdL, hb]; rfl⟩
theorem take_ok (b k : Nat) (l : List UInt8) (h : k ≤ l.length) (hl : l.length ≤ 140737488351232) (L : List SA) : Fn Try.prog 35 [pt b 0, vN k] (rd.R b l false :: L) (fun v L' => ∃ a c, v = .slice a k c ∧ L' = SA.owns 5 1 (.slice a k c) k ((l.take k).map v8) :: rd.R b (l.drop k) false :: L) := by
  have hb : rdB k l false = false := by simp [rdB]; omega
  have hk : (l.take k).length = k := by rw [List.length_take]; omega
  refine (rd.Take_fn b k l false (by omega) hl L).mono ?_
  rintro v L' ⟨a, c, rfl, rfl⟩
  rw [rdL, rdV, hb]
  simp only [Bool.false_eq_true, if_false, hk]
  exact ⟨_, Ent.refl, a, c, rfl, rfl⟩
--REG rostrum/assoc.fits : _ _ ⟨rfl, rfl⟩ => (ac.fits_fn _ _ (by omega) _)
theorem fits_fn (k : UInt8) (n : Nat) (hn : n < 9223372036854775808) (L : List SA) : Fn Try.prog 29 [v8 k, vN n] L (fun v L' => v = .bool (fitsB k n) ∧ L' = L) := by
  refine Fn.of (N := 44) Try.func29 rfl rfl ?_
  intro Xh
  refine TC.seq (TC.region ?_)
  refine TL.sg ?_
  refine TL.nil (TQ.next (TC.seq (TC.seq (TC.region ?_))))
  refine TL.mv ?_
  refine TL.nil (TQ.next (TC.block (TC.seq (TC.region ?_))))
  refine TL.val rfl rfl rfl (Y.bin rfl rfl rfl (br_eq8 (y := 1))) ?_
  refine TL.sg ?_
  refine TL.nil (TQ.next ?_)
  refine TC.cond rfl (fun c0 => ?_) (fun c0 => ?_)
  · try simp only [zA, zB, zC, zD, zE, zF, zG, zH, zI, zJ] at c0
    refine TC.seq (TC.region ?_)
    refine TL.mv ?_
    refine TL.val rfl rfl rfl (Y.bin rfl rfl rfl (br_eqN (n := 8))) ?_
    refine TL.sg ?_
    refine TL.nil (TQ.next (TC.ret (TQ.block_ret (TQ.then_ret ?_))))
    refine TQ.retE (res1 rfl rfl) (⟨by unfold fitsB; simp_all <;> (first | done | omega), rfl⟩) ?_
    exact ett
  · try simp only [zA, zB, zC, zD, zE, zF, zG, zH, zI, zJ] at c0
    refine TC.seq (TC.region ?_)
    refine TL.val rfl rfl rfl (Y.bin rfl rfl rfl (br_eq8 (y := 2))) ?_
    refine TL.sg ?_
    refine TL.nil (TQ.next ?_)
    refine TC.cond rfl (fun c1 => ?_) (fun c1 => ?_)
    · try simp only [zA, zB, zC, zD, zE, zF, zG, zH, zI, zJ] at c1
      refine TC.seq (TC.region ?_)
      refine TL.mv ?_
      refine TL.val rfl rfl rfl (Y.bin rfl rfl rfl (br_eqN (n := 44))) ?_
      refine TL.sg ?_
      refine TL.nil (TQ.next (TC.ret (TQ.block_ret (TQ.then_ret ?_))))
      refine TQ.retE (res1 rfl rfl) (⟨by unfold fitsB; simp_all <;> (first | done | omega), rfl⟩) ?_
      exact ett
    · try simp only [zA, zB, zC, zD, zE, zF, zG, zH, zI, zJ] at c1
      refine TC.seq (TC.region ?_)
      refine TL.val rfl rfl rfl (Y.bin rfl rfl rfl (br_eq8 (y := 3))) ?_
      refine TL.sg ?_
      refine TL.nil (TQ.next ?_)
      refine TC.cond rfl (fun c2 => ?_) (fun c2 => ?_)
      · try simp only [zA, zB, zC, zD, zE, zF, zG, zH, zI, zJ] at c2
        refine TC.seq (TC.region ?_)
        refine TL.mv ?_
        refine TL.val rfl rfl rfl (Y.bin rfl rfl rfl (br_eqN (n := 36))) ?_
        refine TL.sg ?_
        refine TL.nil (TQ.next (TC.ret (TQ.block_ret (TQ.then_ret ?_))))
        refine TQ.retE (res1 rfl rfl) (⟨by unfold fitsB; simp_all <;> (first | done | omega), rfl⟩) ?_
        exact ett
      · try simp only [zA, zB, zC, zD, zE, zF, zG, zH, zI, zJ] at c2
        refine TC.seq (TC.seq (TC.region ?_))
        refine TL.val rfl rfl rfl (Y.bin rfl rfl rfl (br_eq8 (y := 4))) ?_
        refine TL.sg ?_
        refine TL.nil (TQ.next ?_)
        refine TC.cond rfl (fun c3 => ?_) (fun c3 => ?_)
        · try simp only [zA, zB, zC, zD, zE, zF, zG, zH, zI, zJ] at c3
          refine TC.skip (TQ.next ?_)
          refine TC.cond rfl (fun c4 => ?_) (fun c4 => ?_)
          · try simp only [zA, zB, zC, zD, zE, zF, zG, zH, zI, zJ] at c4
            refine TC.seq (TC.region ?_)
            refine TL.mv ?_
            refine TL.val rfl rfl rfl (Y.bin rfl rfl rfl (br_eqN (n := 0))) ?_
            refine TL.sg ?_
            refine TL.nil (TQ.next (TC.ret (TQ.block_ret (TQ.then_ret ?_))))
            refine TQ.retE (res1 rfl rfl) (⟨by unfold fitsB; simp_all <;> (first | done | omega), rfl⟩) ?_
            exact ett
          · try simp only [zA, zB, zC, zD, zE, zF, zG, zH, zI, zJ] at c4
            refine TC.seq (TC.region ?_)
            refine TL.val rfl rfl rfl (Y.bin rfl rfl rfl (br_eq8 (y := 5))) ?_
            refine TL.sg ?_
            refine TL.nil (TQ.next ?_)
            refine TC.cond rfl (fun c5 => ?_) (fun c5 => ?_)
            · try simp only [zA, zB, zC, zD, zE, zF, zG, zH, zI, zJ] at c5
              refine TC.seq (TC.region ?_)
              refine TL.mv ?_
              refine TL.val rfl rfl rfl (Y.bin rfl rfl rfl (br_geN (n := 10))) ?_
              refine TL.mv ?_
              refine TL.case (fun g12_2 => ?_) (fun g12_2 => ?_)
              · try simp only [zA, zB, zC, zD, zG, zH, zI, zJ] at g12_2
                refine TL.mg ?_
                refine TL.valG rfl rfl rfl (Y.bin rfl rfl rfl (br_leN (n := 1034))) ?_
                refine TL.val rfl rfl rfl (Y.pick_t rfl rfl rfl) ?_
                refine TL.sg ?_
                refine TL.nil (TQ.next (TC.ret (TQ.block_ret (TQ.then_ret ?_))))
                refine TQ.retE (res1 rfl rfl) (⟨by unfold fitsB; simp_all <;> (first | done | omega), rfl⟩) ?_
                exact ett
              · try simp only [zA, zB, zC, zD, zG, zH, zI, zJ] at g12_2
                refine TL.not rfl rfl rfl ?_
                refine TL.not rfl rfl rfl ?_
                refine TL.val rfl rfl rfl (Y.pick_f rfl rfl rfl) ?_
                refine TL.sg ?_
                refine TL.nil (TQ.next (TC.ret (TQ.block_ret (TQ.then_ret ?_))))
                refine TQ.retE (res1 rfl rfl) (⟨by unfold fitsB; simp_all <;> (first | done | omega), rfl⟩) ?_
                exact ett
            · try simp only [zA, zB, zC, zD, zE, zF, zG, zH, zI, zJ] at c5
              refine TC.seq (TC.region ?_)
              refine TL.val rfl rfl rfl (Y.bin rfl rfl rfl (br_eq8 (y := 6))) ?_
              refine TL.sg ?_
              refine TL.nil (TQ.next ?_)
              refine TC.cond rfl (fun c6 => ?_) (fun c6 => ?_)
              · try simp only [zA, zB, zC, zD, zE, zF, zG, zH, zI, zJ] at c6
                refine TC.seq (TC.region ?_)
                refine TL.mv ?_
                refine TL.val rfl rfl rfl (Y.bin rfl rfl rfl (br_geN (n := 4))) ?_
                refine TL.mv ?_
                refine TL.case (fun g14_2 => ?_) (fun g14_2 => ?_)
                · try simp only [zA, zB, zC, zD, zG, zH, zI, zJ] at g14_2
                  refine TL.mg ?_
                  refine TL.valG rfl rfl rfl (Y.bin rfl rfl rfl (br_remN (n := 4) (by omega))) ?_
                  refine TL.valG rfl rfl rfl (Y.bin rfl rfl rfl (br_eqN (n := 0))) ?_
                  refine TL.val rfl rfl rfl (Y.pick_t rfl rfl rfl) ?_
                  refine TL.mv ?_
                  refine TL.case (fun g14_7 => ?_) (fun g14_7 => ?_)
                  · try simp only [zA, zB, zC, zD, zG, zH, zI, zJ] at g14_7
                    refine TL.mg ?_
                    refine TL.valG rfl rfl rfl (Y.bin rfl rfl rfl (br_leN (n := 68))) ?_
                    refine TL.val rfl rfl rfl (Y.pick_t rfl rfl rfl) ?_
                    refine TL.sg ?_
                    refine TL.nil (TQ.next (TC.ret (TQ.block_ret (TQ.then_ret ?_))))
                    refine TQ.retE (res1 rfl rfl) (⟨by unfold fitsB; simp_all <;> (first | done | omega), rfl⟩) ?_
                    exact ett
                  · try simp only [zA, zB, zC, zD, zG, zH, zI, zJ] at g14_7
                    refine TL.not rfl rfl rfl ?_
                    refine TL.not rfl rfl rfl ?_
                    refine TL.val rfl rfl rfl (Y.pick_f rfl rfl rfl) ?_
                    refine TL.sg ?_
                    refine TL.nil (TQ.next (TC.ret (TQ.block_ret (TQ.then_ret ?_))))
                    refine TQ.retE (res1 rfl rfl) (⟨by unfold fitsB; simp_all <;> (first | done | omega), rfl⟩) ?_
                    exact ett
                · try simp only [zA, zB, zC, zD, zG, zH, zI, zJ] at g14_2
                  refine TL.not rfl rfl rfl ?_
                  refine TL.not rfl rfl rfl ?_
                  refine TL.not rfl rfl rfl ?_
                  refine TL.val rfl rfl rfl (Y.pick_f rfl rfl rfl) ?_
                  refine TL.mv ?_
                  refine TL.not rfl rfl rfl ?_
                  refine TL.not rfl rfl rfl ?_
                  refine TL.val rfl rfl rfl (Y.pick_f rfl rfl rfl) ?_
                  refine TL.sg ?_
                  refine TL.nil (TQ.next (TC.ret (TQ.block_ret (TQ.then_ret ?_))))
                  refine TQ.retE (res1 rfl rfl) (⟨by unfold fitsB; simp_all <;> (first | done | omega), rfl⟩) ?_
                  exact ett
              · try simp only [zA, zB, zC, zD, zE, zF, zG, zH, zI, zJ] at c6
                refine TC.skip (TQ.block_normal (TQ.next (TC.seq (TC.region ?_))))
                refine TL.sg ?_
                refine TL.nil (TQ.next (TC.ret ?_))
                refine TQ.retE (res1 rfl rfl) (⟨by unfold fitsB; simp_all <;> (first | done | omega), rfl⟩) ?_
                exact ett
        · try simp only [zA, zB, zC, zD, zE, zF, zG, zH, zI, zJ] at c3
          refine TC.region ?_
          refine TL.val rfl rfl rfl (Y.bin rfl rfl rfl (br_eq8 (y := 7))) ?_
          refine TL.sg ?_
          refine TL.nil (TQ.next ?_)
          refine TC.cond rfl (fun c4 => ?_) (fun c4 => ?_)
          · try simp only [zA, zB, zC, zD, zE, zF, zG, zH, zI, zJ] at c4
            refine TC.seq (TC.region ?_)
            refine TL.mv ?_
            refine TL.val rfl rfl rfl (Y.bin rfl rfl rfl (br_eqN (n := 0))) ?_
            refine TL.sg ?_
            refine TL.nil (TQ.next (TC.ret (TQ.block_ret (TQ.then_ret ?_))))
            refine TQ.retE (res1 rfl rfl) (⟨by unfold fitsB; simp_all <;> (first | done | omega), rfl⟩) ?_
            exact ett
          · try simp only [zA, zB, zC, zD, zE, zF, zG, zH, zI, zJ] at c4
            refine TC.seq (TC.region ?_)
            refine TL.val rfl rfl rfl (Y.bin rfl rfl rfl (br_eq8 (y := 5))) ?_
            refine TL.sg ?_
            refine TL.nil (TQ.next ?_)
            refine TC.cond rfl (fun c5 => ?_) (fun c5 => ?_)
            · try simp only [zA, zB, zC, zD, zE, zF, zG, zH, zI, zJ] at c5
              refine TC.seq (TC.region ?_)
              refine TL.mv ?_
              refine TL.val rfl rfl rfl (Y.bin rfl rfl rfl (br_geN (n := 10))) ?_
              refine TL.mv ?_
              refine TL.case (fun g12_2 => ?_) (fun g12_2 => ?_)
              · try simp only [zA, zB, zC, zD, zG, zH, zI, zJ] at g12_2
                refine TL.mg ?_
                refine TL.valG rfl rfl rfl (Y.bin rfl rfl rfl (br_leN (n := 1034))) ?_
                refine TL.val rfl rfl rfl (Y.pick_t rfl rfl rfl) ?_
                refine TL.sg ?_
                refine TL.nil (TQ.next (TC.ret (TQ.block_ret (TQ.then_ret ?_))))
                refine TQ.retE (res1 rfl rfl) (⟨by unfold fitsB; simp_all <;> (first | done | omega), rfl⟩) ?_
                exact ett
              · try simp only [zA, zB, zC, zD, zG, zH, zI, zJ] at g12_2
                refine TL.not rfl rfl rfl ?_
                refine TL.not rfl rfl rfl ?_
                refine TL.val rfl rfl rfl (Y.pick_f rfl rfl rfl) ?_
                refine TL.sg ?_
                refine TL.nil (TQ.next (TC.ret (TQ.block_ret (TQ.then_ret ?_))))
                refine TQ.retE (res1 rfl rfl) (⟨by unfold fitsB; simp_all <;> (first | done | omega), rfl⟩) ?_
                exact ett
            · try simp only [zA, zB, zC, zD, zE, zF, zG, zH, zI, zJ] at c5
              refine TC.seq (TC.region ?_)
              refine TL.val rfl rfl rfl (Y.bin rfl rfl rfl (br_eq8 (y := 6))) ?_
              refine TL.sg ?_
              refine TL.nil (TQ.next ?_)
              refine TC.cond rfl (fun c6 => ?_) (fun c6 => ?_)
              · try simp only [zA, zB, zC, zD, zE, zF, zG, zH, zI, zJ] at c6
                refine TC.seq (TC.region ?_)
                refine TL.mv ?_
                refine TL.val rfl rfl rfl (Y.bin rfl rfl rfl (br_geN (n := 4))) ?_
                refine TL.mv ?_
                refine TL.case (fun g14_2 => ?_) (fun g14_2 => ?_)
                · try simp only [zA, zB, zC, zD, zG, zH, zI, zJ] at g14_2
                  refine TL.mg ?_
                  refine TL.valG rfl rfl rfl (Y.bin rfl rfl rfl (br_remN (n := 4) (by omega))) ?_
                  refine TL.valG rfl rfl rfl (Y.bin rfl rfl rfl (br_eqN (n := 0))) ?_
                  refine TL.val rfl rfl rfl (Y.pick_t rfl rfl rfl) ?_
                  refine TL.mv ?_
                  refine TL.case (fun g14_7 => ?_) (fun g14_7 => ?_)
                  · try simp only [zA, zB, zC, zD, zG, zH, zI, zJ] at g14_7
                    refine TL.mg ?_
                    refine TL.valG rfl rfl rfl (Y.bin rfl rfl rfl (br_leN (n := 68))) ?_
                    refine TL.val rfl rfl rfl (Y.pick_t rfl rfl rfl) ?_
                    refine TL.sg ?_
                    refine TL.nil (TQ.next (TC.ret (TQ.block_ret (TQ.then_ret ?_))))
                    refine TQ.retE (res1 rfl rfl) (⟨by unfold fitsB; simp_all <;> (first | done | omega), rfl⟩) ?_
                    exact ett
                  · try simp only [zA, zB, zC, zD, zG, zH, zI, zJ] at g14_7
                    refine TL.not rfl rfl rfl ?_
                    refine TL.not rfl rfl rfl ?_
                    refine TL.val rfl rfl rfl (Y.pick_f rfl rfl rfl) ?_
                    refine TL.sg ?_
                    refine TL.nil (TQ.next (TC.ret (TQ.block_ret (TQ.then_ret ?_))))
                    refine TQ.retE (res1 rfl rfl) (⟨by unfold fitsB; simp_all <;> (first | done | omega), rfl⟩) ?_
                    exact ett
                · try simp only [zA, zB, zC, zD, zG, zH, zI, zJ] at g14_2
                  refine TL.not rfl rfl rfl ?_
                  refine TL.not rfl rfl rfl ?_
                  refine TL.not rfl rfl rfl ?_
                  refine TL.val rfl rfl rfl (Y.pick_f rfl rfl rfl) ?_
                  refine TL.mv ?_
                  refine TL.not rfl rfl rfl ?_
                  refine TL.not rfl rfl rfl ?_
                  refine TL.val rfl rfl rfl (Y.pick_f rfl rfl rfl) ?_
                  refine TL.sg ?_
                  refine TL.nil (TQ.next (TC.ret (TQ.block_ret (TQ.then_ret ?_))))
                  refine TQ.retE (res1 rfl rfl) (⟨by unfold fitsB; simp_all <;> (first | done | omega), rfl⟩) ?_
                  exact ett
              · try simp only [zA, zB, zC, zD, zE, zF, zG, zH, zI, zJ] at c6
                refine TC.skip (TQ.block_normal (TQ.next (TC.seq (TC.region ?_))))
                refine TL.sg ?_
                refine TL.nil (TQ.next (TC.ret ?_))
                refine TQ.retE (res1 rfl rfl) (⟨by unfold fitsB; simp_all <;> (first | done | omega), rfl⟩) ?_
                exact ett
section
variable (b : Nat) (p : AP) (S : AS Msg)
theorem initial_no (rb : Nat) (l : List UInt8) (hl : l.length = 8) (h0 : S.state ≠ 0) (h3 : S.state ≠ 3) (L : List SA) :
    Fn Try.prog 31 [pt b 0, pt rb 0] (rd.R rb l false :: aB b p S :: L) (fun v L' => v = .tuple #[.slice none 0 0, .slice none 0 0, vN 9] ∧ L' = aB b p S :: L) := by
  refine Fn.of (N := 45) Try.func31 rfl rfl ?_
  intro Xh
  refine TC.seq (TC.region ?_)
  refine TL.sg ?_
  refine TL.sg ?_
  refine TL.sg ?_
  refine TL.nil (TQ.next (TC.seq (TC.region ?_)))
  refine TL.mv ?_
  refine TL.eff rfl rfl rfl (X.cl rfl Try.func27 rfl (h := (u32_ok rb l (by omega) _))) ?_
  rintro _ _ ⟨rfl, rfl⟩
  refine TL.mv ?_
  refine TL.eff rfl rfl rfl (X.cl rfl Try.func27 rfl (h := (u32_ok rb (l.drop 4) (by rw [List.length_drop]; omega) _))) ?_
  rintro _ _ ⟨rfl, rfl⟩
  refine TL.sg ?_
  refine TL.sg ?_
  refine TL.nil (TQ.next (TC.seq (TC.seq (TC.region ?_))))
  refine TL.mv ?_
  refine TL.nc ?_
  refine TL.val rfl rfl rfl (by first | exact Y.fieldAddrJ rfl fo68_3 rfl nqq | exact Y.fieldAddr rfl fo68_3 rfl nqq) ?_
  refine TL.val rfl rfl rfl (Y.load rfl sc3 rfl celN) ?_
  refine TL.as (vN S.state) (by rfl) ?_
  refine TL.val rfl rfl rfl (Y.bin rfl rfl rfl (br_neN (n := 0))) ?_
  refine TL.is true (by simpa using h0) ?_
  refine TL.mv ?_
  refine TL.mg ?_
  refine TL.valG rfl rfl rfl (Y.nilCheck rfl rfl) ?_
  refine TL.valG rfl rfl rfl (by first | exact Y.fieldAddrJ rfl fo68_3 rfl nqq | exact Y.fieldAddr rfl fo68_3 rfl nqq) ?_
  refine TL.valG rfl rfl rfl (Y.load rfl sc3 rfl celN) ?_
  refine TL.as (vN S.state) (by rfl) ?_
  refine TL.valG rfl rfl rfl (Y.bin rfl rfl rfl (br_neN (n := 3))) ?_
  refine TL.is true (by simpa using h3) ?_
  refine TL.val rfl rfl rfl (Y.pick_t rfl rfl rfl) ?_
  refine TL.nil (TQ.next ?_)
  refine TC.cond_t rfl ?_
  refine TC.seq (TC.region ?_)
  refine TL.sg ?_
  refine TL.sg ?_
  refine TL.sg ?_
  refine TL.nil (TQ.next (TC.ret (TQ.then_ret ?_)))
  refine TQ.retE (resL rfl (Res.tmp rfl (Res.tmp rfl (Res.tmp rfl Res.nil)))) (⟨rfl, rfl⟩) ?_
  exact ett
set_option maxHeartbeats 1000000 in
theorem initial_yes (rb : Nat) (l : List UInt8) (hl : l.length = 8) (h : S.state = 0 ∨ S.state = 3) (hs : S.secret.length ≤ 140737488351232) (L : List SA) :
    Fn Try.prog 31 [pt b 0, pt rb 0] (rd.R rb l false :: aB b p S :: aS p S :: L)
      (fun v L' => ∃ o : Sl Bs, v = .tuple #[o.v, .slice none 0 0, vN 0] ∧ o.l.map (·.l) = [S.initAckB (num (l.take 4)) (num ((l.drop 4).take 4))] ∧ L' = SA.dat o :: aB b p S :: aS p S :: L) := by
  obtain ⟨tag, htag⟩ : ∃ t, t = num (l.take 4) := ⟨_, rfl⟩
  obtain ⟨tsn, htsn⟩ : ∃ t, t = num ((l.drop 4).take 4) := ⟨_, rfl⟩
  rw [← htag, ← htsn]
  refine Fn.of (N := 45) Try.func31 rfl rfl ?_
  intro Xh
  refine TC.seq (TC.region ?_)
  refine TL.sg ?_
  refine TL.sg ?_
  refine TL.sg ?_
  refine TL.nil (TQ.next (TC.seq (TC.region ?_)))
  refine TL.mv ?_
  refine TL.eff rfl rfl rfl (X.cl rfl Try.func27 rfl (h := (u32_ok rb l (by omega) _))) ?_
  rintro _ _ ⟨rfl, rfl⟩
  rw [← htag]
  refine TL.mv ?_
  refine TL.eff rfl rfl rfl (X.cl rfl Try.func27 rfl (h := (u32_ok rb (l.drop 4) (by rw [List.length_drop]; omega) _))) ?_
  rintro _ _ ⟨rfl, rfl⟩
  rw [← htsn]
  refine TL.sg ?_
  refine TL.sg ?_
  refine TL.nil (TQ.next (TC.seq (TC.seq (TC.region ?_))))
  refine TL.mv ?_
  refine TL.nc ?_
  refine TL.val rfl rfl rfl (by first | exact Y.fieldAddrJ rfl fo68_3 rfl nqq | exact Y.fieldAddr rfl fo68_3 rfl nqq) ?_
  refine TL.val rfl rfl rfl (Y.load rfl sc3 rfl celN) ?_
  refine TL.as (vN S.state) (by rfl) ?_
  refine TL.val rfl rfl rfl (Y.bin rfl rfl rfl (br_neN (n := 0))) ?_
  refine TL.mv ?_
  refine TL.case (fun g2_5 => ?_) (fun g2_5 => ?_)
  · try simp only [zA, zB, zC, zD, zG, zH, zI, zJ] at g2_5
    refine TL.mg ?_
    refine TL.valG rfl rfl rfl (Y.nilCheck rfl rfl) ?_
    refine TL.valG rfl rfl rfl (by first | exact Y.fieldAddrJ rfl fo68_3 rfl nqq | exact Y.fieldAddr rfl fo68_3 rfl nqq) ?_
    refine TL.valG rfl rfl rfl (Y.load rfl sc3 rfl celN) ?_
    refine TL.as (vN S.state) (by rfl) ?_
    refine TL.valG rfl rfl rfl (Y.bin rfl rfl rfl (br_neN (n := 3))) ?_
    refine TL.is false (by (simp; omega)) ?_
    refine TL.val rfl rfl rfl (Y.pick_t rfl rfl rfl) ?_
    refine TL.nil (TQ.next ?_)
    refine TC.cond_f rfl ?_
    refine TC.skip (TQ.next (TC.seq (TC.region ?_)))
    refine TL.mv ?_
    refine TL.eff rfl rfl rfl (X.cl rfl Try.func44 rfl (h := (packet_fn tag 2 _))) ?_
    rintro _ _ ⟨a27, c27, rfl, rfl⟩
    refine TL.eff rfl rfl rfl (X.alloc rfl zc85) ?_
    rintro _ _ ⟨b9, rfl, rfl⟩
    refine TL.eff0 rfl rfl (by first | exact X.store rfl sz85 rfl rfl rfl pul lnn (by first | exact setM | rfl) | exact X.storeOwn rfl sz85 rfl (Nat.zero_add _).symm rfl rfl pul lnn (by first | exact setML | rfl) | exact X.storeOwn rfl sz85 rfl rfl rfl rfl pul lnn (by first | exact setML | rfl)) ?_
    rintro _ _ rfl
    refine TL.nil ?_
    refine TQ.to (wr.put (b := b9) pul (by rfl) pul (l := pkt tag 2) rfl rfl Ent.refl) ?_
    refine TQ.next (TC.seq (TC.region ?_))
    refine TL.mv ?_
    refine TL.nc ?_
    refine TL.val rfl rfl rfl (by first | exact Y.fieldAddrJ rfl fo68_0 rfl nqq | exact Y.fieldAddr rfl fo68_0 rfl nqq) ?_
    refine TL.val rfl rfl rfl (Y.load rfl sc22 rfl cel32) ?_
    refine TL.as (v32 S.tag) (by rfl) ?_
    refine TL.eff rfl rfl rfl (X.cl rfl Try.func45 rfl (h := (wr.U32_fn b9 S.tag (pkt tag 2) (by show 8 ≤ _; decide) _))) ?_
    rintro _ _ ⟨rfl, rfl⟩
    refine TL.nil (TQ.next (TC.seq (TC.region ?_)))
    refine TL.mv ?_
    refine TL.nc ?_
    refine TL.val rfl rfl rfl (by first | exact Y.fieldAddrJ rfl fo68_1 rfl nqq | exact Y.fieldAddr rfl fo68_1 rfl nqq) ?_
    refine TL.val rfl rfl rfl (Y.load rfl sc22 rfl cel32) ?_
    refine TL.as (v32 S.first) (by rfl) ?_
    refine TL.eff rfl rfl rfl (X.cl rfl Try.func45 rfl (h := (wr.U32_fn b9 S.first _ (by show 12 ≤ _; decide) _))) ?_
    rintro _ _ ⟨rfl, rfl⟩
    refine TL.nil (TQ.next (TC.seq (TC.region ?_)))
    refine TL.mv ?_
    refine TL.mv ?_
    refine TL.mv ?_
    refine TL.eff rfl rfl rfl (X.cl rfl Try.func49 rfl (h := (cookie_fn b p S tag tsn hs _))) ?_
    rintro _ _ ⟨a41, c41, rfl, rfl⟩
    refine TL.eff rfl rfl rfl (X.cl rfl Try.func48 rfl (h := (wr.Bytes_fn (SA.owns 5 1 (.slice a41 36 c41) 36 ((cookieB S tag tsn).map v8)) b9 36 a41 c41 _ (cookieB S tag tsn) Reads.owns (cookieB_len S tag tsn) (by show 16 + 36 ≤ _; decide) _))) ?_
    rintro _ _ ⟨rfl, rfl⟩
    rw [show pkt tag 2 ++ be32 S.tag ++ be32 S.first ++ cookieB S tag tsn = S.initAckB tag tsn from rfl]
    refine TL.nil (TQ.next (TC.seq ?_))
    refine TC.open pul ?_
    rintro ⟨wa, wc⟩
    refine TC.split pul ?_
    refine TC.region ?_
    refine TL.val rfl rfl rfl (Y.load rfl sc85 rfl celD) ?_
    refine TL.eff rfl rfl rfl (X.lit rfl el24 rfl rfl rfl (by decide) rfl) ?_
    rintro _ _ ⟨g44, rfl, rfl⟩
    refine TL.sg ?_
    refine TL.sg ?_
    refine TL.sg ?_
    refine TL.nil (TQ.next (TC.ret ?_))
    refine TQ.retE (resL rfl (Res.tmp rfl (Res.tmp rfl (Res.tmp rfl Res.nil)))) (⟨⟨some ⟨g44, 0, none⟩, 1, [⟨wa, wc, S.initAckB tag tsn⟩]⟩, rfl, rfl, rfl⟩) ?_
    exact (Ent.trans (Ent.one1 (a := wa) (g := g44) (l := S.initAckB tag tsn) pul pul rfl) ett)
  · try simp only [zA, zB, zC, zD, zG, zH, zI, zJ] at g2_5
    refine TL.not rfl rfl rfl ?_
    refine TL.not rfl rfl rfl ?_
    refine TL.not rfl rfl rfl ?_
    refine TL.not rfl rfl rfl ?_
    refine TL.not rfl rfl rfl ?_
    refine TL.val rfl rfl rfl (Y.pick_f rfl rfl rfl) ?_
    refine TL.nil (TQ.next ?_)
    refine TC.cond_f rfl ?_
    refine TC.skip (TQ.next (TC.seq (TC.region ?_)))
    refine TL.mv ?_
    refine TL.eff rfl rfl rfl (X.cl rfl Try.func44 rfl (h := (packet_fn tag 2 _))) ?_
    rintro _ _ ⟨a27, c27, rfl, rfl⟩
    refine TL.eff rfl rfl rfl (X.alloc rfl zc85) ?_
    rintro _ _ ⟨b9, rfl, rfl⟩
    refine TL.eff0 rfl rfl (by first | exact X.store rfl sz85 rfl rfl rfl pul lnn (by first | exact setM | rfl) | exact X.storeOwn rfl sz85 rfl (Nat.zero_add _).symm rfl rfl pul lnn (by first | exact setML | rfl) | exact X.storeOwn rfl sz85 rfl rfl rfl rfl pul lnn (by first | exact setML | rfl)) ?_
    rintro _ _ rfl
    refine TL.nil ?_
    refine TQ.to (wr.put (b := b9) pul (by rfl) pul (l := pkt tag 2) rfl rfl Ent.refl) ?_
    refine TQ.next (TC.seq (TC.region ?_))
    refine TL.mv ?_
    refine TL.nc ?_
    refine TL.val rfl rfl rfl (by first | exact Y.fieldAddrJ rfl fo68_0 rfl nqq | exact Y.fieldAddr rfl fo68_0 rfl nqq) ?_
    refine TL.val rfl rfl rfl (Y.load rfl sc22 rfl cel32) ?_
    refine TL.as (v32 S.tag) (by rfl) ?_
    refine TL.eff rfl rfl rfl (X.cl rfl Try.func45 rfl (h := (wr.U32_fn b9 S.tag (pkt tag 2) (by show 8 ≤ _; decide) _))) ?_
    rintro _ _ ⟨rfl, rfl⟩
    refine TL.nil (TQ.next (TC.seq (TC.region ?_)))
    refine TL.mv ?_
    refine TL.nc ?_
    refine TL.val rfl rfl rfl (by first | exact Y.fieldAddrJ rfl fo68_1 rfl nqq | exact Y.fieldAddr rfl fo68_1 rfl nqq) ?_
    refine TL.val rfl rfl rfl (Y.load rfl sc22 rfl cel32) ?_
    refine TL.as (v32 S.first) (by rfl) ?_
    refine TL.eff rfl rfl rfl (X.cl rfl Try.func45 rfl (h := (wr.U32_fn b9 S.first _ (by show 12 ≤ _; decide) _))) ?_
    rintro _ _ ⟨rfl, rfl⟩
    refine TL.nil (TQ.next (TC.seq (TC.region ?_)))
    refine TL.mv ?_
    refine TL.mv ?_
    refine TL.mv ?_
    refine TL.eff rfl rfl rfl (X.cl rfl Try.func49 rfl (h := (cookie_fn b p S tag tsn hs _))) ?_
    rintro _ _ ⟨a41, c41, rfl, rfl⟩
    refine TL.eff rfl rfl rfl (X.cl rfl Try.func48 rfl (h := (wr.Bytes_fn (SA.owns 5 1 (.slice a41 36 c41) 36 ((cookieB S tag tsn).map v8)) b9 36 a41 c41 _ (cookieB S tag tsn) Reads.owns (cookieB_len S tag tsn) (by show 16 + 36 ≤ _; decide) _))) ?_
    rintro _ _ ⟨rfl, rfl⟩
    rw [show pkt tag 2 ++ be32 S.tag ++ be32 S.first ++ cookieB S tag tsn = S.initAckB tag tsn from rfl]
    refine TL.nil (TQ.next (TC.seq ?_))
    refine TC.open pul ?_
    rintro ⟨wa, wc⟩
    refine TC.split pul ?_
    refine TC.region ?_
    refine TL.val rfl rfl rfl (Y.load rfl sc85 rfl celD) ?_
    refine TL.eff rfl rfl rfl (X.lit rfl el24 rfl rfl rfl (by decide) rfl) ?_
    rintro _ _ ⟨g44, rfl, rfl⟩
    refine TL.sg ?_
    refine TL.sg ?_
    refine TL.sg ?_
    refine TL.nil (TQ.next (TC.ret ?_))
    refine TQ.retE (resL rfl (Res.tmp rfl (Res.tmp rfl (Res.tmp rfl Res.nil)))) (⟨⟨some ⟨g44, 0, none⟩, 1, [⟨wa, wc, S.initAckB tag tsn⟩]⟩, rfl, rfl, rfl⟩) ?_
    exact (Ent.trans (Ent.one1 (a := wa) (g := g44) (l := S.initAckB tag tsn) pul pul rfl) ett)
theorem initialAck_no (rb : Nat) (l : List UInt8) (h : S.state ≠ 1) (L : List SA) :
    Fn Try.prog 32 [pt b 0, pt rb 0] (rd.R rb l false :: aB b p S :: L) (fun v L' => v = .tuple #[.slice none 0 0, .slice none 0 0, vN 9] ∧ L' = aB b p S :: L) := by
  refine Fn.of (N := 47) Try.func32 rfl rfl ?_
  intro Xh
  refine TC.seq (TC.region ?_)
  refine TL.sg ?_
  refine TL.sg ?_
  refine TL.sg ?_
  refine TL.nil (TQ.next (TC.seq (TC.seq (TC.region ?_))))
  refine TL.mv ?_
  refine TL.nc ?_
  refine TL.val rfl rfl rfl (by first | exact Y.fieldAddrJ rfl fo68_3 rfl nqq | exact Y.fieldAddr rfl fo68_3 rfl nqq) ?_
  refine TL.val rfl rfl rfl (Y.load rfl sc3 rfl celN) ?_
  refine TL.as (vN S.state) (by rfl) ?_
  refine TL.val rfl rfl rfl (Y.bin rfl rfl rfl (br_neN (n := 1))) ?_
  refine TL.is true (by simpa using h) ?_
  refine TL.nil (TQ.next ?_)
  refine TC.cond_t rfl ?_
  refine TC.seq (TC.region ?_)
  refine TL.sg ?_
  refine TL.sg ?_
  refine TL.sg ?_
  refine TL.nil (TQ.next (TC.ret (TQ.then_ret ?_)))
  refine TQ.retE (resL rfl (Res.tmp rfl (Res.tmp rfl (Res.tmp rfl Res.nil)))) (⟨rfl, rfl⟩) ?_
  exact ett
set_option maxHeartbeats 1000000 in
theorem initialAck_yes (rb : Nat) (l : List UInt8) (hl : l.length = 44) (h : S.state = 1) (L : List SA) :
    Fn Try.prog 32 [pt b 0, pt rb 0] (rd.R rb l false :: aB b p S :: L)
      (fun v L' => ∃ (o : Sl Bs) (ha : Option Addr) (hc : Nat), v = .tuple #[o.v, .slice none 0 0, vN 0] ∧ o.l.map (·.l) = [echoB (num (l.take 4)) (l.drop 8)] ∧
        L' = SA.dat o :: aB b { p with ha := ha, hc := hc } (S.echo (num (l.take 4)) (num ((l.drop 4).take 4)) (l.drop 8)) :: aH { p with ha := ha, hc := hc } (S.echo (num (l.take 4)) (num ((l.drop 4).take 4)) (l.drop 8)) :: L) := by
  obtain ⟨tag, htag⟩ : ∃ t, t = num (l.take 4) := ⟨_, rfl⟩
  obtain ⟨tsn, htsn⟩ : ∃ t, t = num ((l.drop 4).take 4) := ⟨_, rfl⟩
  obtain ⟨c, hc⟩ : ∃ c, c = l.drop 8 := ⟨_, rfl⟩
  have hcl : c.length = 36 := by rw [hc, List.length_drop]; omega
  have hel : (echoB tag c).length = 44 := by rw [echoB, List.length_append, hcl]; rfl
  rw [← htag, ← htsn, ← hc]
  refine Fn.of (N := 47) Try.func32 rfl rfl ?_
  intro Xh
  refine TC.seq (TC.region ?_)
  refine TL.sg ?_
  refine TL.sg ?_
  refine TL.sg ?_
  refine TL.nil (TQ.next (TC.seq (TC.seq (TC.region ?_))))
  refine TL.mv ?_
  refine TL.nc ?_
  refine TL.val rfl rfl rfl (by first | exact Y.fieldAddrJ rfl fo68_3 rfl nqq | exact Y.fieldAddr rfl fo68_3 rfl nqq) ?_
  refine TL.val rfl rfl rfl (Y.load rfl sc3 rfl celN) ?_
  refine TL.as (vN S.state) (by rfl) ?_
  refine TL.val rfl rfl rfl (Y.bin rfl rfl rfl (br_neN (n := 1))) ?_
  refine TL.is false (by simpa using h) ?_
  refine TL.nil (TQ.next ?_)
  refine TC.cond_f rfl ?_
  refine TC.skip (TQ.next (TC.seq (TC.region ?_)))
  refine TL.mv ?_
  refine TL.mv ?_
  refine TL.mv ?_
  refine TL.mv ?_
  refine TL.eff rfl rfl rfl (X.cl rfl Try.func27 rfl (h := (u32_ok rb l (by omega) _))) ?_
  rintro _ _ ⟨rfl, rfl⟩
  rw [← htag]
  refine TL.mv ?_
  refine TL.eff rfl rfl rfl (X.cl rfl Try.func27 rfl (h := (u32_ok rb (l.drop 4) (by rw [List.length_drop]; omega) _))) ?_
  rintro _ _ ⟨rfl, rfl⟩
  rw [← htsn, List.drop_drop, ← hc]
  refine TL.val rfl rfl rfl (Y.bin rfl rfl rfl (br_sub32 (y := 1))) ?_
  refine TL.nc ?_
  refine TL.val rfl rfl rfl (by first | exact Y.fieldAddrJ rfl fo68_4 rfl nqq | exact Y.fieldAddr rfl fo68_4 rfl nqq) ?_
  refine TL.eff0 rfl rfl (X.store (cs' := asC p { S with known := true }) rfl (by kernel_rfl) rfl rfl rfl pul (by show 4 < 17; decide) rfl) ?_
  rintro _ _ rfl
  refine TL.nc ?_
  refine TL.val rfl rfl rfl (by first | exact Y.fieldAddrJ rfl fo68_5 rfl nqq | exact Y.fieldAddr rfl fo68_5 rfl nqq) ?_
  refine TL.eff0 rfl rfl (X.store (cs' := asC p { S with known := true, other := tag }) rfl (by kernel_rfl) rfl rfl rfl pul (by show 5 < 17; decide) rfl) ?_
  rintro _ _ rfl
  refine TL.nc ?_
  refine TL.val rfl rfl rfl (by first | exact Y.fieldAddrJ rfl fo68_6 rfl nqq | exact Y.fieldAddr rfl fo68_6 rfl nqq) ?_
  refine TL.eff0 rfl rfl (X.store (cs' := asC p { S with known := true, other := tag, top := tsn - 1 }) rfl (by kernel_rfl) rfl rfl rfl pul (by show 6 < 17; decide) rfl) ?_
  rintro _ _ rfl
  refine TL.nil (TQ.next (TC.seq (TC.region ?_)))
  refine TL.mv ?_
  refine TL.nc ?_
  refine TL.val rfl rfl rfl (by first | exact Y.fieldAddrJ rfl fo68_5 rfl nqq | exact Y.fieldAddr rfl fo68_5 rfl nqq) ?_
  refine TL.val rfl rfl rfl (Y.load rfl sc22 rfl cel32) ?_
  refine TL.as (v32 tag) (by rfl) ?_
  refine TL.eff rfl rfl rfl (X.cl rfl Try.func44 rfl (h := (packet_fn tag 3 _))) ?_
  rintro _ _ ⟨a31, c31, rfl, rfl⟩
  refine TL.eff rfl rfl rfl (X.alloc rfl zc85) ?_
  rintro _ _ ⟨b7, rfl, rfl⟩
  refine TL.eff0 rfl rfl (by first | exact X.store rfl sz85 rfl rfl rfl pul lnn (by first | exact setM | rfl) | exact X.storeOwn rfl sz85 rfl (Nat.zero_add _).symm rfl rfl pul lnn (by first | exact setML | rfl) | exact X.storeOwn rfl sz85 rfl rfl rfl rfl pul lnn (by first | exact setML | rfl)) ?_
  rintro _ _ rfl
  refine TL.nil ?_
  refine TQ.to (wr.put (b := b7) pul (by rfl) pul (l := pkt tag 3) rfl rfl Ent.refl) ?_
  refine TQ.next (TC.seq (TC.region ?_))
  refine TL.mv ?_
  refine TL.eff rfl rfl rfl (X.cl rfl Try.func35 rfl (h := (take_ok rb 36 c (by omega) (by omega) _))) ?_
  rintro _ _ ⟨a33, c33, rfl, rfl⟩
  rw [List.take_of_length_le (by omega : c.length ≤ 36)]
  refine TL.eff rfl rfl rfl (X.cl rfl Try.func48 rfl (h := (wr.Bytes_fn (SA.owns 5 1 (.slice a33 36 c33) 36 (c.map v8)) b7 36 a33 c33 _ c Reads.owns hcl (by show 8 + 36 ≤ _; decide) _))) ?_
  rintro _ _ ⟨rfl, rfl⟩
  rw [show pkt tag 3 ++ c = echoB tag c from rfl]
  refine TL.nil (TQ.next (TC.seq ?_))
  refine TC.open pul ?_
  rintro ⟨wa, wc⟩
  refine TC.split pul ?_
  refine TC.to ((Pull.ent (A := SA.owns 5 1 (.slice wa (echoB tag c).length wc) (echoB tag c).length ((echoB tag c).map v8)) pul).trans Ent.freeze) ?_
  refine TC.region ?_
  refine TL.mv ?_
  refine TL.mv ?_
  refine TL.val rfl rfl rfl (Y.load rfl sc85 rfl celD) ?_
  refine TL.nc ?_
  refine TL.val rfl rfl rfl (by first | exact Y.fieldAddrJ rfl fo68_3 rfl nqq | exact Y.fieldAddr rfl fo68_3 rfl nqq) ?_
  refine TL.eff0 rfl rfl (X.store (cs' := asC p { S with known := true, other := tag, top := tsn - 1, state := 2 }) rfl (by kernel_rfl) rfl rfl rfl pul (by show 3 < 17; decide) rfl) ?_
  rintro _ _ rfl
  refine TL.nc ?_
  refine TL.val rfl rfl rfl (by first | exact Y.fieldAddrJ rfl fo68_13 rfl nqq | exact Y.fieldAddr rfl fo68_13 rfl nqq) ?_
  refine TL.eff0 rfl rfl (X.store (cs' := asC { p with ha := wa, hc := wc } { S with known := true, other := tag, top := tsn - 1, state := 2, shake := echoB tag c }) rfl (by kernel_rfl) rfl rfl rfl pul (by show 16 < 17; decide) rfl) ?_
  rintro _ _ rfl
  refine TL.nil (TQ.next (TC.seq (TC.region ?_)))
  refine TL.mv ?_
  refine TL.eff rfl rfl rfl (X.cl rfl Try.func46 rfl (h := (start_fn b { p with ha := wa, hc := wc } { S with known := true, other := tag, top := tsn - 1, state := 2, shake := echoB tag c } _))) ?_
  rintro _ _ ⟨rfl, rfl⟩
  refine TL.nil (TQ.next (TC.seq (TC.region ?_)))
  refine TL.val rfl rfl rfl (Y.load rfl sc85 rfl celD) ?_
  refine TL.eff rfl rfl rfl (X.cl rfl Try.func25 rfl (h := (rd.Clone_fn _ _ _ (echoB tag c) rfl (by omega) _))) ?_
  rintro _ _ ⟨a45, c45, rfl, rfl⟩
  refine TL.eff rfl rfl rfl (X.lit rfl el24 rfl rfl rfl (by decide) rfl) ?_
  rintro _ _ ⟨g46, rfl, rfl⟩
  refine TL.sg ?_
  refine TL.sg ?_
  refine TL.sg ?_
  refine TL.nil (TQ.next (TC.ret ?_))
  refine TQ.retE (resL rfl (Res.tmp rfl (Res.tmp rfl (Res.tmp rfl Res.nil)))) (⟨⟨some ⟨g46, 0, none⟩, 1, [⟨a45, c45, echoB tag c⟩]⟩, wa, wc, rfl, rfl, rfl⟩) ?_
  exact (Ent.trans (Ent.one1 (a := a45) (g := g46) (l := echoB tag c) pul pul rfl) ett)
end
end ac
end Go.Proofs.Ytomplpdeeomehaa


/- assoc: cookied and receive, walked. -/
namespace Go.Proofs.Ytomplpdeeomehaa
set_option linter.unusedVariables false
set_option linter.unusedSimpArgs false
open Go.RowKit
namespace ac
open wr (be16 be32)
open rd (num rdB rdL rdV)
open Go.Proofs.Ytomplpdeeomehaa.sha.FxShaMac Go.Proofs.Ytomplpdeeomehaa.ac.FxAsA Go.Proofs.Ytomplpdeeomehaa.ac.FxAsC Go.Proofs.Ytomplpdeeomehaa.ac.FxAsE Go.Proofs.Ytomplpdeeomehaa.sha.FxShaBlock
theorem Equal_fn (A B : SA) (a : Option Addr) (n cap : Nat) (x : List UInt8) (b : Option Addr) (m cb : Nat) (y : List UInt8) (hA : Reads A 1 (.slice a n cap) n (x.map v8)) (hB : Reads B 1 (.slice b m cb) m (y.map v8)) (L : List SA) :
    Fn Try.prog 50 [.slice a n cap, .slice b m cb] (A :: B :: L) (fun v L' => v = .bool (decide (x = y)) ∧ L' = A :: B :: L) := by
  refine Fn.of (N := 10) Try.func50 rfl rfl ?_
  intro Xh
  refine TC.seq (TC.region ?_)
  refine TL.sg ?_
  refine TL.nil (TQ.next (TC.seq (TC.region ?_)))
  refine TL.mv ?_
  refine TL.val rfl rfl rfl (by first | exact Y.str rfl Try.underlying23 Try.underlying9 Try.underlying5 rfl Reads.rds inn | exact Y.str rfl Try.underlying23 Try.underlying9 Try.underlying5 rfl Reads.owns inn | exact Y.str rfl Try.underlying23 Try.underlying9 Try.underlying5 rfl (by assumption) inn) ?_
  refine TL.mv ?_
  refine TL.val rfl rfl rfl (by first | exact Y.str rfl Try.underlying23 Try.underlying9 Try.underlying5 rfl Reads.rds inn | exact Y.str rfl Try.underlying23 Try.underlying9 Try.underlying5 rfl Reads.owns inn | exact Y.str rfl Try.underlying23 Try.underlying9 Try.underlying5 rfl (by assumption) inn) ?_
  refine TL.val rfl rfl rfl (Y.eqStr rfl rfl rfl) ?_
  refine TL.sg ?_
  refine TL.nil (TQ.next (TC.ret ?_))
  refine TQ.retE (res1 rfl rfl) (⟨rfl, rfl⟩) ?_
  exact ett
section
variable (b : Nat) (p : AP) (S : AS Msg) (rb : Nat) (c : List UInt8) (hc : c.length = 36) (hs : S.secret.length ≤ 140737488351232)
include hc hs
theorem cookied_bad (h : c ≠ cookieB S (num (c.take 4)) (num ((c.drop 4).take 4))) (L : List SA) :
    Fn Try.prog 33 [pt b 0, pt rb 0] (rd.R rb c false :: aB b p S :: aS p S :: L) (fun v L' => v = .tuple #[.slice none 0 0, .slice none 0 0, vN 4] ∧ L' = aB b p S :: aS p S :: L) := by
  refine Fn.of (N := 68) Try.func33 rfl rfl ?_
  intro Xh
  obtain ⟨tag, htag⟩ : ∃ t, t = num (c.take 4) := ⟨_, rfl⟩
  obtain ⟨tsn, htsn⟩ : ∃ t, t = num ((c.drop 4).take 4) := ⟨_, rfl⟩
  rw [← htag, ← htsn] at h
  try rw [← htag]
  try rw [← htsn]
  try rw [← htag] at h3
  try rw [← htag] at ho
  refine TC.seq (TC.region ?_)
  refine TL.sg ?_
  refine TL.sg ?_
  refine TL.sg ?_
  refine TL.nil (TQ.next (TC.seq (TC.region ?_)))
  refine TL.mv ?_
  refine TL.eff rfl rfl rfl (X.cl rfl Try.func35 rfl (h := (take_ok rb 36 c (by omega) (by omega) _))) ?_
  rintro _ _ ⟨a12, c12, rfl, rfl⟩
  rw [List.take_of_length_le (by omega : c.length ≤ 36)]
  refine TL.sg ?_
  refine TL.nil (TQ.next (TC.seq ?_))
  refine TC.to ((Pull.ent (A := SA.owns 5 1 (.slice a12 36 c12) 36 (c.map v8)) pul).trans Ent.freeze) ?_
  refine TC.region ?_
  refine TL.mv ?_
  refine TL.eff rfl rfl rfl (X.cl rfl Try.func26 rfl (h := (rd.New_fn a12 36 c12 c hc (by decide) _))) ?_
  rintro _ _ ⟨p14, rfl, rfl⟩
  refine TL.sg ?_
  refine TL.nil (TQ.next (TC.seq (TC.region ?_)))
  refine TL.mv ?_
  refine TL.eff rfl rfl rfl (X.cl rfl Try.func27 rfl (h := (u32_ok p14 c (by omega) _))) ?_
  rintro _ _ ⟨rfl, rfl⟩
  rw [← htag]
  refine TL.mv ?_
  refine TL.eff rfl rfl rfl (X.cl rfl Try.func27 rfl (h := (u32_ok p14 (c.drop 4) (by rw [List.length_drop]; omega) _))) ?_
  rintro _ _ ⟨rfl, rfl⟩
  rw [← htsn]
  refine TL.sg ?_
  refine TL.sg ?_
  refine TL.nil (TQ.next (TC.seq (TC.block (TC.seq (TC.region ?_)))))
  refine TL.mv ?_
  refine TL.mv ?_
  refine TL.mv ?_
  refine TL.mv ?_
  refine TL.eff rfl rfl rfl (X.cl rfl Try.func49 rfl (h := (cookie_fn b p S tag tsn hs _))) ?_
  rintro _ _ ⟨a24, c24, rfl, rfl⟩
  refine TL.eff rfl rfl rfl (X.cl rfl Try.func50 rfl (h := (Equal_fn (SA.rds 1 (.slice a12 36 c12) 36 (c.map v8)) (SA.owns 5 1 (.slice a24 36 c24) 36 ((cookieB S tag tsn).map v8)) a12 36 c12 c a24 36 c24 (cookieB S tag tsn) Reads.rds Reads.owns _))) ?_
  rintro _ _ ⟨rfl, rfl⟩
  refine TL.val rfl rfl rfl (Y.not rfl rfl) ?_
  refine TL.is true (by (rw [decide_eq_false h]; rfl)) ?_
  refine TL.sg ?_
  refine TL.nil (TQ.next ?_)
  refine TC.cond_t rfl ?_
  refine TC.seq (TC.region ?_)
  refine TL.sg ?_
  refine TL.sg ?_
  refine TL.sg ?_
  refine TL.nil (TQ.next (TC.ret (TQ.block_ret (TQ.then_ret ?_))))
  refine TQ.retE (resL rfl (Res.tmp rfl (Res.tmp rfl (Res.tmp rfl Res.nil)))) (⟨rfl, rfl⟩) ?_
  exact ett
theorem cookied_open (h : c = cookieB S (num (c.take 4)) (num ((c.drop 4).take 4))) (h0 : S.state = 0) (L : List SA) :
    Fn Try.prog 33 [pt b 0, pt rb 0] (rd.R rb c false :: aB b p S :: aS p S :: L)
      (fun v L' => ∃ o : Sl Bs, v = .tuple #[o.v, .slice none 0 0, vN 0] ∧ o.l.map (·.l) = [pkt (num (c.take 4)) 4] ∧ L' = SA.dat o :: aB b p (S.opened (num (c.take 4)) (num ((c.drop 4).take 4))) :: aS p S :: L) := by
  refine Fn.of (N := 68) Try.func33 rfl rfl ?_
  intro Xh
  obtain ⟨tag, htag⟩ : ∃ t, t = num (c.take 4) := ⟨_, rfl⟩
  obtain ⟨tsn, htsn⟩ : ∃ t, t = num ((c.drop 4).take 4) := ⟨_, rfl⟩
  rw [← htag, ← htsn] at h
  try rw [← htag]
  try rw [← htsn]
  try rw [← htag] at h3
  try rw [← htag] at ho
  refine TC.seq (TC.region ?_)
  refine TL.sg ?_
  refine TL.sg ?_
  refine TL.sg ?_
  refine TL.nil (TQ.next (TC.seq (TC.region ?_)))
  refine TL.mv ?_
  refine TL.eff rfl rfl rfl (X.cl rfl Try.func35 rfl (h := (take_ok rb 36 c (by omega) (by omega) _))) ?_
  rintro _ _ ⟨a12, c12, rfl, rfl⟩
  rw [List.take_of_length_le (by omega : c.length ≤ 36)]
  refine TL.sg ?_
  refine TL.nil (TQ.next (TC.seq ?_))
  refine TC.to ((Pull.ent (A := SA.owns 5 1 (.slice a12 36 c12) 36 (c.map v8)) pul).trans Ent.freeze) ?_
  refine TC.region ?_
  refine TL.mv ?_
  refine TL.eff rfl rfl rfl (X.cl rfl Try.func26 rfl (h := (rd.New_fn a12 36 c12 c hc (by decide) _))) ?_
  rintro _ _ ⟨p14, rfl, rfl⟩
  refine TL.sg ?_
  refine TL.nil (TQ.next (TC.seq (TC.region ?_)))
  refine TL.mv ?_
  refine TL.eff rfl rfl rfl (X.cl rfl Try.func27 rfl (h := (u32_ok p14 c (by omega) _))) ?_
  rintro _ _ ⟨rfl, rfl⟩
  rw [← htag]
  refine TL.mv ?_
  refine TL.eff rfl rfl rfl (X.cl rfl Try.func27 rfl (h := (u32_ok p14 (c.drop 4) (by rw [List.length_drop]; omega) _))) ?_
  rintro _ _ ⟨rfl, rfl⟩
  rw [← htsn]
  refine TL.sg ?_
  refine TL.sg ?_
  refine TL.nil (TQ.next (TC.seq (TC.block (TC.seq (TC.region ?_)))))
  refine TL.mv ?_
  refine TL.mv ?_
  refine TL.mv ?_
  refine TL.mv ?_
  refine TL.eff rfl rfl rfl (X.cl rfl Try.func49 rfl (h := (cookie_fn b p S tag tsn hs _))) ?_
  rintro _ _ ⟨a24, c24, rfl, rfl⟩
  refine TL.eff rfl rfl rfl (X.cl rfl Try.func50 rfl (h := (Equal_fn (SA.rds 1 (.slice a12 36 c12) 36 (c.map v8)) (SA.owns 5 1 (.slice a24 36 c24) 36 ((cookieB S tag tsn).map v8)) a12 36 c12 c a24 36 c24 (cookieB S tag tsn) Reads.rds Reads.owns _))) ?_
  rintro _ _ ⟨rfl, rfl⟩
  refine TL.val rfl rfl rfl (Y.not rfl rfl) ?_
  refine TL.is false (by (rw [decide_eq_true h]; rfl)) ?_
  refine TL.sg ?_
  refine TL.nil (TQ.next ?_)
  refine TC.cond_f rfl ?_
  refine TC.seq (TC.region ?_)
  refine TL.mv ?_
  refine TL.nc ?_
  refine TL.val rfl rfl rfl (by first | exact Y.fieldAddrJ rfl fo68_3 rfl nqq | exact Y.fieldAddr rfl fo68_3 rfl nqq) ?_
  refine TL.val rfl rfl rfl (Y.load rfl sc3 rfl celN) ?_
  refine TL.as (vN S.state) (by rfl) ?_
  refine TL.val rfl rfl rfl (Y.bin rfl rfl rfl (br_eqN (n := 0))) ?_
  refine TL.is true (by simpa using h0) ?_
  refine TL.sg ?_
  refine TL.nil (TQ.next ?_)
  refine TC.cond_t rfl ?_
  refine TC.region ?_
  refine TL.mv ?_
  refine TL.mv ?_
  refine TL.mv ?_
  refine TL.mv ?_
  refine TL.mv ?_
  refine TL.mv ?_
  refine TL.val rfl rfl rfl (Y.bin rfl rfl rfl (br_sub32 (y := 1))) ?_
  refine TL.nc ?_
  refine TL.val rfl rfl rfl (by first | exact Y.fieldAddrJ rfl fo68_3 rfl nqq | exact Y.fieldAddr rfl fo68_3 rfl nqq) ?_
  refine TL.eff0 rfl rfl (X.store (cs' := asC p { S with state := 3 }) rfl (by kernel_rfl) rfl rfl rfl pul (by show 3 < 17; decide) rfl) ?_
  rintro _ _ rfl
  refine TL.nc ?_
  refine TL.val rfl rfl rfl (by first | exact Y.fieldAddrJ rfl fo68_4 rfl nqq | exact Y.fieldAddr rfl fo68_4 rfl nqq) ?_
  refine TL.eff0 rfl rfl (X.store (cs' := asC p { S with state := 3, known := true }) rfl (by kernel_rfl) rfl rfl rfl pul (by show 4 < 17; decide) rfl) ?_
  rintro _ _ rfl
  refine TL.nc ?_
  refine TL.val rfl rfl rfl (by first | exact Y.fieldAddrJ rfl fo68_5 rfl nqq | exact Y.fieldAddr rfl fo68_5 rfl nqq) ?_
  refine TL.eff0 rfl rfl (X.store (cs' := asC p { S with state := 3, known := true, other := tag }) rfl (by kernel_rfl) rfl rfl rfl pul (by show 5 < 17; decide) rfl) ?_
  rintro _ _ rfl
  refine TL.nc ?_
  refine TL.val rfl rfl rfl (by first | exact Y.fieldAddrJ rfl fo68_6 rfl nqq | exact Y.fieldAddr rfl fo68_6 rfl nqq) ?_
  refine TL.eff0 rfl rfl (X.store (cs' := asC p (S.opened tag tsn)) rfl (by kernel_rfl) rfl rfl rfl pul (by show 6 < 17; decide) rfl) ?_
  rintro _ _ rfl
  refine TL.nil (TQ.block_normal (TQ.next (TC.seq (TC.region ?_))))
  refine TL.mv ?_
  refine TL.nc ?_
  refine TL.val rfl rfl rfl (by first | exact Y.fieldAddrJ rfl fo68_5 rfl nqq | exact Y.fieldAddr rfl fo68_5 rfl nqq) ?_
  refine TL.val rfl rfl rfl (Y.load rfl sc22 rfl cel32) ?_
  refine TL.as (v32 tag) (by rfl) ?_
  refine TL.eff rfl rfl rfl (X.cl rfl Try.func44 rfl (h := (packet_fn tag 4 _))) ?_
  rintro _ _ ⟨a66, c66, rfl, rfl⟩
  refine TL.eff rfl rfl rfl (X.lit rfl el24 rfl rfl rfl (by decide) rfl) ?_
  rintro _ _ ⟨g67, rfl, rfl⟩
  refine TL.sg ?_
  refine TL.sg ?_
  refine TL.sg ?_
  refine TL.nil (TQ.next (TC.ret ?_))
  refine TQ.retE (resL rfl (Res.tmp rfl (Res.tmp rfl (Res.tmp rfl Res.nil)))) (⟨⟨some ⟨g67, 0, none⟩, 1, [⟨a66, c66, pkt tag 4⟩]⟩, rfl, rfl, rfl⟩) ?_
  exact (Ent.trans (Ent.one1 (a := a66) (g := g67) (n := 8) (l := pkt tag 4) pul pul rfl) ett)
theorem cookied_no (h : c = cookieB S (num (c.take 4)) (num ((c.drop 4).take 4))) (h0 : S.state ≠ 0) (h3 : S.state ≠ 3 ∨ S.other ≠ num (c.take 4)) (L : List SA) :
    Fn Try.prog 33 [pt b 0, pt rb 0] (rd.R rb c false :: aB b p S :: aS p S :: L) (fun v L' => v = .tuple #[.slice none 0 0, .slice none 0 0, vN 9] ∧ L' = aB b p S :: aS p S :: L) := by
  refine Fn.of (N := 68) Try.func33 rfl rfl ?_
  intro Xh
  obtain ⟨tag, htag⟩ : ∃ t, t = num (c.take 4) := ⟨_, rfl⟩
  obtain ⟨tsn, htsn⟩ : ∃ t, t = num ((c.drop 4).take 4) := ⟨_, rfl⟩
  rw [← htag, ← htsn] at h
  try rw [← htag]
  try rw [← htsn]
  try rw [← htag] at h3
  try rw [← htag] at ho
  refine TC.seq (TC.region ?_)
  refine TL.sg ?_
  refine TL.sg ?_
  refine TL.sg ?_
  refine TL.nil (TQ.next (TC.seq (TC.region ?_)))
  refine TL.mv ?_
  refine TL.eff rfl rfl rfl (X.cl rfl Try.func35 rfl (h := (take_ok rb 36 c (by omega) (by omega) _))) ?_
  rintro _ _ ⟨a12, c12, rfl, rfl⟩
  rw [List.take_of_length_le (by omega : c.length ≤ 36)]
  refine TL.sg ?_
  refine TL.nil (TQ.next (TC.seq ?_))
  refine TC.to ((Pull.ent (A := SA.owns 5 1 (.slice a12 36 c12) 36 (c.map v8)) pul).trans Ent.freeze) ?_
  refine TC.region ?_
  refine TL.mv ?_
  refine TL.eff rfl rfl rfl (X.cl rfl Try.func26 rfl (h := (rd.New_fn a12 36 c12 c hc (by decide) _))) ?_
  rintro _ _ ⟨p14, rfl, rfl⟩
  refine TL.sg ?_
  refine TL.nil (TQ.next (TC.seq (TC.region ?_)))
  refine TL.mv ?_
  refine TL.eff rfl rfl rfl (X.cl rfl Try.func27 rfl (h := (u32_ok p14 c (by omega) _))) ?_
  rintro _ _ ⟨rfl, rfl⟩
  rw [← htag]
  refine TL.mv ?_
  refine TL.eff rfl rfl rfl (X.cl rfl Try.func27 rfl (h := (u32_ok p14 (c.drop 4) (by rw [List.length_drop]; omega) _))) ?_
  rintro _ _ ⟨rfl, rfl⟩
  rw [← htsn]
  refine TL.sg ?_
  refine TL.sg ?_
  refine TL.nil (TQ.next (TC.seq (TC.block (TC.seq (TC.region ?_)))))
  refine TL.mv ?_
  refine TL.mv ?_
  refine TL.mv ?_
  refine TL.mv ?_
  refine TL.eff rfl rfl rfl (X.cl rfl Try.func49 rfl (h := (cookie_fn b p S tag tsn hs _))) ?_
  rintro _ _ ⟨a24, c24, rfl, rfl⟩
  refine TL.eff rfl rfl rfl (X.cl rfl Try.func50 rfl (h := (Equal_fn (SA.rds 1 (.slice a12 36 c12) 36 (c.map v8)) (SA.owns 5 1 (.slice a24 36 c24) 36 ((cookieB S tag tsn).map v8)) a12 36 c12 c a24 36 c24 (cookieB S tag tsn) Reads.rds Reads.owns _))) ?_
  rintro _ _ ⟨rfl, rfl⟩
  refine TL.val rfl rfl rfl (Y.not rfl rfl) ?_
  refine TL.is false (by (rw [decide_eq_true h]; rfl)) ?_
  refine TL.sg ?_
  refine TL.nil (TQ.next ?_)
  refine TC.cond_f rfl ?_
  refine TC.seq (TC.region ?_)
  refine TL.mv ?_
  refine TL.nc ?_
  refine TL.val rfl rfl rfl (by first | exact Y.fieldAddrJ rfl fo68_3 rfl nqq | exact Y.fieldAddr rfl fo68_3 rfl nqq) ?_
  refine TL.val rfl rfl rfl (Y.load rfl sc3 rfl celN) ?_
  refine TL.as (vN S.state) (by rfl) ?_
  refine TL.val rfl rfl rfl (Y.bin rfl rfl rfl (br_eqN (n := 0))) ?_
  refine TL.is false (by simpa using h0) ?_
  refine TL.sg ?_
  refine TL.nil (TQ.next ?_)
  refine TC.cond_f rfl ?_
  refine TC.seq (TC.region ?_)
  refine TL.mv ?_
  refine TL.nc ?_
  refine TL.val rfl rfl rfl (by first | exact Y.fieldAddrJ rfl fo68_3 rfl nqq | exact Y.fieldAddr rfl fo68_3 rfl nqq) ?_
  refine TL.val rfl rfl rfl (Y.load rfl sc3 rfl celN) ?_
  refine TL.as (vN S.state) (by rfl) ?_
  refine TL.val rfl rfl rfl (Y.bin rfl rfl rfl (br_neN (n := 3))) ?_
  refine TL.mv ?_
  refine TL.case (fun g8_5 => ?_) (fun g8_5 => ?_)
  · try simp only [zA, zB, zC, zD, zG, zH, zI, zJ] at g8_5
    refine TL.not rfl rfl rfl ?_
    refine TL.not rfl rfl rfl ?_
    refine TL.not rfl rfl rfl ?_
    refine TL.not rfl rfl rfl ?_
    refine TL.not rfl rfl rfl ?_
    refine TL.not rfl rfl rfl ?_
    refine TL.val rfl rfl rfl (Y.pick_t rfl rfl rfl) ?_
    refine TL.sg ?_
    refine TL.nil (TQ.next ?_)
    refine TC.cond_t rfl ?_
    refine TC.seq (TC.region ?_)
    refine TL.sg ?_
    refine TL.sg ?_
    refine TL.sg ?_
    refine TL.nil (TQ.next (TC.ret (TQ.block_ret (TQ.then_ret ?_))))
    refine TQ.retE (resL rfl (Res.tmp rfl (Res.tmp rfl (Res.tmp rfl Res.nil)))) (⟨rfl, rfl⟩) ?_
    exact ett
  · try simp only [zA, zB, zC, zD, zG, zH, zI, zJ] at g8_5
    refine TL.mg ?_
    refine TL.valG rfl rfl rfl (Y.nilCheck rfl rfl) ?_
    refine TL.valG rfl rfl rfl (by first | exact Y.fieldAddrJ rfl fo68_5 rfl nqq | exact Y.fieldAddr rfl fo68_5 rfl nqq) ?_
    refine TL.valG rfl rfl rfl (Y.load rfl sc22 rfl cel32) ?_
    refine TL.as (v32 S.other) (by rfl) ?_
    refine TL.mg ?_
    refine TL.valG rfl rfl rfl (Y.bin rfl rfl rfl (br_ne32)) ?_
    refine TL.is true (by (simp; rcases h3 with h3 | h3; (exact absurd (by simpa using g8_5) h3); exact h3)) ?_
    refine TL.val rfl rfl rfl (Y.pick_f rfl rfl rfl) ?_
    refine TL.sg ?_
    refine TL.nil (TQ.next ?_)
    refine TC.cond_t rfl ?_
    refine TC.seq (TC.region ?_)
    refine TL.sg ?_
    refine TL.sg ?_
    refine TL.sg ?_
    refine TL.nil (TQ.next (TC.ret (TQ.block_ret (TQ.then_ret ?_))))
    refine TQ.retE (resL rfl (Res.tmp rfl (Res.tmp rfl (Res.tmp rfl Res.nil)))) (⟨rfl, rfl⟩) ?_
    exact ett
theorem cookied_again (h : c = cookieB S (num (c.take 4)) (num ((c.drop 4).take 4))) (h3 : S.state = 3) (ho : S.other = num (c.take 4)) (L : List SA) :
    Fn Try.prog 33 [pt b 0, pt rb 0] (rd.R rb c false :: aB b p S :: aS p S :: L)
      (fun v L' => ∃ o : Sl Bs, v = .tuple #[o.v, .slice none 0 0, vN 0] ∧ o.l.map (·.l) = [pkt S.other 4] ∧ L' = SA.dat o :: aB b p S :: aS p S :: L) := by
  refine Fn.of (N := 68) Try.func33 rfl rfl ?_
  intro Xh
  obtain ⟨tag, htag⟩ : ∃ t, t = num (c.take 4) := ⟨_, rfl⟩
  obtain ⟨tsn, htsn⟩ : ∃ t, t = num ((c.drop 4).take 4) := ⟨_, rfl⟩
  rw [← htag, ← htsn] at h
  try rw [← htag]
  try rw [← htsn]
  try rw [← htag] at h3
  try rw [← htag] at ho
  refine TC.seq (TC.region ?_)
  refine TL.sg ?_
  refine TL.sg ?_
  refine TL.sg ?_
  refine TL.nil (TQ.next (TC.seq (TC.region ?_)))
  refine TL.mv ?_
  refine TL.eff rfl rfl rfl (X.cl rfl Try.func35 rfl (h := (take_ok rb 36 c (by omega) (by omega) _))) ?_
  rintro _ _ ⟨a12, c12, rfl, rfl⟩
  rw [List.take_of_length_le (by omega : c.length ≤ 36)]
  refine TL.sg ?_
  refine TL.nil (TQ.next (TC.seq ?_))
  refine TC.to ((Pull.ent (A := SA.owns 5 1 (.slice a12 36 c12) 36 (c.map v8)) pul).trans Ent.freeze) ?_
  refine TC.region ?_
  refine TL.mv ?_
  refine TL.eff rfl rfl rfl (X.cl rfl Try.func26 rfl (h := (rd.New_fn a12 36 c12 c hc (by decide) _))) ?_
  rintro _ _ ⟨p14, rfl, rfl⟩
  refine TL.sg ?_
  refine TL.nil (TQ.next (TC.seq (TC.region ?_)))
  refine TL.mv ?_
  refine TL.eff rfl rfl rfl (X.cl rfl Try.func27 rfl (h := (u32_ok p14 c (by omega) _))) ?_
  rintro _ _ ⟨rfl, rfl⟩
  rw [← htag]
  refine TL.mv ?_
  refine TL.eff rfl rfl rfl (X.cl rfl Try.func27 rfl (h := (u32_ok p14 (c.drop 4) (by rw [List.length_drop]; omega) _))) ?_
  rintro _ _ ⟨rfl, rfl⟩
  rw [← htsn]
  refine TL.sg ?_
  refine TL.sg ?_
  refine TL.nil (TQ.next (TC.seq (TC.block (TC.seq (TC.region ?_)))))
  refine TL.mv ?_
  refine TL.mv ?_
  refine TL.mv ?_
  refine TL.mv ?_
  refine TL.eff rfl rfl rfl (X.cl rfl Try.func49 rfl (h := (cookie_fn b p S tag tsn hs _))) ?_
  rintro _ _ ⟨a24, c24, rfl, rfl⟩
  refine TL.eff rfl rfl rfl (X.cl rfl Try.func50 rfl (h := (Equal_fn (SA.rds 1 (.slice a12 36 c12) 36 (c.map v8)) (SA.owns 5 1 (.slice a24 36 c24) 36 ((cookieB S tag tsn).map v8)) a12 36 c12 c a24 36 c24 (cookieB S tag tsn) Reads.rds Reads.owns _))) ?_
  rintro _ _ ⟨rfl, rfl⟩
  refine TL.val rfl rfl rfl (Y.not rfl rfl) ?_
  refine TL.is false (by (rw [decide_eq_true h]; rfl)) ?_
  refine TL.sg ?_
  refine TL.nil (TQ.next ?_)
  refine TC.cond_f rfl ?_
  refine TC.seq (TC.region ?_)
  refine TL.mv ?_
  refine TL.nc ?_
  refine TL.val rfl rfl rfl (by first | exact Y.fieldAddrJ rfl fo68_3 rfl nqq | exact Y.fieldAddr rfl fo68_3 rfl nqq) ?_
  refine TL.val rfl rfl rfl (Y.load rfl sc3 rfl celN) ?_
  refine TL.as (vN S.state) (by rfl) ?_
  refine TL.val rfl rfl rfl (Y.bin rfl rfl rfl (br_eqN (n := 0))) ?_
  refine TL.is false (by (simp; omega)) ?_
  refine TL.sg ?_
  refine TL.nil (TQ.next ?_)
  refine TC.cond_f rfl ?_
  refine TC.seq (TC.region ?_)
  refine TL.mv ?_
  refine TL.nc ?_
  refine TL.val rfl rfl rfl (by first | exact Y.fieldAddrJ rfl fo68_3 rfl nqq | exact Y.fieldAddr rfl fo68_3 rfl nqq) ?_
  refine TL.val rfl rfl rfl (Y.load rfl sc3 rfl celN) ?_
  refine TL.as (vN S.state) (by rfl) ?_
  refine TL.val rfl rfl rfl (Y.bin rfl rfl rfl (br_neN (n := 3))) ?_
  refine TL.is false (by simpa using h3) ?_
  refine TL.mv ?_
  refine TL.mg ?_
  refine TL.valG rfl rfl rfl (Y.nilCheck rfl rfl) ?_
  refine TL.valG rfl rfl rfl (by first | exact Y.fieldAddrJ rfl fo68_5 rfl nqq | exact Y.fieldAddr rfl fo68_5 rfl nqq) ?_
  refine TL.valG rfl rfl rfl (Y.load rfl sc22 rfl cel32) ?_
  refine TL.as (v32 S.other) (by rfl) ?_
  refine TL.mg ?_
  refine TL.valG rfl rfl rfl (Y.bin rfl rfl rfl (br_ne32)) ?_
  refine TL.is false (by (simp; exact ho)) ?_
  refine TL.val rfl rfl rfl (Y.pick_f rfl rfl rfl) ?_
  refine TL.sg ?_
  refine TL.nil (TQ.next ?_)
  refine TC.cond_f rfl ?_
  refine TC.skip (TQ.block_normal (TQ.next (TC.seq (TC.region ?_))))
  refine TL.mv ?_
  refine TL.nc ?_
  refine TL.val rfl rfl rfl (by first | exact Y.fieldAddrJ rfl fo68_5 rfl nqq | exact Y.fieldAddr rfl fo68_5 rfl nqq) ?_
  refine TL.val rfl rfl rfl (Y.load rfl sc22 rfl cel32) ?_
  refine TL.as (v32 S.other) (by rfl) ?_
  refine TL.eff rfl rfl rfl (X.cl rfl Try.func44 rfl (h := (packet_fn S.other 4 _))) ?_
  rintro _ _ ⟨a66, c66, rfl, rfl⟩
  refine TL.eff rfl rfl rfl (X.lit rfl el24 rfl rfl rfl (by decide) rfl) ?_
  rintro _ _ ⟨g67, rfl, rfl⟩
  refine TL.sg ?_
  refine TL.sg ?_
  refine TL.sg ?_
  refine TL.nil (TQ.next (TC.ret ?_))
  refine TQ.retE (resL rfl (Res.tmp rfl (Res.tmp rfl (Res.tmp rfl Res.nil)))) (⟨⟨some ⟨g67, 0, none⟩, 1, [⟨a66, c66, pkt S.other 4⟩]⟩, rfl, rfl, rfl⟩) ?_
  exact (Ent.trans (Ent.one1 (a := a66) (g := g67) (n := 8) (l := pkt S.other 4) pul pul rfl) ett)
end
end ac
end Go.Proofs.Ytomplpdeeomehaa


/- assoc: receive, walked. -/
namespace Go.Proofs.Ytomplpdeeomehaa
set_option linter.unusedVariables false
set_option linter.unusedSimpArgs false
open Go.RowKit
namespace ac
open wr (be16 be32)
namespace FxAsR
set_option maxRecDepth 100000
theorem el28 : Elt Try.prog 28 51 3 32 (.agg #[.int .u16 0, .int .u32 0, .slice none 0 0]) := ⟨Try.underlying28, by kernel_rfl, rfl, by decide, by simp [Value.cells, Value.oneCell']⟩
theorem fo68_7 : Program.fieldOff Try.prog 68 7 = some 7 := by kernel_rfl
theorem sc63 : Program.isSc Try.prog 63 = true := by kernel_rfl
end FxAsR
open Go.Proofs.Ytomplpdeeomehaa.ac.FxAsC Go.Proofs.Ytomplpdeeomehaa.ac.FxAsE Go.Proofs.Ytomplpdeeomehaa.sha.FxShaBlock FxAsR
theorem mapT : Program.underlying Try.prog 63 = some (.map 22 51) := Try.underlying63
theorem zMsg : ((Try.prog.info? 51).bind (·.zero)) = some (.agg #[v16 0, v32 0, .slice none 0 0]) := by kernel_rfl
def lkC : Option Msg → Array Value
  | some v => (Dat.c v).toArray
  | none => #[v16 0, v32 0, .slice none 0 0]
theorem lkC_size (o : Option Msg) : (lkC o).size = 3 := by cases o <;> rfl
theorem lkC_one (o : Option Msg) : ∀ v ∈ (lkC o).toList, v.oneCell' = true := by
  cases o with
  | none => exact allOne (by rfl)
  | some m => exact allOne (by rfl)
theorem Win_next {S : AS Msg} {w : Nat} (h : S.Win (w + 1)) : S.step1.Win w := fun k hk => by
  have hk2 : ¬ k = S.top + 1 ∧ (S.kept k).isSome = true := by
    simp only [AS.step1, mdel] at hk
    split at hk
    · cases hk
    · rename_i hne; exact ⟨hne, hk⟩
  have h1 := h k hk2.2
  have hne : k - S.top - 1 ≠ 0 := fun e => hk2.1 (by
    have : k = (k - S.top - 1) + (S.top + 1) := by grind
    rw [e, UInt32.zero_add] at this; exact this)
  show (k - (S.top + 1) - 1).toNat < w
  have e : k - (S.top + 1) - 1 = (k - S.top - 1) - 1 := by grind
  rw [e]
  generalize k - S.top - 1 = x at h1 hne ⊢
  have hx : x.toNat ≠ 0 := fun e => hne (UInt32.toNat_inj.1 (by simpa using e))
  have : (x - 1).toNat = x.toNat - 1 := by rw [UInt32.toNat_sub_of_le x 1 (by rw [UInt32.le_iff_toNat_le]; show 1 ≤ _; omega)]; rfl
  omega
theorem Win_zero {S : AS Msg} (h : S.Win 0) (k : UInt32) : S.kept k = none := by
  cases hk : S.kept k with
  | none => rfl
  | some m => exact absurd (h k (by rw [hk]; rfl)) (by omega)
theorem Win_pos {S : AS Msg} {w : Nat} (h : S.Win w) {m : Msg} (hm : S.kept (S.top + 1) = some m) : ∃ w', w = w' + 1 := by
  cases w with
  | zero => rw [Win_zero h] at hm; cases hm
  | succ w => exact ⟨w, rfl⟩
theorem deliver_none {S : AS Msg} (f : Nat) (h : S.kept (S.top + 1) = none) : AS.deliver f S = ([], S) := by
  cases f with
  | zero => rfl
  | succ f => rw [AS.deliver, h]
theorem deliver_some {S : AS Msg} (f : Nat) {m : Msg} (h : S.kept (S.top + 1) = some m) : AS.deliver (f + 1) S = (m :: (AS.deliver f S.step1).1, (AS.deliver f S.step1).2) := by rw [AS.deliver, h]
theorem keep_win {S : AS Msg} {t : UInt32} {m : Msg} (h : S.Win 32) : (S.keep t m).Win 32 := by
  unfold AS.keep
  split
  · rename_i hc
    intro k hk
    simp only [mput] at hk
    by_cases e : k = t
    · subst e; exact UInt32.lt_iff_toNat_lt.1 hc.2
    · rw [if_neg e] at hk; exact h k hk
  · exact h
theorem keep_asC (p : AP) (S : AS Msg) (t : UInt32) (m : Msg) : asC p (S.keep t m) = asC p S := by unfold AS.keep; split <;> rfl
theorem keep_have {S : AS Msg} {t : UInt32} {m : Msg} (h : (S.kept t).isSome = true) : S.keep t m = S := by
  unfold AS.keep; rw [if_neg]
  rintro ⟨h1, -⟩
  cases hk : S.kept t <;> simp_all
set_option maxHeartbeats 4000000 in
theorem receive_fn (b : Nat) (p : AP) (S : AS Msg) (t : UInt32) (st : UInt16) (kd : UInt32) (bs : Bs) (hw : S.Win 32) (L : List SA) :
    Fn Try.prog 36 [pt b 0, v32 t, .agg (msC st kd (.slice bs.a bs.l.length bs.cap))] (aB b p S :: aM p S :: SA.dat ((st, kd, bs) : Msg) :: L)
      (fun v L' => ∃ o : Sl Msg, v = o.v ∧ o.l = (S.recv t (st, kd, bs)).1 ∧ L' = SA.dat o :: aB b p (S.recv t (st, kd, bs)).2 :: aM p (S.recv t (st, kd, bs)).2 :: L) := by
  refine Fn.of (N := 74) Try.func36 rfl rfl ?_
  intro Xh
  refine TC.seq (TC.region ?_)
  refine TL.eff rfl rfl rfl (X.boxA rfl rfl) ?_
  rintro _ _ ⟨b5, rfl, rfl⟩
  refine TL.sg ?_
  refine TL.nil (TQ.next ?_)
  refine TC.cutF (ι := Unit) [] (fun _ => True) (fun _ => []) (fun _ => [SA.mapD p.mb (S.keep t (st, kd, bs)).kept]) (Ao := [SA.mapD p.mb S.kept, SA.dat ((st, kd, bs) : Msg)]) (Pulls.cons pul (Pulls.cons pul Pulls.nil)) ?_ ?_
  · rintro L' hL'
    simp only [List.cons_append, List.nil_append] at hL'
    subst hL'
    refine TC.seq (TC.region ?_)
    refine TL.mv ?_
    refine TL.nc ?_
    refine TL.val rfl rfl rfl (by first | exact Y.fieldAddrJ rfl fo68_7 rfl nqq | exact Y.fieldAddr rfl fo68_7 rfl nqq) ?_
    refine TL.val rfl rfl rfl (Y.load rfl sc63 rfl celD) ?_
    refine TL.as (.map (some p.mb)) (by rfl) ?_
    refine TL.mv ?_
    refine TL.val rfl rfl rfl (Y.lookup rfl mapT Try.underlying22 zMsg rfl rfl (by exact inn)) ?_
    refine TL.as (.tuple #[.agg (lkC (S.kept t)), .bool (S.kept t).isSome]) (by (rcases S.kept t with _ | m <;> rfl)) ?_
    refine TL.mv ?_
    refine TL.val rfl rfl rfl (Y.extract rfl rfl rfl) ?_
    refine TL.val rfl rfl rfl (Y.extract rfl rfl rfl) ?_
    refine TL.eff rfl rfl rfl (X.alloc rfl zc51) ?_
    rintro _ _ ⟨b7, rfl, rfl⟩
    refine TL.eff0 rfl rfl (X.storeAll rfl (by kernel_rfl) (lkC_size _) rfl rfl (lkC_one _) pul (by rfl)) ?_
    rintro _ _ rfl
    refine TL.sg ?_
    refine TL.nil (TQ.next (TC.seq (TC.region ?_)))
    refine TL.mv ?_
    refine TL.val rfl rfl rfl (Y.not rfl rfl) ?_
    refine TL.mv ?_
    refine TL.case (fun g2_2 => ?_) (fun g2_2 => ?_)
    · try simp only [zA, zB, zC, zD, zG, zH, zI, zJ] at g2_2
      refine TL.mg ?_
      refine TL.mg ?_
      refine TL.valG rfl rfl rfl (Y.nilCheck rfl rfl) ?_
      refine TL.valG rfl rfl rfl (by first | exact Y.fieldAddrJ rfl fo68_6 rfl nqq | exact Y.fieldAddr rfl fo68_6 rfl nqq) ?_
      refine TL.valG rfl rfl rfl (Y.load rfl sc22 rfl cel32) ?_
      refine TL.as (v32 S.top) (by rfl) ?_
      refine TL.valG rfl rfl rfl (Y.bin rfl rfl rfl (br_sub32)) ?_
      refine TL.valG rfl rfl rfl (Y.bin rfl rfl rfl (br_sub32 (y := 1))) ?_
      refine TL.valG rfl rfl rfl (Y.bin rfl rfl rfl (br_ltN (n := 32))) ?_
      refine TL.val rfl rfl rfl (Y.pick_t rfl rfl rfl) ?_
      refine TL.nil (TQ.next ?_)
      refine TC.cond rfl (fun c0 => ?_) (fun c0 => ?_)
      · try simp only [zA, zB, zC, zD, zE, zF, zG, zH, zI, zJ] at c0
        have hk : S.keep t (st, kd, bs) = { S with kept := mput S.kept t (st, kd, bs) } := by
          unfold AS.keep; rw [if_pos]
          first
          | exact ⟨by simpa using g2_2, UInt32.lt_iff_toNat_lt.2 (by simpa using c0)⟩
        rw [hk]
        refine TC.draws 6 _ (by kernel_rfl) (by kernel_rfl) (fun _ h => h) ?_
        refine TA.tk 0 rfl rfl (Y.move rfl rfl) ?_
        refine TA.tk 1 rfl rfl (Y.nilCheck rfl rfl) ?_
        refine TA.tk 2 rfl rfl (by first | exact Y.fieldAddrJ rfl fo68_7 rfl nqq | exact Y.fieldAddr rfl fo68_7 rfl nqq) ?_
        refine TA.tk 3 rfl rfl (Y.load rfl sc63 rfl celD) ?_
        refine TA.as (.map (some p.mb)) (by rfl) ?_
        refine TA.tk 4 rfl rfl (Y.move rfl rfl) ?_
        refine TA.tk 5 rfl rfl (Y.loadAgg rfl ag51 rfl (Cels.all (cs := msC st kd (.slice bs.a bs.l.length bs.cap)) inn) (by first | rfl | ((try simp only [List.length_map, List.length_set, List.length_replicate]); omega))) ?_
        refine TA.as (.agg (msC st kd (.slice bs.a bs.l.length bs.cap))) (by rfl) ?_
        refine TA.one0 6 (by kernel_rfl) rfl rfl rfl (X.mapPut (v := ((st, kd, bs) : Msg)) rfl mapT Try.underlying22 rfl rfl rfl rfl pul pul) ?_
        rintro _ _ rfl
        refine ⟨(Or.inl (by kernel_rfl)), ?_⟩
        refine TA.done (by kernel_rfl) ?_
        try rw [keep_have (by assumption : (S.kept t).isSome = true)]
        refine TQ.meetF (ι := Unit) (I := fun _ => True) (C := fun (_ : Unit) => []) (U := []) (()) (trivial) trivial grw ?_ ?_
        · kernel_rfl
        · simp only [List.cons_append, List.nil_append]
          exact ett
      · try simp only [zA, zB, zC, zD, zE, zF, zG, zH, zI, zJ] at c0
        have hk : S.keep t (st, kd, bs) = S := by
          unfold AS.keep; rw [if_neg]
          rintro ⟨h1, h2⟩
          have h3 := UInt32.lt_iff_toNat_lt.1 h2
          simp_all <;> omega
        rw [hk]
        refine TC.skip ?_
        try rw [keep_have (by assumption : (S.kept t).isSome = true)]
        refine TQ.meetF (ι := Unit) (I := fun _ => True) (C := fun (_ : Unit) => []) (U := []) (()) (trivial) trivial grw ?_ ?_
        · kernel_rfl
        · simp only [List.cons_append, List.nil_append]
          exact ett
    · try simp only [zA, zB, zC, zD, zG, zH, zI, zJ] at g2_2
      refine TL.not rfl rfl rfl ?_
      refine TL.not rfl rfl rfl ?_
      refine TL.not rfl rfl rfl ?_
      refine TL.not rfl rfl rfl ?_
      refine TL.not rfl rfl rfl ?_
      refine TL.not rfl rfl rfl ?_
      refine TL.not rfl rfl rfl ?_
      refine TL.not rfl rfl rfl ?_
      refine TL.val rfl rfl rfl (Y.pick_f rfl rfl rfl) ?_
      refine TL.nil (TQ.next ?_)
      refine TC.cond_f rfl ?_
      refine TC.skip ?_
      try rw [keep_have (by assumption : (S.kept t).isSome = true)]
      refine TQ.meetF (ι := Unit) (I := fun _ => True) (C := fun (_ : Unit) => []) (U := []) (()) (trivial) trivial grw ?_ ?_
      · kernel_rfl
      · simp only [List.cons_append, List.nil_append]
        exact ett
  · rintro ⟨⟩ - F' L' rfl hL'
    simp only [List.cons_append, List.nil_append] at hL'
    subst hL'
    obtain ⟨S1, hS1⟩ : ∃ S1, S1 = S.keep t (st, kd, bs) := ⟨_, rfl⟩
    have hw1 : S1.Win 32 := by rw [hS1]; exact keep_win hw
    rw [show S.recv t (st, kd, bs) = AS.deliver 33 S1 by rw [hS1]; rfl, show aB b p S = aB b p (S.keep t (st, kd, bs)) by simp only [aB, keep_asC], ← hS1]
    refine TC.seq (TC.region ?_)
    refine TL.sg ?_
    refine TL.nil (TQ.next (TC.block ?_))
    refine TC.to (Ent.trans (Ent.nilOwn 51 3) Ent.rdss0) ?_
    refine TC.loopF (ι := Nat × AS Msg × Option Addr × Nat × List Msg) [6] (fun i => i.2.1.Win i.1 ∧ i.1 + i.2.2.2.2.length = 32 ∧ AS.deliver 33 S1 = (i.2.2.2.2 ++ (AS.deliver (i.1 + 1) i.2.1).1, (AS.deliver (i.1 + 1) i.2.1).2)) (fun i => [(9, some (.slice i.2.2.1 i.2.2.2.2.length i.2.2.2.1))]) (fun i => [aB b p i.2.1, aM p i.2.1, SA.owns 51 3 (.slice i.2.2.1 i.2.2.2.2.length i.2.2.2.1) i.2.2.2.2.length (Dat.cs i.2.2.2.2), SA.rdss (i.2.2.2.2.flatMap Dat.g)]) (fun i => i.1) ((32, S1, none, 0, [])) (⟨hw1, rfl, rfl⟩) ⟨rfl, trivial⟩ (Pulls.cons pul (Pulls.cons pul (Pulls.cons pul (Pulls.cons pul Pulls.nil)))) ?_
    rintro ⟨w, S2, ga, gc, got⟩ ⟨hw2, hn2, hd2⟩ F' L' rfl hL'
    simp only [List.cons_append, List.nil_append] at hL'
    subst hL'
    simp only at hw2 hn2 hd2 ⊢
    refine TC.block (TC.seq ?_)
    refine TC.draws 14 [aB b p S2, aM p S2] (by kernel_rfl) (by kernel_rfl) hld ?_
    refine TA.tk 0 rfl rfl (Y.move rfl rfl) ?_
    refine TA.tk 1 rfl rfl (Y.nilCheck rfl rfl) ?_
    refine TA.tk 2 rfl rfl (by first | exact Y.fieldAddrJ rfl fo68_7 rfl nqq | exact Y.fieldAddr rfl fo68_7 rfl nqq) ?_
    refine TA.tk 3 rfl rfl (Y.load rfl sc63 rfl celD) ?_
    refine TA.as (.map (some p.mb)) (by rfl) ?_
    refine TA.tk 4 rfl rfl (Y.move rfl rfl) ?_
    refine TA.tk 5 rfl rfl (Y.nilCheck rfl rfl) ?_
    refine TA.tk 6 rfl rfl (by first | exact Y.fieldAddrJ rfl fo68_6 rfl nqq | exact Y.fieldAddr rfl fo68_6 rfl nqq) ?_
    refine TA.tk 7 rfl rfl (Y.load rfl sc22 rfl cel32) ?_
    refine TA.as (v32 S2.top) (by rfl) ?_
    refine TA.tk 8 rfl rfl (Y.bin rfl rfl rfl (br_add32 (y := 1))) ?_
    refine TA.tk 9 rfl rfl (Y.lookup rfl mapT Try.underlying22 zMsg rfl rfl (by exact inn)) ?_
    refine TA.as (.tuple #[.agg (lkC (S2.kept (S2.top + 1))), .bool (S2.kept (S2.top + 1)).isSome]) (by (rcases S2.kept (S2.top + 1) with _ | m <;> rfl)) ?_
    refine TA.tk 10 rfl rfl (Y.move rfl rfl) ?_
    refine TA.tk 11 rfl rfl (Y.extract rfl rfl rfl) ?_
    refine TA.tp 12 rfl rfl (Y.extract rfl rfl rfl) ?_
    refine TA.one 13 (by kernel_rfl) rfl rfl rfl rfl (X.alloc rfl zc51) ?_
    rintro _ _ ⟨b10, rfl, rfl⟩
    refine ⟨(Or.inr hld), ?_⟩
    refine TA.one0 14 (by kernel_rfl) rfl rfl rfl (X.storeAll rfl (by kernel_rfl) (lkC_size _) rfl rfl (lkC_one _) pul (by rfl)) ?_
    rintro _ _ rfl
    refine ⟨(Or.inl (by kernel_rfl)), ?_⟩
    refine TA.tp 15 rfl rfl (Y.assign rfl rfl) ?_
    refine TA.done (by kernel_rfl) ?_
    refine TQ.next (TC.seq (TC.seq (TC.region ?_)))
    refine TL.mv ?_
    refine TL.val rfl rfl rfl (Y.not rfl rfl) ?_
    refine TL.nil (TQ.next ?_)
    refine TC.cond rfl (fun c1 => ?_) (fun c1 => ?_)
    · try simp only [zA, zB, zC, zD, zE, zF, zG, zH, zI, zJ] at c1
      have hnone : S2.kept (S2.top + 1) = none := by simpa using c1
      rw [deliver_none _ hnone] at hd2
      rw [hd2]
      refine TC.to (Ent.mkOwn (a := ga) (l := got) pul pul rfl rfl rfl) ?_
      refine TC.seq (TC.region ?_)
      refine TL.mv ?_
      refine TL.sg ?_
      refine TL.nil (TQ.next (TC.ret (TQ.then_ret (TQ.block_ret (TQ.then_ret (TQ.block_ret ?_))))))
      refine TQ.retE (res1 rfl rfl) (⟨⟨ga, gc, got⟩, rfl, by simp, rfl⟩) ?_
      exact ett
    · try simp only [zA, zB, zC, zD, zE, zF, zG, zH, zI, zJ] at c1
      obtain ⟨m, hm⟩ : ∃ m, S2.kept (S2.top + 1) = some m := Option.isSome_iff_exists.1 (by simpa using c1)
      obtain ⟨w', rfl⟩ := Win_pos hw2 hm
      rw [deliver_some _ hm] at hd2
      rw [hm]
      refine TC.to ((Pull.ent (A := aM p S2) pul).trans (Ent.mapGet hm)) ?_
      refine TC.skip (TQ.next (TC.seq (TC.region ?_)))
      refine TL.mv ?_
      refine TL.nc ?_
      refine TL.val rfl rfl rfl (by first | exact Y.fieldAddrJ rfl fo68_6 rfl nqq | exact Y.fieldAddr rfl fo68_6 rfl nqq) ?_
      refine TL.val rfl rfl rfl (Y.load rfl sc22 rfl cel32) ?_
      refine TL.as (v32 S2.top) (by rfl) ?_
      refine TL.val rfl rfl rfl (Y.bin rfl rfl rfl (br_add32 (y := 1))) ?_
      refine TL.nc ?_
      refine TL.val rfl rfl rfl (by first | exact Y.fieldAddrJ rfl fo68_6 rfl nqq | exact Y.fieldAddr rfl fo68_6 rfl nqq) ?_
      refine TL.eff0 rfl rfl (X.store (cs' := asC p { S2 with top := S2.top + 1 }) rfl (by kernel_rfl) rfl rfl rfl pul (by show 6 < 17; decide) rfl) ?_
      rintro _ _ rfl
      refine TL.nil (TQ.next (TC.seq ?_))
      refine TC.draws 8 _ (by kernel_rfl) (by kernel_rfl) (fun _ h => h) ?_
      refine TA.tp 0 rfl rfl (Y.move rfl rfl) ?_
      refine TA.tp 1 rfl rfl (Y.nilCheck rfl rfl) ?_
      refine TA.tp 2 rfl rfl (by first | exact Y.fieldAddrJ rfl fo68_7 rfl nqq | exact Y.fieldAddr rfl fo68_7 rfl nqq) ?_
      refine TA.tk 3 rfl rfl (Y.load rfl sc63 rfl celD) ?_
      refine TA.as (.map (some p.mb)) (by rfl) ?_
      refine TA.tp 4 rfl rfl (Y.move rfl rfl) ?_
      refine TA.tp 5 rfl rfl (Y.nilCheck rfl rfl) ?_
      refine TA.tp 6 rfl rfl (by first | exact Y.fieldAddrJ rfl fo68_6 rfl nqq | exact Y.fieldAddr rfl fo68_6 rfl nqq) ?_
      refine TA.tk 7 rfl rfl (Y.load rfl sc22 rfl cel32) ?_
      refine TA.as (v32 (S2.top + 1)) (by rfl) ?_
      refine TA.one0 8 (by kernel_rfl) rfl rfl rfl (X.mapDel (β := Msg) (m := S2.kept) rfl mapT Try.underlying22 rfl rfl pul) ?_
      rintro _ _ rfl
      refine ⟨(Or.inl (by kernel_rfl)), ?_⟩
      refine TA.done (by kernel_rfl) ?_
      refine TQ.next (TC.region ?_)
      refine TL.mv ?_
      refine TL.val rfl rfl rfl (Y.loadAgg rfl ag51 rfl (Cels.all (cs := lkC (some m)) inn) (by first | rfl | ((try simp only [List.length_map, List.length_set, List.length_replicate]); omega))) ?_
      refine TL.as (.agg (Dat.c m).toArray) (by rfl) ?_
      refine TL.eff rfl rfl rfl (X.litD (sz := 3) m rfl Try.underlying28 (by kernel_rfl) rfl rfl (by decide)) ?_
      rintro _ _ ⟨g72, rfl, rfl⟩
      refine TL.eff rfl rfl rfl (X.appendS rfl el28 rfl pul rfl (by first | exact Src.owns Try.underlying28 inn | exact Src.rds Try.underlying28 inn | exact Src.reads (by assumption) Try.underlying28 inn) (by simp only [maxLen]; omega) (by omega)) ?_
      rintro _ _ ⟨a73, c73, rfl, rfl⟩
      refine TL.sg ?_
      refine TL.nil ?_
      refine TQ.to (Ent.addEl (x := m) (ys := got) pul pul) ?_
      rw [show Dat.cs got ++ Dat.c m = Dat.cs (got ++ [m]) by rw [Dat.cs_app]; simp [Dat.cs]; rfl, show got.length + 1 = (got ++ [m]).length by simp]
      refine TQ.block_normal ?_
      refine TQ.loopF ((w', S2.step1, a73, c73, got ++ [m])) (⟨Win_next hw2, by rw [List.length_append]; show w' + (got.length + 1) = 32; omega, by rw [hd2]; simp⟩) (by show w' < w' + 1; omega) ⟨rfl, trivial⟩ grw ?_ ?_ ?_
      · kernel_rfl
      · rfl
      · simp only [List.cons_append, List.nil_append]
        exact ett
end ac
end Go.Proofs.Ytomplpdeeomehaa

