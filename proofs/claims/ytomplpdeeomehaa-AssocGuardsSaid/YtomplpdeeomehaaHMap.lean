/- Maps from uint32 to structs of data, as functions. No program is named. -/
import Derived.Test.YtomplpdeeomehaaHScope
import Derived.MapKept
namespace Go.Proofs.Ytomplpdeeomehaa
set_option linter.unusedVariables false
set_option linter.unusedSimpArgs false
open Go.RowKit Go.MapKept
section
variable {β : Type} [Dat β]
/-- what a map's entries are -/
def EntsOf (es : Array MapEntry) (l : List (UInt32 × β)) : Prop := es.toList.map (fun e => (e.key, e.val)) = l.map fun x => (v32 x.1, Value.agg (Dat.c x.2).toArray)
def mget (l : List (UInt32 × β)) (k : UInt32) : Option β := (l.find? fun x => x.1 == k).map (·.2)
/-- a map of one's own that says m, all of whose values can be read -/
def SA.mapD (b : Nat) (m : UInt32 → Option β) : SA where
  p w O R := O b ∧ ∃ (es : Array MapEntry) (clock : Nat) (l : List (UInt32 × β)), w.heap[b]? = some (.map es clock) ∧ EntsOf es l ∧ (∀ k, m k = mget l k) ∧ (l.map fun x : UInt32 × β => x.1).Nodup ∧ (SA.rdss (l.flatMap fun x => Dat.g x.2)).p w (fun _ => False) (fun k => R k ∧ k ≠ b)
  loc := by
    rintro w w' O R ⟨hO, es, clock, l, h1, h2, h3, h4, h5⟩ hg
    exact ⟨hO, es, clock, l, (hg.block b (Array.getElem?_eq_some_iff.1 h1).1 (.inl hO)).trans h1, h2, h3, h4, (SA.rdss _).loc h5 (hg.mono fun k _ hk => hk.elim (fun h => h.elim) fun h => .inr h.1)⟩
omit [Dat β] in
theorem key_ne {l : List (UInt32 × β)} (hn : (l.map (·.1)).Nodup) {i j : Nat} (hij : i < j) {x y : UInt32 × β} (hx : l[i]? = some x) (hy : l[j]? = some y) : x.1 ≠ y.1 := by
  obtain ⟨hi, hxe⟩ := List.getElem?_eq_some_iff.1 hx
  obtain ⟨hj, hye⟩ := List.getElem?_eq_some_iff.1 hy
  have := List.pairwise_iff_getElem.1 hn i j (by simpa using hi) (by simpa using hj) hij
  simpa [hxe, hye] using this
omit [Dat β] in
theorem mget_some {l : List (UInt32 × β)} {k : UInt32} {x : β} (h : mget l k = some x) : ∃ i : Nat, l[i]? = some (k, x) := by
  unfold mget at h
  cases hf : l.find? fun x => x.1 == k with
  | none => rw [hf] at h; cases h
  | some y =>
    rw [hf] at h
    obtain ⟨i, hi⟩ := List.mem_iff_getElem?.1 (List.mem_of_find?_eq_some hf)
    have hk := List.find?_some hf
    simp only [beq_iff_eq] at hk
    cases h
    exact ⟨i, by rw [hi, ← hk]⟩
omit [Dat β] in
theorem mget_at {l : List (UInt32 × β)} (hn : (l.map (·.1)).Nodup) {i : Nat} {k : UInt32} {x : β} (h : l[i]? = some (k, x)) : mget l k = some x := by
  unfold mget
  have : l.find? (fun x => x.1 == k) = some (k, x) := by
    rw [List.find?_eq_some_iff_getElem]
    obtain ⟨hi, he⟩ := List.getElem?_eq_some_iff.1 h
    refine ⟨by simp, i, hi, he, fun j hj => ?_⟩
    have hjl : j < l.length := by omega
    have := key_ne hn hj (List.getElem?_eq_getElem hjl) h
    simp [this]
  rw [this]; rfl
omit [Dat β] in
theorem mget_none {l : List (UInt32 × β)} {k : UInt32} : mget l k = none ↔ ∀ x ∈ l, x.1 ≠ k := by
  unfold mget
  rw [Option.map_eq_none_iff, List.find?_eq_none]
  simp
theorem EntsOf.get {es : Array MapEntry} {l : List (UInt32 × β)} (h : EntsOf es l) {i : Nat} {e : MapEntry} (he : es[i]? = some e) : ∃ k x, l[i]? = some (k, x) ∧ e.key = v32 k ∧ e.val = .agg (Dat.c x).toArray := by
  have := congrArg (fun q => q[i]?) h
  simp only [List.getElem?_map, Array.getElem?_toList, he, Option.map_some] at this
  cases hl : l[i]? with
  | none => rw [hl] at this; cases this
  | some y =>
    rw [hl] at this
    simp only [Option.map_some, Option.some.injEq, Prod.mk.injEq] at this
    exact ⟨y.1, y.2, rfl, this.1, this.2⟩
theorem EntsOf.isKey {es : Array MapEntry} {l : List (UInt32 × β)} (h : EntsOf es l) : ∀ x ∈ es.toList, IsKey (.int .u32) x.key := fun x hx => by
  obtain ⟨i, hi⟩ := List.mem_iff_getElem?.1 hx
  obtain ⟨k, y, -, hk, -⟩ := h.get (by simpa using hi)
  rw [hk]; rfl
theorem v32_inj {a b : UInt32} (h : v32 a = v32 b) : a = b := by
  simp only [v32, Value.int.injEq, true_and] at h
  exact UInt32.toNat_inj.1 (by omega)
/-- how a key is found -/
theorem EntsOf.find {es : Array MapEntry} {l : List (UInt32 × β)} (h : EntsOf es l) (hn : (l.map (·.1)).Nodup) (k : UInt32) :
    (Instr.findNow (.int .u32) (v32 k) es.toList 0 = some none ∧ mget l k = none) ∨ ∃ j e x, Instr.findNow (.int .u32) (v32 k) es.toList 0 = some (some (j, .agg (Dat.c x).toArray)) ∧ es[j]? = some e ∧ e.key = v32 k ∧ l[j]? = some (k, x) ∧ mget l k = some x := by
  rcases findNow_spec (k := v32 k) (d := .int .u32) rfl es.toList 0 h.isKey with ⟨h1, h2⟩ | ⟨j, e, h1, h2, h3⟩
  · refine .inl ⟨h1, mget_none.2 fun x hx e => ?_⟩
    obtain ⟨i, hi⟩ := List.mem_iff_getElem?.1 hx
    have := congrArg (fun q => q[i]?) h
    simp only [List.getElem?_map, hi, Option.map_some] at this
    cases he : es.toList[i]? with
    | none => rw [he] at this; cases this
    | some y =>
      rw [he] at this
      simp only [Option.map_some, Option.some.injEq, Prod.mk.injEq] at this
      exact h2 y (List.mem_of_getElem? he) (by rw [this.1, e])
  · have he : es[j]? = some e := by simpa using h2
    obtain ⟨k', x, hl, hk, hv⟩ := h.get he
    have hkk : k' = k := v32_inj (hk.symm.trans h3)
    subst hkk
    refine .inr ⟨j, e, x, ?_, he, hk, hl, mget_at hn hl⟩
    rw [h1, hv, Nat.zero_add]
theorem EntsOf.push {es : Array MapEntry} {l : List (UInt32 × β)} (h : EntsOf es l) (k : UInt32) (x : β) (c : Nat) : EntsOf (es.push { key := v32 k, val := .agg (Dat.c x).toArray, born := c }) (l ++ [(k, x)]) := by
  unfold EntsOf at *
  rw [Array.toList_push, List.map_append, h, List.map_append]; rfl
theorem EntsOf.set {es : Array MapEntry} {l : List (UInt32 × β)} (h : EntsOf es l) {i : Nat} {e : MapEntry} {k : UInt32} {y : β} (x : β) (he : es[i]? = some e) (hl : l[i]? = some (k, y)) : EntsOf (es.modify i fun e => { e with key := v32 k, val := .agg (Dat.c x).toArray }) (l.set i (k, x)) := by
  unfold EntsOf at *
  apply List.ext_getElem?
  intro j
  have hj := congrArg (fun q => q[j]?) h
  simp only [List.getElem?_map, Array.getElem?_toList, Array.getElem?_modify, List.getElem?_set] at hj ⊢
  by_cases hij : i = j
  · subst hij
    have hi := (List.getElem?_eq_some_iff.1 hl).1
    simp [he, hi]
  · simp only [hij, if_false]; exact hj
theorem EntsOf.erase {es : Array MapEntry} {l : List (UInt32 × β)} (h : EntsOf es l) (i : Nat) : EntsOf (es.eraseIdxIfInBounds i) (l.eraseIdx i) := by
  unfold EntsOf at *
  have hl : es.toList.length = l.length := by simpa using congrArg List.length h
  have e0 : (es.eraseIdxIfInBounds i).toList = es.toList.eraseIdx i := by
    unfold Array.eraseIdxIfInBounds
    split
    · simp
    · rename_i hi; rw [List.eraseIdx_of_length_le (by simpa using hi)]
  rw [e0]
  apply List.ext_getElem?
  intro j
  have h1 := congrArg (fun q => q[j]?) h
  have h2 := congrArg (fun q => q[j + 1]?) h
  simp only [List.getElem?_map] at h1 h2
  simp only [List.getElem?_map, List.getElem?_eraseIdx]
  split
  · exact h1
  · exact h2
omit [Dat β] in
theorem mget_push {l : List (UInt32 × β)} {k q : UInt32} {x : β} (h : mget l k = none) : mget (l ++ [(k, x)]) q = if q = k then some x else mget l q := by
  unfold mget at *
  rw [List.find?_append]
  by_cases hq : q = k
  · subst hq
    rw [Option.map_eq_none_iff] at h
    rw [h]; simp
  · have : ([(k, x)] : List (UInt32 × β)).find? (fun x => x.1 == q) = none := by simp [Ne.symm hq]
    rw [this, Option.or_none, if_neg hq]
omit [Dat β] in
theorem mget_set {l : List (UInt32 × β)} (hn : (l.map (·.1)).Nodup) {i : Nat} {k q : UInt32} {x y : β} (h : l[i]? = some (k, y)) : mget (l.set i (k, x)) q = if q = k then some x else mget l q := by
  have hi := (List.getElem?_eq_some_iff.1 h).1
  have hk : (l.set i (k, x)).map (·.1) = l.map (·.1) := by
    apply List.ext_getElem?
    intro j
    simp only [List.getElem?_map, List.getElem?_set]
    by_cases hij : i = j
    · subst hij
      have he := (List.getElem?_eq_some_iff.1 h).2
      simp [hi, he]
    · simp [hij]
  by_cases hq : q = k
  · subst hq
    rw [if_pos rfl]
    exact mget_at (by rw [hk]; exact hn) (i := i) (by rw [List.getElem?_set]; simp [hi])
  · rw [if_neg hq]
    cases hm : mget l q with
    | none =>
      rw [mget_none] at hm ⊢
      intro z hz
      rcases List.mem_or_eq_of_mem_set hz with hz | rfl
      · exact hm z hz
      · exact fun e => hq e.symm
    | some z =>
      obtain ⟨j, hj⟩ := mget_some hm
      have hij : i ≠ j := fun e => by subst e; rw [h] at hj; cases hj; exact hq rfl
      exact mget_at (by rw [hk]; exact hn) (i := j) (by rw [List.getElem?_set]; simp [hij, hj])
omit [Dat β] in
theorem mget_erase {l : List (UInt32 × β)} (hn : (l.map (·.1)).Nodup) {i : Nat} {k q : UInt32} {y : β} (h : l[i]? = some (k, y)) : mget (l.eraseIdx i) q = if q = k then none else mget l q := by
  have hs : (l.eraseIdx i).Sublist l := List.eraseIdx_sublist _ _
  have hn' : ((l.eraseIdx i).map (·.1)).Nodup := (hs.map _).nodup hn
  have hmem : ∀ z ∈ l.eraseIdx i, z.1 ≠ k := by
    intro z hz e
    obtain ⟨j, hj, hji⟩ := List.mem_eraseIdx_iff_getElem?.1 hz
    rcases Nat.lt_or_ge j i with hlt | hge
    · exact key_ne hn hlt hji h e
    · exact key_ne hn (show i < j by omega) h hji e.symm
  by_cases hq : q = k
  · subst hq
    rw [if_pos rfl]
    exact mget_none.2 hmem
  · rw [if_neg hq]
    cases hm : mget l q with
    | none => exact mget_none.2 fun z hz => mget_none.1 hm z (hs.subset hz)
    | some z =>
      obtain ⟨j, hj⟩ := mget_some hm
      have hij : j ≠ i := fun e => by subst e; rw [h] at hj; cases hj; exact hq rfl
      obtain ⟨j', hj'⟩ := List.mem_iff_getElem?.1 (List.mem_eraseIdx_iff_getElem?.2 ⟨j, hij, hj⟩)
      exact mget_at hn' hj'
end
section
variable {P : Program} {N : Nat} {F : FE} {As L L0 : List SA} {o : Oper} {x y z : Operand} {β : Type} [Dat β]
theorem In.p {A : SA} {As : List SA} {w : World} (h : In A As) (hw : Holds As w) : ∃ O R, A.p w O R := hw A h
theorem Y.lookup {t kt et b : Nat} {m : UInt32 → Option β} {k : UInt32} {zc : Array Value} (ho : o.op = .lookup t x y true) (ht : P.underlying t = some (.map kt et)) (hk : P.underlying kt = some (.int .u32)) (hz : ((P.info? et).bind (·.zero)) = some (.agg zc))
    (hx : evO F x = some (.map (some b))) (hy : evO F y = some (v32 k)) (hin : In (SA.mapD b m) As) : Yld P N o F As (.tuple #[(match m k with | some v => .agg (Dat.c v).toArray | none => .agg zc), .bool (m k).isSome]) := fun a w ha hw => by
  unfold execOp; rw [ho]
  replace hx := ha.eval hx
  replace hy := ha.eval hy
  generalize a.eval = ρ at hx hy ⊢
  obtain ⟨O, R, -, es, clock, l, hb, he, hm, hn, -⟩ := hw _ hin
  obtain ⟨inf, hinf, hzz⟩ := Option.bind_eq_some_iff.1 hz
  simp only [hx, hy]
  rcases he.find hn k with ⟨h1, h2⟩ | ⟨j, e, v, h1, -, -, -, h2⟩
  · have hmk : m k = none := (hm k).trans h2
    have hzv : (zeroValue et).run P w = .ok (.agg zc) w := by simp [zeroValue, typeInfo, hinf, hzz, go_sem]
    simp [Instr.lookup, run_underlying ht, Go.MapKept.run_getObj_map hb, run_checkKey (k := v32 k) hk rfl, run_findKey hk h1, hzv, hmk, Result.andThen]
  · have hmk : m k = some v := (hm k).trans h2
    simp [Instr.lookup, run_underlying ht, Go.MapKept.run_getObj_map hb, run_checkKey (k := v32 k) hk rfl, run_findKey hk h1, hmk, Result.andThen]
theorem Ent.mapGet {b : Nat} {m : UInt32 → Option β} {k : UInt32} {v : β} (h : m k = some v) : Ent (SA.mapD b m :: L) (SA.dat v :: SA.mapD b m :: L) := by
  have h1 : Ent (SA.mapD b m :: L) (SA.star (SA.dat v) (SA.mapD b m) :: L) := Ent.imp fun w O R hA => by
    obtain ⟨hO, es, clock, l, hb, he, hm, hn, hr⟩ := hA
    refine ⟨fun k => k = b, R, ⟨fun _ => False, fun k => R k ∧ k ≠ b, fun k => k = b, R, ?_, ⟨rfl, es, clock, l, hb, he, hm, hn, hr⟩, fun q hq => hq.elim, fun q hq => ⟨hq, fun hf => hf.2 hq⟩, fun q hq => hq.1, fun q hq => hq⟩, fun k hk => hk ▸ hO, fun _ h => .inr h⟩
    obtain ⟨i, hi⟩ := mget_some ((hm k).symm.trans h)
    exact fun q hq => hr q (List.mem_flatMap.2 ⟨(k, v), List.mem_of_getElem? hi, hq⟩)
  exact h1.trans (Ent.of_le (L := SA.star (SA.dat v) (SA.mapD b m) :: L) (L' := SA.dat v :: SA.mapD b m :: L) SA.Le.assoc)
theorem heapSet_fr {w : World} {b : Nat} (o : Obj) : Fr [b] w { w with heap := w.heap.setIfInBounds b o } := ⟨rfl, rfl, rfl, by simp, fun k hk hn => by
  have : b ≠ k := fun e => hn (by simp [e])
  simp [this]⟩
/-- a new map, with nothing in it -/
theorem X.makeMap {t : TypeId} (ho : o.op = .makeMap t none) : Eff P N o F L (fun v L' => ∃ b, v = .map (some b) ∧ L' = SA.mapD b (fun _ => (none : Option β)) :: L) := by
  refine ⟨by rw [ho]; simp, fun Y a w ha hw K Q hK => ?_⟩
  unfold Oper.wp execOp; rw [ho]
  have hr : (Instr.makeMap t none).run P w = .ok (.map (some w.heap.size)) (w.alloc (.map #[] 0)) := rfl
  simp only [Option.map_none, hr, Sem.run_bind, Result.andThen_ok, Sem.run_pure]
  refine hK _ _ _ ⟨_, rfl, rfl⟩ (St.up1 (hw.emp.upd fun O R _ _ => ⟨fun k => k = w.heap.size, fun _ => False, ⟨rfl, #[], 0, [], (heap_alloc w _).1, rfl, fun _ => rfl, List.nodup_nil, fun q hq => by simp at hq⟩, fun k hk => .inr (by subst hk; simp), by simp, Ag.fr ((Fr.refl [] _).alloc _) (by simp)⟩))
theorem rdss_mono {gs hs : List G} {w : World} {O O' R R' : Nat → Prop} (h : (SA.rdss gs).p w O R) (hR : ∀ k, R k → R' k) (hs' : ∀ q ∈ hs, q ∈ gs) : (SA.rdss hs).p w O' R' := fun q hq => ⟨fun hn k hk => hR k ((h q (hs' q hq)).1 hn k hk), (h q (hs' q hq)).2⟩
theorem mapD_step {Y : SA} {w w' : World} {b : Nat} {m m' : UInt32 → Option β} {gs : List G} (hw : St (Y :: SA.rdss gs :: SA.mapD b m :: L) w) (hf : Fr [b] w w')
    (h : ∀ es clock (l : List (UInt32 × β)), w.heap[b]? = some (.map es clock) → EntsOf es l → (∀ k, m k = mget l k) → (l.map fun x : UInt32 × β => x.1).Nodup →
      ∃ es' clock' l', w'.heap[b]? = some (.map es' clock') ∧ EntsOf es' l' ∧ (∀ k, m' k = mget l' k) ∧ (l'.map fun x : UInt32 × β => x.1).Nodup ∧ ∀ x ∈ l', x ∈ l ∨ ∀ q ∈ Dat.g x.2, q ∈ gs) :
    St (Y :: SA.mapD b m' :: L) w' := by
  have h1 : St (SA.star (SA.rdss gs) (SA.mapD b m) :: Y :: L) w := St.unstar (St.up2 (St.up2 hw))
  refine St.up1 (h1.upd fun O R hA _ => ?_)
  obtain ⟨O1, R1, O2, R2, hD, ⟨hO, es, clock, l, hb, he, hm, hn, hr⟩, r1, r2, r3, r4⟩ := hA
  obtain ⟨es', clock', l', hb', he', hm', hn', hsub⟩ := h es clock l hb he hm hn
  have hnb : ∀ k, R1 k → k ≠ b := fun k hk e => (r2 b hO).2 (e ▸ hk)
  refine ⟨fun k => k = b, fun k => R1 k ∨ R2 k, ⟨rfl, es', clock', l', hb', he', hm', hn', ?_⟩, fun k hk => .inl (hk ▸ (r2 b hO).1), fun k hk => .inr (.inl (hk.elim (r3 k) (r4 k))), Ag.fr hf (fun k hk e => by
    simp at e; subst e; exact hk (r2 k hO).1)⟩
  refine (SA.rdss _).loc (w := w) ?_ (Ag.fr hf (fun k hk e => by
    simp at e; subst e; exact hk.elim (fun h => h) fun h => h.2 rfl))
  intro q hq
  obtain ⟨x, hx, hq⟩ := List.mem_flatMap.1 hq
  rcases hsub x hx with hx | hx
  · have := hr q (List.mem_flatMap.2 ⟨x, hx, hq⟩)
    exact ⟨fun hn k hk => ⟨.inr (this.1 hn k hk).1, (this.1 hn k hk).2⟩, this.2⟩
  · have := hD q (hx q hq)
    exact ⟨fun hn k hk => ⟨.inl (this.1 hn k hk), hnb k (this.1 hn k hk)⟩, this.2⟩
def mput (m : UInt32 → Option β) (k : UInt32) (v : β) (q : UInt32) : Option β := if q = k then some v else m q
def mdel (m : UInt32 → Option β) (k : UInt32) (q : UInt32) : Option β := if q = k then none else m q
theorem X.mapPut {t kt et b : Nat} {m : UInt32 → Option β} {k : UInt32} {v : β} {vc : Array Value} (ho : o.op = .mapUpdate t x y z) (ht : P.underlying t = some (.map kt et)) (hk : P.underlying kt = some (.int .u32))
    (hx : evO F x = some (.map (some b))) (hy : evO F y = some (v32 k)) (hz : evO F z = some (.agg vc)) (hvc : vc = (Dat.c v).toArray) (h1 : Pull (SA.mapD b m) L L0) {L1 : List SA} (h2 : Pull (SA.dat v) L0 L1) : Eff P N o F L (fun _ L' => L' = SA.mapD b (mput m k v) :: L1) := by
  subst hvc
  refine ⟨by rw [ho]; simp, fun Y a w ha hw K Q hK => ?_⟩
  unfold Oper.wp execOp; rw [ho]
  replace hx := ha.eval hx
  replace hy := ha.eval hy
  replace hz := ha.eval hz
  generalize a.eval = ρ at hx hy hz ⊢
  have hst : St (Y :: SA.rdss (Dat.g v) :: SA.mapD b m :: L1) w := St.up1 ((Pull.there (B := Y) (Pull.there (B := SA.mapD b m) h2)).st (St.up1 ((Pull.there (B := Y) h1).st hw)))
  obtain ⟨O, R, ⟨-, es, clock, l, hb, he, hm, hn, -⟩, -⟩ := hst.tl.tl.hd
  simp only [hx, hy, hz]
  rcases he.find hn k with ⟨f1, f2⟩ | ⟨j, e, y0, f1, f2, f3, f4, f5⟩
  · have hr : (Instr.mapUpdate t (.map (some b)) (v32 k) (.agg (Dat.c v).toArray)).run P w = .ok () { w with heap := w.heap.setIfInBounds b (.map (es.push { key := v32 k, val := .agg (Dat.c v).toArray, born := clock }) (clock + 1)) } := by
      simp [Instr.mapUpdate, run_underlying ht, Go.MapKept.run_getObj_map hb, run_checkKey (k := v32 k) hk rfl, run_findKey hk f1, run_setObj_map _ hb, Result.andThen]
    generalize Instr.mapUpdate t _ _ _ = q at hr ⊢
    simp only [hr, Sem.run_bind, Result.andThen_ok, Sem.run_pure]
    refine hK _ _ _ rfl (mapD_step hst (heapSet_fr _) fun es' clock' l' hb' he' hm' hn' => ?_)
    rw [hb] at hb'
    obtain ⟨rfl, rfl⟩ : es = es' ∧ clock = clock' := by cases hb'; exact ⟨rfl, rfl⟩
    have hf2 : mget l' k = none := by rw [← hm', hm, f2]
    refine ⟨_, _, l' ++ [(k, v)], (heap_set hb).1, he'.push k v clock, fun q => by rw [mget_push hf2, ← hm']; rfl, ?_, fun x hx => ?_⟩
    · rw [List.map_append]
      refine List.nodup_append.2 ⟨hn', by simp, ?_⟩
      intro a ha c hc
      simp only [List.map_cons, List.map_nil, List.mem_singleton] at hc
      subst hc
      obtain ⟨x, hx, rfl⟩ := List.mem_map.1 ha
      exact mget_none.1 hf2 x hx
    · rcases List.mem_append.1 hx with hx | hx
      · exact .inl hx
      · rw [List.mem_singleton] at hx; subst hx; exact .inr fun q hq => hq
  · have hr : (Instr.mapUpdate t (.map (some b)) (v32 k) (.agg (Dat.c v).toArray)).run P w = .ok () { w with heap := w.heap.setIfInBounds b (.map (es.modify j fun e => { e with key := v32 k, val := .agg (Dat.c v).toArray }) clock) } := by
      simp [Instr.mapUpdate, run_underlying ht, Go.MapKept.run_getObj_map hb, run_checkKey (k := v32 k) hk rfl, run_findKey hk f1, f2, f3, run_keyThatStays (d := .int .u32) (k := v32 k) rfl, run_setObj_map _ hb, Result.andThen]
    generalize Instr.mapUpdate t _ _ _ = q at hr ⊢
    simp only [hr, Sem.run_bind, Result.andThen_ok, Sem.run_pure]
    refine hK _ _ _ rfl (mapD_step hst (heapSet_fr _) fun es' clock' l' hb' he' hm' hn' => ?_)
    rw [hb] at hb'
    obtain ⟨rfl, rfl⟩ : es = es' ∧ clock = clock' := by cases hb'; exact ⟨rfl, rfl⟩
    obtain ⟨k2, x2, g1, g2, -⟩ := he'.get f2
    have hkk : k2 = k := v32_inj (g2.symm.trans f3)
    subst hkk
    refine ⟨_, _, l'.set j (k2, v), (heap_set hb).1, he'.set v f2 g1, fun q => by rw [mget_set hn' g1, ← hm']; rfl, ?_, fun x hx => ?_⟩
    · have hk : (l'.set j (k2, v)).map (fun x : UInt32 × β => x.1) = l'.map fun x => x.1 := by
        apply List.ext_getElem?
        intro i
        simp only [List.getElem?_map, List.getElem?_set]
        by_cases hij : j = i
        · subst hij
          have hi := (List.getElem?_eq_some_iff.1 g1).1
          have he := (List.getElem?_eq_some_iff.1 g1).2
          simp [hi, he]
        · simp [hij]
      rw [hk]; exact hn'
    · rcases List.mem_or_eq_of_mem_set hx with hx | rfl
      · exact .inl hx
      · exact .inr fun q hq => hq
theorem X.mapDel {t kt kt' et b : Nat} {m : UInt32 → Option β} {k : UInt32} (ho : o.op = .call { callee := .builtin .delete, args := #[x, y], argTypes := #[t, kt'] }) (ht : P.underlying t = some (.map kt et)) (hk : P.underlying kt = some (.int .u32))
    (hx : evO F x = some (.map (some b))) (hy : evO F y = some (v32 k)) (h1 : Pull (SA.mapD b m) L L0) : Eff P N o F L (fun _ L' => L' = SA.mapD b (mdel m k) :: L0) := by
  refine ⟨by rw [ho]; simp, fun Y a w ha hw K Q hK => ?_⟩
  unfold Oper.wp execOp; rw [ho]
  replace hx := ha.eval hx
  replace hy := ha.eval hy
  have hst : St (Y :: SA.rdss [] :: SA.mapD b m :: L0) w := (((Ent.rdss0 (L := SA.mapD b m :: L0)).under Y).st (St.up1 ((Pull.there (B := Y) h1).st hw)))
  obtain ⟨O, R, ⟨-, es, clock, l, hb, he, hm, hn, -⟩, -⟩ := hst.tl.tl.hd
  have same : ∀ es', w.heap[b]? = some (.map es' clock) → { w with heap := w.heap.setIfInBounds b (.map es' clock) } = w := fun es' h => by
    have : w.heap.setIfInBounds b (.map es' clock) = w.heap := by
      apply Array.ext_getElem?
      intro i
      rw [Array.getElem?_setIfInBounds]
      split
      · rename_i e; subst e
        split
        · exact h.symm
        · rename_i hlt; rw [Array.getElem?_eq_none (by omega)]
      · rfl
    rw [this]
  rcases he.find hn k with ⟨f1, f2⟩ | ⟨j, e, y0, f1, f2, f3, f4, f5⟩
  · have hr : (Builtin.delete_ #[t, kt'] o.type #[.map (some b), v32 k]).run P w = .ok (.tuple #[]) { w with heap := w.heap.setIfInBounds b (.map es clock) } := by
      simp [Builtin.delete_, run_underlying ht, Go.MapKept.run_getObj_map hb, run_checkKey (k := v32 k) hk rfl, run_findKey hk f1, run_setObj_map _ hb, Result.andThen]
    generalize a.eval = ρ at hx hy ⊢
    simp [resolve, invoke, builtin, hx, hy, hr, Result.andThen, Oper.upon]
    refine hK _ _ _ rfl (mapD_step hst (heapSet_fr _) fun es' clock' l' hb' he' hm' hn' => ?_)
    rw [hb] at hb'
    obtain ⟨rfl, rfl⟩ : es = es' ∧ clock = clock' := by cases hb'; exact ⟨rfl, rfl⟩
    have hf2 : mget l' k = none := by rw [← hm', hm, f2]
    refine ⟨_, _, l', (heap_set hb).1, he', fun q => ?_, hn', fun x hx => .inl hx⟩
    show (if q = k then none else m q) = mget l' q
    by_cases hq : q = k
    · subst hq; rw [if_pos rfl, hf2]
    · rw [if_neg hq, hm']
  · have hr : (Builtin.delete_ #[t, kt'] o.type #[.map (some b), v32 k]).run P w = .ok (.tuple #[]) { w with heap := w.heap.setIfInBounds b (.map (es.eraseIdxIfInBounds j) clock) } := by
      simp [Builtin.delete_, run_underlying ht, Go.MapKept.run_getObj_map hb, run_checkKey (k := v32 k) hk rfl, run_findKey hk f1, run_setObj_map _ hb, Result.andThen]
    generalize a.eval = ρ at hx hy ⊢
    simp [resolve, invoke, builtin, hx, hy, hr, Result.andThen, Oper.upon]
    refine hK _ _ _ rfl (mapD_step hst (heapSet_fr _) fun es' clock' l' hb' he' hm' hn' => ?_)
    rw [hb] at hb'
    obtain ⟨rfl, rfl⟩ : es = es' ∧ clock = clock' := by cases hb'; exact ⟨rfl, rfl⟩
    obtain ⟨k2, x2, g1, g2, -⟩ := he'.get f2
    have hkk : k2 = k := v32_inj (g2.symm.trans f3)
    subst hkk
    have hs : (l'.eraseIdx j).Sublist l' := List.eraseIdx_sublist _ _
    exact ⟨_, _, l'.eraseIdx j, (heap_set hb).1, he'.erase j, fun q => by rw [mget_erase hn' g1, ← hm']; rfl, (hs.map _).nodup hn', fun x hx => .inl (hs.subset hx)⟩
end
end Go.Proofs.Ytomplpdeeomehaa
