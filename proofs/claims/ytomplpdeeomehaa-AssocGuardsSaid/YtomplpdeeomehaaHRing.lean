/- What slices.Delete does to a slice of one's own; a round of yield as one step. No program is named. -/
import Derived.Test.YtomplpdeeomehaaHLend
import Derived.Test.YtomplpdeeomehaaHStruct
namespace Go.Proofs.Ytomplpdeeomehaa
set_option linter.unusedVariables false
set_option linter.unusedSimpArgs false
open Go.RowKit
section
variable {κ : Ctx} {P : Program} {N : Nat} {F : FE} {As L L0 : List SA} {A : SA} {o : Oper} {x y z u : Operand} {v : Value}
/-- s[k:h:m] -/
theorem Y.slice3 {t e sz n cap k h m : Nat} {a : Option Addr} (ho : o.op = .slice t x (some y) (some z) (some u)) (hu : P.underlying t = some (.slice e)) (hs : (P.info? e).map (·.size) = some sz) (hx : evO F x = some (.slice a n cap)) (hy : evO F y = some (vN k)) (hz : evO F z = some (vN h)) (hm : evO F u = some (vN m)) (h1 : k ≤ h) (h2 : h ≤ m) (h3 : m ≤ cap) :
    Yld P N o F As (.slice (if m = k then a else a.map (·.add (k * sz))) (h - k) (m - k)) := fun a' w ha hw => by
  unfold execOp; rw [ho]
  replace hx := ha.eval hx
  replace hy := ha.eval hy
  replace hz := ha.eval hz
  replace hm := ha.eval hm
  generalize a'.eval = ρ at hx hy hz hm ⊢
  obtain ⟨inf, hinf, he⟩ := Option.map_eq_some_iff.1 hs
  subst he
  simp [hx, hy, hz, hm, Instr.sliceAt, Instr.slice, Instr.sliceBounds, Instr.sliceBound, asIntOf, run_underlying hu, sizeOf, typeInfo, hinf, go_sem, h1, h2, h3]
/-- 'append(s[:i], s[j:]...)' -/
theorem X.appendCut {t tx e e' sz bytes n cap g off i j : Nat} {z : Value} {cs : List Value} (ho : o.op = .call { callee := .builtin .append, args := #[x, y], argTypes := #[t, tx] }) (E : Elt P t e sz bytes z) (hk : P.underlying tx = some (.slice e'))
    (hx : evO F x = some (.slice (some ⟨g, off, none⟩) i cap)) (hp : Pull (SA.owns e sz (.slice (some ⟨g, off, none⟩) n cap) n cs) L L0) (hy : evO F y = some (cutV (some ⟨g, off, none⟩) cap j n sz)) (hij : i ≤ j) (hjn : j ≤ n) (hnc : n ≤ cap) :
    Eff P N o F L (fun v L' => v = .slice (some ⟨g, off, none⟩) (i + (n - j)) cap ∧ L' = SA.owns e sz (.slice (some ⟨g, off, none⟩) (i + (n - j)) cap) (i + (n - j)) (cs.take (i * sz) ++ cs.drop (j * sz)) :: L0) := by
  refine ⟨by rw [ho]; simp, fun Y a w ha hw K Q hK => ?_⟩
  unfold Oper.wp execOp; rw [ho]
  replace hx := ha.eval hx
  replace hy := ha.eval hy
  have hst := (Pull.there (B := Y) hp).st hw
  have hO := hst.isOwn
  have hsrc : Src P sz tx (cutV (some ⟨g, off, none⟩) cap j n sz) (n - j) (cs.drop (j * sz)) w := (hO.rd.drop hjn).src hk
  have hT : Own w e sz (.slice (some ⟨g, off, none⟩) i cap) i (cs.take (i * sz)) := hO.take (by omega)
  obtain ⟨w', hrun, r1, r2⟩ := run_app_fits (P := P) (ty := o.type) E hT hsrc (by omega)
  generalize a.eval = ρ at hx hy ⊢
  simp [resolve, invoke, builtin, hx, hy, hrun, Result.andThen, Oper.upon]
  exact hK _ _ _ ⟨rfl, rfl⟩ (St.up1 (hst.frS r2 fun O R hA => ⟨fun k hk => hA.1 k (by simpa [own] using hk), O, R, ⟨fun k hk => hA.1 k (by simpa [own] using hk), r1⟩, fun k hk => .inl hk, fun k hk => .inr (.inl hk)⟩))
/-- 'clear(s[m:k])', behind the end of s -/
theorem X.clearTail {t e sz bytes m k cap g off : Nat} {z : Value} {cs : List Value} (ho : o.op = .call { callee := .builtin .clear, args := #[x], argTypes := #[t] }) (E : Elt P t e sz bytes z)
    (hx : evO F x = some (cutV (some ⟨g, off, none⟩) cap m k sz)) (hp : Pull (SA.owns e sz (.slice (some ⟨g, off, none⟩) m cap) m cs) L L0) (h1 : m ≤ k) (h2 : k ≤ cap) (h3 : m < cap) :
    Eff P N o F L (fun _ L' => L' = SA.owns e sz (.slice (some ⟨g, off, none⟩) m cap) m cs :: L0) := by
  refine ⟨by rw [ho]; simp, fun Y a w ha hw K Q hK => ?_⟩
  unfold Oper.wp execOp; rw [ho]
  replace hx := ha.eval hx
  have hst := (Pull.there (B := Y) hp).st hw
  have hO := hst.isOwn
  have hcv : cutV (some ⟨g, off, none⟩) cap m k sz = .slice (some ⟨g, off + m * sz, none⟩) (k - m) (cap - m) := by
    unfold cutV; rw [if_neg (by omega)]; simp [Addr.add_lit]
  rw [hcv] at hx
  obtain ⟨arr, hb, hsz⟩ : ∃ arr, Blk w g arr e ∧ off + cap * sz ≤ arr.size := by
    rcases hO.val with ⟨hv, _⟩ | ⟨g', off', cap', arr, hv, hb1, _, _, e3, _⟩
    · cases hv
    · cases hv
      exact ⟨arr, hb1, e3⟩
  have hmul : m * sz + (k - m) * sz = k * sz := by rw [← Nat.add_mul]; congr 1; omega
  have hkc : k * sz ≤ cap * sz := Nat.mul_le_mul_right _ h2
  have hrun := run_clear_own (P := P) (ty := o.type) (cap := cap - m) (n := k - m) E hb (off := off + m * sz) (by omega) rfl
  have hl : (Builtin.zeroCells z.cells (k - m)).toList.length = (k - m) * sz := by
    obtain ⟨i, hi, hz0, rfl, rfl⟩ := info_parts E.hi
    rw [Array.length_toList, size_zeroCells, E.hz]
  have hfin := hO.beyond (Builtin.zeroCells z.cells (k - m)).toList (off + m * sz) (Nat.le_refl _) (by rw [hl]; omega)
  generalize a.eval = ρ at hx ⊢
  simp [resolve, invoke, builtin, hx, hrun, Result.andThen, Oper.upon]
  refine hK _ _ _ rfl (St.up1 (hst.frS (S := [g]) (Fr.setCells _ _ _ (Fr.refl _ _) (by simp)) fun O R hA => ⟨fun k hk => hA.1 k (by simpa [own] using hk), O, R, ⟨fun k hk => hA.1 k (by simpa [own] using hk), hfin⟩, fun k hk => .inl hk, fun k hk => .inr (.inl hk)⟩))
/-- a round, as one step -/
theorem X.yieldB {l n i : Nat} {arg : Nat → List Value} {S : Nat → SA} {Sx : SA} {f : Operand} {args : List Operand} {at' : Array TypeId} (hY : YS P l n arg S Sx) (ho : o.op = .call { callee := .value f, args := args.toArray, argTypes := at' })
    (hf : evO F f = some (yieldV l)) (hv : evA F args = some (arg i)) (hi : i < n) (hp : Pull (S i) L L0) :
    EffI P N o F L (fun v L' => ∃ bo, v = .bool bo ∧ L' = (cond bo (S (i + 1)) Sx) :: L0) := by
  intro r Y a w ha hw K Q hK
  refine X.yield hY ho hf hv hi hp r Y a w ha hw K Q fun v L' w' hR hw' => hK v L' w' ?_ hw'
  rcases hR with ⟨rfl, rfl⟩ | ⟨rfl, rfl⟩
  · exact ⟨true, rfl, rfl⟩
  · exact ⟨false, rfl, rfl⟩
/-- no way out of the loop -/
theorem Ent.self_app {L L' : List SA} (h : Ent L L') : Ent L (L' ++ []) := by rw [List.append_nil]; exact h
/-- a slice literal of one struct -/
theorem X.litD {α : Type} [Dat α] {t e sz : Nat} (x : α) {p : Operand} (ho : o.op = .buildSlice t 1 #[(0, p)]) (hu : P.underlying t = some (.slice e)) (hz : ((P.info? e).bind fun i => i.zero.map fun z => (i.size, z.cells.size)) = some (sz, sz)) (hp : evO F p = some (.agg (Dat.c x).toArray)) (hs : Dat.sz α = sz) (hn : sz ≤ 16777216) :
    Eff P N o F L (fun v L' => ∃ g, v = .slice (some ⟨g, 0, none⟩) 1 1 ∧ L' = SA.owns e sz (.slice (some ⟨g, 0, none⟩) 1 1) 1 (Dat.c x) :: L) :=
  X.litA (bytes := 0) (z := .nilFunc) (vs := [.agg (Dat.c x).toArray]) (cells := Dat.c x) (parts := [(0, p)]) ho hu hz (by simp [evA, hp]) rfl rfl (by omega) (hs ▸ Dat.pos) (by simp [maxLen]) (by simp [Value.cells, Dat.len, hs]) (by simp [Value.cells]) (List.all_eq_true.2 (Dat.one x))
/-- with others beside -/
theorem Ent.app {L1 L2 L : List SA} (h : Ent L1 L2) : Ent (L1 ++ L) (L2 ++ L) := by
  refine (Ent.doall L1).trans (Ent.trans (Ent.imp fun w O R hp => ?_) (Ent.unall L2))
  exact h w O R hp
theorem Ent.app2 {A B C D : SA} {L : List SA} (h : Ent [A, B, C] [D]) : Ent (A :: B :: C :: L) (D :: L) := Ent.app h
theorem Ent.rdssDrop {gs hs : List G} {L L1 : List SA} (hp : Pull (SA.rdss gs) L L1) (h : ∀ q ∈ hs, q ∈ gs) : Ent L (SA.rdss hs :: L1) := hp.ent.trans ((Ent.rdss_sub h).trans (Ent.under _ Ent.drop))
theorem Ent.addEl {α : Type} [Dat α] {x : α} {ys : List α} {L L1 L2 : List SA} (h1 : Pull (SA.rdss (ys.flatMap Dat.g)) L L1) (h2 : Pull (SA.dat x) L1 L2) : Ent L (SA.rdss ((ys ++ [x]).flatMap Dat.g) :: L2) := by
  rw [List.flatMap_append, List.flatMap_singleton]
  exact h1.ent.trans ((h2.ent.under _).trans Ent.rdssApp)
theorem Ent.mkOwn {α : Type} [Dat α] {e sz n cap : Nat} {a : Option Addr} {l : List α} {cells : List Value} {L L1 L2 : List SA} (h1 : Pull (SA.owns e sz (.slice a n cap) n cells) L L1) (h2 : Pull (SA.rdss (l.flatMap Dat.g)) L1 L2) (hn : l.length = n) (hs : Dat.sz α = sz) (hc : Dat.cs l = cells) : Ent L (SA.dat (⟨a, cap, l⟩ : Sl α) :: L2) :=
  h1.ent.trans ((h2.ent.under _).trans (Ent.freeze.trans (Ent.mkSl hn hs hc)))
theorem Ent.hang {α : Type} [Dat α] {a : Option Addr} {cap : Nat} {l : List α} {L L1 : List SA} (hp : Pull (SA.dat (⟨a, cap, l⟩ : Sl α)) L L1) : Ent L (SA.rdss (l.flatMap Dat.g) :: SA.dat (⟨a, cap, l⟩ : Sl α) :: L1) :=
  hp.ent.trans (Ent.rdss_sub fun q hq => List.mem_cons_of_mem _ hq)
end
end Go.Proofs.Ytomplpdeeomehaa
