/- 'copy' into a slice of one's own; lending what is owned, piece by piece; more on pieces of bytes. No program is named. -/
import Derived.Test.YtomplpdeeomehaaHTab
namespace Go.Proofs.Ytomplpdeeomehaa
set_option linter.unusedVariables false
set_option linter.unusedSimpArgs false
open Go.RowKit
section
variable {P : Program} {N : Nat} {F : FE} {As L L0 : List SA} {o : Oper} {x y z : Operand} {u v : Value}
theorem X.copyOwn {dT sT e eo dn dc sz m n cap g off q j : Nat} {cs cs' news : List Value} (ho : o.op = .call { callee := .builtin .copy, args := #[x, y], argTypes := #[dT, sT] }) (hu : P.underlying dT = some (.slice e)) (hsz : (P.info? e).map (·.size) = some sz)
    (hx : evO F x = some (.slice (some ⟨g, q, none⟩) dn dc)) (hq : q = off + j) (hy : evO F y = some u) (hs : ∀ w, Holds L w → Src P sz sT u m news w) (hp : Pull (SA.owns eo sz (.slice (some ⟨g, off, none⟩) n cap) n cs) L L0) (hm : m ≤ dn) (hj : j + m * sz ≤ n * sz) (he : wr cs j news = cs') :
    Eff P N o F L (fun v L' => v = vN m ∧ L' = SA.owns eo sz (.slice (some ⟨g, off, none⟩) n cap) n cs' :: L0) := by
  refine ⟨by rw [ho]; simp, fun Y a w ha hw K Q hK => ?_⟩
  unfold Oper.wp execOp; rw [ho]
  subst he; subst hq
  replace hx := ha.eval hx
  replace hy := ha.eval hy
  have hst := (Pull.there (B := Y) hp).st hw
  have hO := hst.isOwn
  have hsrc := hs w hw.tl.holds
  obtain ⟨inf, hinf, rfl⟩ := Option.map_eq_some_iff.1 hsz
  have hc := hsrc.cells
  have hl := hsrc.newsLen
  obtain ⟨arr, hb, hsz⟩ : ∃ arr, Blk w g arr eo ∧ off + n * inf.size ≤ arr.size := by
    rcases hO.val with ⟨hv, _⟩ | ⟨g', off', cap', arr, hv, hb1, h2, _, e3, _⟩
    · cases hv
    · cases hv
      have := Nat.mul_le_mul_right inf.size h2
      exact ⟨arr, hb1, by omega⟩
  have hrun := run_storeCells_cells (P := P) g (off + j) news 0 w (fun i hi => by rw [hb.cell]; simp at hi ⊢; omega) (fun i hi => hb.frozen _) hsrc.one
  have hcp : (Builtin.copy_ #[dT, sT] o.type #[.slice (some ⟨g, off + j, none⟩) dn dc, u]).run P w = .ok (vN m) (w.setCells g (off + j) news) := by
    unfold Builtin.copy_
    have hmin : Nat.min m dn = m := Nat.min_eq_left hm
    simp only [Nat.add_zero] at hrun
    simp [run_underlying hu, hsrc.len, hmin, sizeOf, typeInfo, hinf, hc, hrun, goInt]
  have hfin := hO.within news hsrc.one j (by omega)
  generalize a.eval = ρ at hx hy ⊢
  simp [resolve, invoke, builtin, hx, hy, hcp, Result.andThen, Oper.upon]
  exact hK _ _ _ ⟨rfl, rfl⟩ (St.up1 (hst.frS (S := [g]) (Fr.setCells _ _ _ (Fr.refl _ _) (by simp)) fun O R hA => ⟨fun k hk => hA.1 k (by simpa [own] using hk), O, R, ⟨fun k hk => hA.1 k (by simpa [own] using hk), hfin⟩, fun k hk => .inl hk, fun k hk => .inr (.inl hk)⟩))
end
theorem cutV_some {g off cap k n sz : Nat} (h : k < cap) : cutV (some ⟨g, off, none⟩) cap k n sz = .slice (some ⟨g, off + k * sz, none⟩) (n - k) (cap - k) := by
  unfold cutV; rw [if_neg (by omega)]; simp [Addr.add_lit]
theorem wr_tail (a b c : List Value) (h : b.length = c.length) : wr (a ++ b) a.length c = a ++ c := by
  unfold wr; rw [List.take_left, ← h, ← List.length_append, List.drop_length, List.append_nil]
theorem Reads.head {A : SA} {sz n cap k : Nat} {a : Option Addr} {cs : List Value} (h : Reads A sz (.slice a n cap) n cs) (hk : k ≤ n) : Reads A sz (.slice a k cap) k (cs.take (k * sz)) := fun w O R hp => (h w O R hp).take hk
theorem Reads.head8 {A : SA} {n cap k : Nat} {a : Option Addr} {l : List UInt8} (h : Reads A 1 (.slice a n cap) n (l.map v8)) (hk : k ≤ n) : Reads A 1 (.slice a k cap) k ((l.take k).map v8) := by
  have := h.head hk
  rwa [Nat.mul_one, ← List.map_take] at this
section
variable {L L1 : List SA}
/-- the beginning of bytes of one's own, from now on read -/
theorem Ent.headOwn {e n cap k : Nat} {a : Option Addr} {l : List UInt8} (h : Pull (SA.owns e 1 (.slice a n cap) n (l.map v8)) L L1) (hk : k ≤ n) : Ent L (SA.rds 1 (.slice a k cap) k ((l.take k).map v8) :: L1) := by
  have := Ent.takeRds (L := L1) (sz := 1) (a := a) (cap := cap) (cs := l.map v8) hk
  rw [Nat.mul_one, ← List.map_take] at this
  exact h.ent.trans (Ent.freeze.trans this)
/-- the elements apart from the slice -/
theorem Ent.unSl {α : Type} [Dat α] {a : Option Addr} {cap : Nat} {l : List α} {L : List SA} : Ent (SA.dat (⟨a, cap, l⟩ : Sl α) :: L) (SA.rds (Dat.sz α) (.slice a l.length cap) l.length (Dat.cs l) :: SA.rdss (l.flatMap Dat.g) :: L) :=
  (Ent.rdsOf (s := (⟨a, cap, l⟩ : Sl α))).trans (Ent.under _ ((Ent.rdss_sub fun q hq => List.mem_cons_of_mem _ hq).trans (Ent.under _ Ent.drop)))
/-- the beginning of a slice, beside the whole -/
theorem Ent.headSl {α : Type} [Dat α] {a : Option Addr} {cap k : Nat} {l : List α} (h : Pull (SA.dat (⟨a, cap, l⟩ : Sl α)) L L1) (hk : k ≤ l.length) : Ent L (SA.dat (⟨a, cap, l.take k⟩ : Sl α) :: SA.dat (⟨a, cap, l⟩ : Sl α) :: L1) := by
  refine h.ent.trans ((Ent.dup Dup.dat).trans (Ent.unSl.trans ?_))
  refine (Ent.takeRds hk).trans ?_
  have hl : (l.take k).length = k := by rw [List.length_take]; omega
  have hc : (Dat.cs l).take (k * Dat.sz α) = Dat.cs (l.take k) := by
    have e : Dat.cs l = Dat.cs (l.take k) ++ Dat.cs (l.drop k) := by rw [← Dat.cs_app, List.take_append_drop]
    rw [e, show k * Dat.sz α = (Dat.cs (l.take k)).length by rw [Dat.cs_len, hl], List.take_left]
  rw [hc]
  refine (Ent.under _ ((Ent.rdss_sub (hs := (l.take k).flatMap Dat.g) fun q hq => ?_).trans (Ent.under _ Ent.drop))).trans (Ent.mkSl hl rfl rfl)
  obtain ⟨x, hx, hq⟩ := List.mem_flatMap.1 hq
  exact List.mem_flatMap.2 ⟨x, List.mem_of_mem_take hx, hq⟩
end
section
variable {P : Program} {L : List SA} {f : FuncId} {args : List Value}
/-- a function that reads a slice of structs is handed one of one's own -/
theorem Fn.lendSl {α : Type} [Dat α] {e sz cap : Nat} {a : Option Addr} {l : List α} {R : Value → List SA → Prop} (hs : Dat.sz α = sz) (h : ∀ L, Fn P f args (SA.dat (⟨a, cap, l⟩ : Sl α) :: L) (fun v L' => ∃ Ln, R v Ln ∧ (∀ A, In A Ln → OO A) ∧ L' = Ln ++ SA.dat (⟨a, cap, l⟩ : Sl α) :: L)) (L : List SA) :
    Fn P f args (SA.owns e sz (.slice a l.length cap) l.length (Dat.cs l) :: SA.rdss (l.flatMap Dat.g) :: L) (fun v L' => ∃ Ln, R v Ln ∧ L' = Ln ++ SA.owns e sz (.slice a l.length cap) l.length (Dat.cs l) :: SA.rdss (l.flatMap Dat.g) :: L) := by
  subst hs
  refine (Fn.lend (R := R) (Lend.cons Lend1.own (Lend.cons (Lend1.same Dup.rdss) Lend.nil)) ?_ L)
  refine Fn.preE (Ent.mkSl rfl rfl rfl) ((h []).mono ?_)
  rintro v L' ⟨Ln, h1, h2, rfl⟩
  refine ⟨Ln ++ [SA.rds (Dat.sz α) (.slice a l.length cap) l.length (Dat.cs l), SA.rdss (l.flatMap Dat.g)], ?_, Ln, h1, h2, rfl⟩
  have e0 : ∀ M : List SA, Ent (M ++ [SA.dat (⟨a, cap, l⟩ : Sl α)]) (M ++ [SA.rds (Dat.sz α) (.slice a l.length cap) l.length (Dat.cs l), SA.rdss (l.flatMap Dat.g)]) := fun M => by
    induction M with
    | nil => exact Ent.unSl
    | cons B M ih => exact ih.under B
  exact e0 Ln
end
end Go.Proofs.Ytomplpdeeomehaa
