/- Slices of byte slices, slices cut, facts out of the atoms. No program is named. -/
import Derived.Test.YtomplpdeeomehaaHTyp
namespace Go.Proofs.Ytomplpdeeomehaa
set_option linter.unusedVariables false
set_option linter.unusedSimpArgs false
open Go.RowKit

/-- a byte slice that is read: address, capacity, bytes -/
abbrev Pt := Option Addr × Nat × List UInt8
abbrev pv (x : Pt) : Value := .slice x.1 x.2.2.length x.2.1
def cat (ps : List Pt) : List UInt8 := ps.flatMap (·.2.2)
/-- all of them can be read -/
def SA.parts (ps : List Pt) : SA := ⟨fun w _ R => ∀ x ∈ ps, (x.2.2.length ≠ 0 → ∀ k ∈ own (pv x), R k) ∧ Rd w 1 (pv x) x.2.2.length (x.2.2.map v8),
  fun h hg x hx => ⟨(h x hx).1, hg.rd0 (h x hx).2 (fun hn k hk => .inr ((h x hx).1 hn k hk))⟩⟩
section
variable {κ : Ctx} {P : Program} {N : Nat} {F : FE} {As L L0 L' : List SA} {A B : SA} {o : Oper} {x y i c : Operand} {v u : Value} {ops : Array Oper} {rest : List Oper} {Q : Exit → Act → World → Prop} {code : Code}
theorem TC.know {φ : Prop} (h : ∀ w, Holds L w → φ) (k : φ → TC κ P N code F L Q) : TC κ P N code F L Q := fun ds a w ha hd hw => k (h w hw.tl.holds) ds a w ha hd hw
theorem TL.know {φ : Prop} (h : ∀ w, Holds L w → φ) (k : φ → TL κ P N ops rest F L Q) : TL κ P N ops rest F L Q := fun ds a w ha hd hw => k (h w hw.tl.holds) ds a w ha hd hw
theorem TC.to (h : Ent L L') (k : TC κ P N code F L' Q) : TC κ P N code F L Q := fun ds a w ha hd hw => k ds a w ha hd (h.hid hw)
theorem TL.to (h : Ent L L') (k : TL κ P N ops rest F L' Q) : TL κ P N ops rest F L Q := fun ds a w ha hd hw => k ds a w ha hd (h.hid hw)
theorem TQ.to {e : Exit} (h : Ent L L') (k : TQ κ N e F L' Q) : TQ κ N e F L Q := fun ds a w ha hd hw => k ds a w ha hd (h.hid hw)
theorem owns_some {e sz n cap : Nat} {a : Option Addr} {cs : List Value} (h : In (SA.owns e sz (.slice a n cap) n cs) L) (hn : 0 < n) : ∀ w, Holds L w → ∃ g off, a = some ⟨g, off, none⟩ := fun w hw => by
  obtain ⟨O, R, h1⟩ := hw _ h
  obtain ⟨g, off, c, he, _⟩ := h1.2.pos hn
  cases he
  exact ⟨g, off, rfl⟩
theorem owns_cap {e sz n cap : Nat} {a : Option Addr} {cs : List Value} (h : In (SA.owns e sz (.slice a n cap) n cs) L) : ∀ w, Holds L w → n ≤ cap ∧ cap ≤ maxLen ∧ cs.length = n * sz := fun w hw => by
  obtain ⟨O, R, h1⟩ := hw _ h
  obtain ⟨b, c, he, h2, h3⟩ := h1.2.shape
  cases he
  exact ⟨h2, h3, h1.2.len⟩
theorem reads_cap {sz n cap : Nat} {a : Option Addr} {cs : List Value} (hA : Reads A sz (.slice a n cap) n cs) (h : In A L) : ∀ w, Holds L w → n ≤ cap ∧ cap ≤ maxLen ∧ cs.length = n * sz ∧ (a = none → n = 0) := fun w hw => by
  obtain ⟨O, R, h1⟩ := hw _ h
  obtain ⟨b, c, he, h2, h3, h4, _⟩ := (hA _ _ _ h1).val
  cases he
  exact ⟨h2, h3, (hA _ _ _ h1).len, fun e => (h4 e).1⟩
theorem getD_mem' {ps : List Pt} {k : Nat} {d : Pt} (hl : k < ps.length) : ps.getD k d ∈ ps := by
  rw [List.getD_eq_getElem?_getD, List.getElem?_eq_getElem hl]; exact List.getElem_mem hl
theorem Src.parts {tx e' : Nat} {ps : List Pt} {d : Pt} (hk : P.underlying tx = some (.slice e')) (h : In (SA.parts ps) As) (hl : d ∈ ps) : ∀ w, Holds As w → Src P 1 tx (pv d) d.2.2.length (d.2.2.map v8) w := fun w hw => by
  obtain ⟨O, R, h1⟩ := hw _ h
  exact ((h1 _ hl).2).src hk
/-- s[lo:hi], a slice's -/
def cutV (a : Option Addr) (cap lo hi sz : Nat) : Value := .slice (if cap = lo then a else a.map (·.add (lo * sz))) (hi - lo) (cap - lo)
theorem Y.sliceLo {t e sz n cap k : Nat} {a : Option Addr} (ho : o.op = .slice t x (some y) none none) (hu : P.underlying t = some (.slice e)) (hs : (P.info? e).map (·.size) = some sz) (hx : evO F x = some (.slice a n cap)) (hy : evO F y = some (vN k)) (hk : k ≤ n) : Yld P N o F As (cutV a cap k n sz) := fun a' w ha hw => by
  unfold execOp; rw [ho]
  replace hx := ha.eval hx
  replace hy := ha.eval hy
  generalize a'.eval = ρ at hx hy ⊢
  obtain ⟨inf, hinf, he⟩ := Option.map_eq_some_iff.1 hs
  subst he
  simp [hx, hy, Instr.sliceAt, Instr.slice, Instr.sliceBounds, Instr.sliceBound, asIntOf, run_underlying hu, sizeOf, typeInfo, hinf, go_sem, hk, cutV]
theorem Y.sliceHi {t e sz n cap k : Nat} {a : Option Addr} (ho : o.op = .slice t x none (some y) none) (hu : P.underlying t = some (.slice e)) (hs : (P.info? e).map (·.size) = some sz) (hx : evO F x = some (.slice a n cap)) (hy : evO F y = some (vN k)) (hk : k ≤ cap) : Yld P N o F As (cutV a cap 0 k sz) := fun a' w ha hw => by
  unfold execOp; rw [ho]
  replace hx := ha.eval hx
  replace hy := ha.eval hy
  generalize a'.eval = ρ at hx hy ⊢
  obtain ⟨inf, hinf, he⟩ := Option.map_eq_some_iff.1 hs
  subst he
  simp [hx, hy, Instr.sliceAt, Instr.slice, Instr.sliceBounds, Instr.sliceBound, asIntOf, run_underlying hu, sizeOf, typeInfo, hinf, go_sem, hk, cutV]
/-- arr[:], an array variable's -/
theorem Y.sliceArr {t m e sz b k : Nat} (ho : o.op = .slice t x none none none) (hu : P.underlying t = some (.array m e)) (hs : (P.info? e).map (·.size) = some sz) (hx : evO F x = some (.pointer (some ⟨b, k, none⟩))) : Yld P N o F As (.slice (some ⟨b, k, none⟩) m m) := fun a' w ha hw => by
  unfold execOp; rw [ho]
  replace hx := ha.eval hx
  generalize a'.eval = ρ at hx ⊢
  obtain ⟨inf, hinf, he⟩ := Option.map_eq_some_iff.1 hs
  subst he
  simp [hx, Instr.sliceAt, Instr.sureAddr, Instr.sliceBounds, run_underlying hu, sizeOf, typeInfo, hinf, go_sem, Addr.add]
theorem Ent.dropOwn {e sz n cap k : Nat} {a : Option Addr} {cs : List Value} (hk : k ≤ n) : Ent (SA.owns e sz (.slice a n cap) n cs :: L) (SA.owns e sz (cutV a cap k n sz) (n - k) (cs.drop (k * sz)) :: L) := Ent.imp fun w O R h => by
  refine ⟨O, R, ⟨fun x hx => h.1 x ?_, h.2.drop hk⟩, fun _ h => h, fun _ h => .inr h⟩
  have := own_dropV h.2 k
  rw [← this]; exact hx
theorem Ent.nilOwn (e sz : Nat) : Ent L (SA.owns e sz (.slice none 0 0) 0 [] :: L) := fun w O R h => ⟨O, R, ⟨fun _ => False, fun _ => False, O, R, ⟨by simp [own], Own.nil w e sz⟩, h, by simp, fun k hk => ⟨hk, by simp⟩, by simp, fun k hk => hk⟩, fun _ h => h, fun _ h => .inr h⟩
theorem X.appendS {t tx e sz bytes n m : Nat} {z s : Value} {cs news : List Value} (ho : o.op = .call { callee := .builtin .append, args := #[x, y], argTypes := #[t, tx] }) (E : Elt P t e sz bytes z)
    (hx : evO F x = some s) (hp : Pull (SA.owns e sz s n cs) L L0) (hy : evO F y = some u) (hs : ∀ w, Holds L w → Src P sz tx u m news w) (b1 : n + m ≤ maxLen) (b2 : (n + m) * bytes ≤ 140737488355328) :
    Eff P N o F L (fun v L' => ∃ a cap, v = .slice a (n + m) cap ∧ L' = SA.owns e sz (.slice a (n + m) cap) (n + m) (cs ++ news) :: L0) :=
  ⟨by rw [ho]; simp, fun Y a w ha hw K Q hK =>
  (X.append ho E hx hp hy hs b1 b2).2 Y a w ha hw K Q fun v L' w' hR hw' => by
    obtain ⟨_, rfl⟩ := hR
    obtain ⟨O, R, h, _⟩ := hw'.tl.hd
    obtain ⟨b, c, he, _, _⟩ := h.2.shape
    subst he
    exact hK _ _ w' ⟨b, c, rfl, rfl⟩ hw'⟩
theorem writeAt_whole {vs cs : Array Value} (h : vs.size = cs.size) : writeAt cs 0 vs.toList = vs := by
  have := writeAt_all vs.toList cs (by simp [h])
  simpa using this
theorem X.storeAll {t b bt m : Nat} {cs vs : Array Value} (ho : o.op = .store t x y) (hs : (P.info? t).map (·.size) = some m) (hmm : vs.size = m) (hx : evO F x = some (.pointer (some ⟨b, 0, none⟩))) (hy : evO F y = some (.agg vs)) (h1 : ∀ v ∈ vs.toList, v.oneCell' = true)
    (hp : Pull (SA.blk b cs bt) L L0) (hk : cs.size = m) : Eff P N o F L (fun _ L' => L' = SA.blk b vs bt :: L0) :=
  X.storeAgg ho hs hmm hx hy h1 hp (by omega) (writeAt_whole (by omega))
/-- 'copy' into a block of one's own, the source no longer than the room -/
theorem X.copyBlk {dT sT e b k dn dc bt m sz : Nat} {cs cs' : Array Value} {news : List Value} (ho : o.op = .call { callee := .builtin .copy, args := #[x, y], argTypes := #[dT, sT] }) (hu : P.underlying dT = some (.slice e)) (hsz : (P.info? e).map (·.size) = some sz)
    (hx : evO F x = some (.slice (some ⟨b, k, none⟩) dn dc)) (hy : evO F y = some u) (hs : ∀ w, Holds L w → Src P sz sT u m news w) (hp : Pull (SA.blk b cs bt) L L0) (hm : m ≤ dn) (hk : k + m * sz ≤ cs.size) (he : writeAt cs k news = cs') :
    Eff P N o F L (fun v L' => v = vN m ∧ L' = SA.blk b cs' bt :: L0) := by
  refine ⟨by rw [ho]; simp, fun Y a w ha hw K Q hK => ?_⟩
  unfold Oper.wp execOp; rw [ho]
  subst he
  replace hx := ha.eval hx
  replace hy := ha.eval hy
  have hst := (Pull.there (B := Y) hp).st hw
  have hsrc := hs w hw.tl.holds
  obtain ⟨inf, hinf, rfl⟩ := Option.map_eq_some_iff.1 hsz
  have hc := hsrc.cells
  have hl := hsrc.newsLen
  have hrun := run_storeCells_cells (P := P) b k news 0 w (fun j hj => by rw [hst.cell]; simp; omega) (fun j hj => hst.frozen _) hsrc.one
  have hcp : (Builtin.copy_ #[dT, sT] o.type #[.slice (some ⟨b, k, none⟩) dn dc, u]).run P w = .ok (vN m) (w.setCells b k news) := by
    unfold Builtin.copy_
    have hmin : Nat.min m dn = m := Nat.min_eq_left hm
    simp only [Nat.add_zero] at hrun
    simp [run_underlying hu, hsrc.len, hmin, sizeOf, typeInfo, hinf, hc, hrun, goInt]
  generalize a.eval = ρ at hx hy ⊢
  simp [resolve, invoke, builtin, hx, hy, hcp, Result.andThen, Oper.upon]
  exact hK _ _ _ ⟨rfl, rfl⟩ (hst.setCells k news).up1
/-! ### tables -/
def tab {α : Type} (n : Nat) (f : Nat → α) : List α := (List.range n).map f
theorem tab_len {α : Type} {n : Nat} {f : Nat → α} : (tab n f).length = n := by simp [tab]
theorem tab_get {α : Type} {n i : Nat} {f : Nat → α} : (tab n f)[i]? = if i < n then some (f i) else none := by
  simp only [tab, List.getElem?_map]
  split
  · rw [List.getElem?_range (by assumption)]; rfl
  · rw [List.getElem?_eq_none (by simp; omega)]; rfl
theorem tab_getD {α : Type} {n i : Nat} {f : Nat → α} {d : α} (h : i < n) : (tab n f).getD i d = f i := by
  rw [List.getD_eq_getElem?_getD, tab_get, if_pos h]; rfl
theorem tab_congr {α : Type} {n : Nat} {f g : Nat → α} (h : ∀ i, i < n → f i = g i) : tab n f = tab n g := by
  apply List.ext_getElem?
  intro i
  rw [tab_get, tab_get]
  split
  · rw [h i (by assumption)]
  · rfl
theorem tab_set {α : Type} {n k : Nat} {f : Nat → α} {v : α} : (tab n f).set k v = tab n (fun i => if i = k then v else f i) := by
  apply List.ext_getElem?
  intro i
  rw [List.getElem?_set, tab_get, tab_get, tab_len]
  by_cases h : k = i
  · subst h
    by_cases hk : k < n
    · simp [hk]
    · simp [hk]
  · rw [if_neg h]
    by_cases hi : i < n
    · rw [if_pos hi, if_pos hi, if_neg (fun e => h e.symm)]
    · rw [if_neg hi, if_neg hi]
theorem tab_rep {α : Type} {n : Nat} {v : α} : List.replicate n v = tab n (fun _ => v) := by
  apply List.ext_getElem?
  intro i
  rw [tab_get, List.getElem?_replicate]
theorem tab_write {α : Type} {n k : Nat} {f : Nat → α} {xs : List α} {d : α} (h : k + xs.length ≤ n) : (tab n f).take k ++ xs ++ (tab n f).drop (k + xs.length) = tab n (fun i => if k ≤ i ∧ i < k + xs.length then xs.getD (i - k) d else f i) := by
  apply List.ext_getElem?
  intro i
  rw [tab_get]
  simp only [List.getElem?_append, List.length_append, List.length_take, tab_len, List.getElem?_take, List.getElem?_drop, tab_get]
  by_cases h1 : i < k
  · rw [if_pos (by omega), if_pos (by omega), if_pos h1, if_pos (by omega), if_pos (by omega), if_neg (by omega)]
  · by_cases h2 : i < k + xs.length
    · rw [if_pos (by omega), if_neg (by omega), if_pos (by omega), if_pos (by omega)]
      rw [List.getD_eq_getElem?_getD, show min k n = k by omega, List.getElem?_eq_getElem (by omega)]; rfl
    · rw [if_neg (by omega), show k + xs.length + (i - (min k n + xs.length)) = i by omega]
      by_cases h3 : i < n
      · rw [if_pos h3, if_pos h3, if_neg (by omega)]
      · rw [if_neg h3, if_neg h3]
theorem tab_succ {α : Type} {n : Nat} {f : Nat → α} : tab (n + 1) f = tab n f ++ [f n] := by simp [tab, List.range_succ]
theorem tab_self {α : Type} {l : List α} {d : α} : tab l.length (fun i => l.getD i d) = l := by
  apply List.ext_getElem?
  intro i
  rw [tab_get]
  split
  · rename_i h; rw [List.getD_eq_getElem?_getD, List.getElem?_eq_getElem h]; rfl
  · rw [List.getElem?_eq_none (by omega)]
/-! ### parts, put together -/
theorem Dup.rds {sz n : Nat} {v : Value} {cs : List Value} : Dup (SA.rds sz v n cs) := fun _ _ _ h => h
theorem Dup.rblk {b t : Nat} {cs : Array Value} : Dup (SA.rblk b cs t) := fun _ _ _ h => h
theorem Dup.parts {ps : List Pt} : Dup (SA.parts ps) := fun _ _ _ h => h
theorem Ent.freezeB {b t : Nat} {cs : Array Value} : Ent (SA.blk b cs t :: L) (SA.rblk b cs t :: L) := Ent.imp fun w O R h => ⟨fun _ => False, O, h, by simp, fun k hk => .inl hk⟩
theorem Ent.freeze {e sz n : Nat} {v : Value} {cs : List Value} : Ent (SA.owns e sz v n cs :: L) (SA.rds sz v n cs :: L) := Ent.imp fun w O R h => ⟨fun _ => False, O, ⟨fun _ => h.1, h.2.rd⟩, by simp, fun k hk => .inl hk⟩
theorem Rd.ofBlk {w : World} {b t k n c sz : Nat} {cs : Array Value} {l : List Value} (h : Blk w b cs t) (hl : l.length = n * sz) (h1 : ∀ u ∈ l, u.oneCell' = true) (hnc : n ≤ c) (hc : c ≤ maxLen) (hv : ∀ j u, l[j]? = some u → cs[k + j]? = some u) : Rd w sz (.slice (some ⟨b, k, none⟩) n c) n l :=
  ⟨hl, h1, _, _, rfl, hnc, hc, by simp, fun b' hb j u hj => by cases hb; rw [Addr.add_lit, h.cell]; exact hv j u hj⟩
theorem Ent.rblkRds {b t k n c sz : Nat} {cs : Array Value} {l : List Value} (hl : l.length = n * sz) (h1 : ∀ u ∈ l, u.oneCell' = true) (hnc : n ≤ c) (hc : c ≤ maxLen) (hv : ∀ j u, l[j]? = some u → cs[k + j]? = some u) :
    Ent (SA.rblk b cs t :: L) (SA.rds sz (.slice (some ⟨b, k, none⟩) n c) n l :: L) := Ent.imp fun w O R h => ⟨O, R, ⟨fun _ x hx => by simp [own] at hx; subst hx; exact h.1, Rd.ofBlk h.2 hl h1 hnc hc hv⟩, fun _ h => h, fun _ h => .inr h⟩
theorem Ent.parts0 : Ent L (SA.parts [] :: L) := fun w O R h => ⟨O, R, ⟨fun _ => False, fun _ => False, O, R, fun x hx => by simp at hx, h, by simp, fun k hk => ⟨hk, by simp⟩, by simp, fun k hk => hk⟩, fun _ h => h, fun _ h => .inr h⟩
theorem Ent.partsC {x : Pt} {ps : List Pt} : Ent (SA.rds 1 (pv x) x.2.2.length (x.2.2.map v8) :: SA.parts ps :: L) (SA.parts (x :: ps) :: L) := fun w O R h => by
  have h' := SA.Le.assoc' _ _ _ h
  obtain ⟨O1, R1, O2, R2, hA, hL, r⟩ := h'
  obtain ⟨O3, R3, O4, R4, hB, hC, s1, s2, s3, s4⟩ := hA
  refine ⟨O, R, ⟨O1, R1, O2, R2, ?_, hL, r⟩, fun _ h => h, fun _ h => .inr h⟩
  intro y hy
  rcases List.mem_cons.1 hy with rfl | hy
  · exact ⟨fun hn k hk => s3 k (hB.1 hn k hk), hB.2⟩
  · exact ⟨fun hn k hk => s4 k ((hC y hy).1 hn k hk), (hC y hy).2⟩
theorem Ent.len {n m sz : Nat} {v : Value} {cs : List Value} (h : n = m) : Ent (SA.rds sz v n cs :: L) (SA.rds sz v m cs :: L) := by subst h; exact Ent.refl
abbrev SA.rd1 (x : Pt) : SA := SA.rds 1 (pv x) x.2.2.length (x.2.2.map v8)
theorem Ent.part1 {x : Pt} : Ent (SA.rd1 x :: L) (SA.parts [x] :: SA.rd1 x :: L) := (Ent.dup Dup.rds).trans ((Ent.under _ Ent.parts0).trans Ent.partsC)
theorem Ent.part2 {x z : Pt} : Ent (SA.rd1 x :: SA.rd1 z :: L) (SA.parts [x, z] :: SA.rd1 x :: SA.rd1 z :: L) :=
  (Ent.under _ Ent.part1).trans ((Ent.dup Dup.rds).trans ((Ent.under _ Ent.swap).trans Ent.partsC))
end
end Go.Proofs.Ytomplpdeeomehaa
