/- theirs and ours: a message in the other package's types. -/
import Derived.Test.YtggammbhmoippaaStunRB
import Derived.Test.YtggammbhmoippaaHAuto
namespace Go.Proofs.Ytggammbhmoippaa
set_option linter.unusedVariables false
set_option linter.unusedSimpArgs false
open Go.RowKit
namespace stun
namespace FxStunT
set_option maxRecDepth 100000
theorem ag22 : Program.aggN Try.prog 22 = some 12 := by kernel_rfl
theorem ag34 : Program.aggN Try.prog 34 = some 15 := by kernel_rfl
theorem el27 : Elt Try.prog 27 5 1 1 (.int .u8 0) := ⟨Try.underlying27, by kernel_rfl, rfl, by decide, by simp [Value.cells, Value.oneCell']⟩
theorem el32 : Elt Try.prog 32 73 2 32 (.agg #[.int .u16 0, .slice none 0 0]) := ⟨Try.underlying32, by kernel_rfl, rfl, by decide, by simp [Value.cells, Value.oneCell']⟩
theorem fo25_0 : Program.fieldOff Try.prog 25 0 = some 0 := by kernel_rfl
theorem fo25_1 : Program.fieldOff Try.prog 25 1 = some 1 := by kernel_rfl
theorem fo25_2 : Program.fieldOff Try.prog 25 2 = some 2 := by kernel_rfl
theorem fo25_3 : Program.fieldOff Try.prog 25 3 = some 14 := by kernel_rfl
theorem fo34_3 : Program.fieldOff Try.prog 34 3 = some 14 := by kernel_rfl
theorem fo65_0 : Program.fieldOff Try.prog 65 0 = some 0 := by kernel_rfl
theorem fo65_1 : Program.fieldOff Try.prog 65 1 = some 1 := by kernel_rfl
theorem pl34 : Program.places Try.prog 34 = some [(0, 1), (1, 1), (2, 12), (14, 1)] := by kernel_rfl
theorem pl73 : Program.places Try.prog 73 = some [(0, 1), (1, 1)] := by kernel_rfl
theorem sc23 : Program.isSc Try.prog 23 = true := by kernel_rfl
theorem sc27 : Program.isSc Try.prog 27 = true := by kernel_rfl
theorem sc3 : Program.isSc Try.prog 3 = true := by kernel_rfl
theorem sc32 : Program.isSc Try.prog 32 = true := by kernel_rfl
theorem sc44 : Program.isSc Try.prog 44 = true := by kernel_rfl
theorem sl23 : Program.slI Try.prog 23 = some 2 := by kernel_rfl
theorem zc34 : Program.zeroC Try.prog 34 = some #[.int .i64 0, .int .i64 0, .int .u8 0, .int .u8 0, .int .u8 0, .int .u8 0, .int .u8 0, .int .u8 0, .int .u8 0, .int .u8 0, .int .u8 0, .int .u8 0, .int .u8 0, .int .u8 0, .slice none 0 0] := by kernel_rfl
theorem zc73 : Program.zeroC Try.prog 73 = some #[.int .u16 0, .slice none 0 0] := by kernel_rfl
theorem zs73 : ((Try.prog.info? 73).bind fun i => i.zero.map fun z => (i.size, z.cells.size)) = some (2, 2) := by kernel_rfl
end FxStunT
open FxStunT
theorem map_take_s {α β : Type} {f : α → β} {l : List α} {k : Nat} {x : α} (h : l[k]? = some x) : (l.map f).take (k + 1) = (l.map f).take k ++ [f x] := by
  rw [List.take_add_one, List.getElem?_map, h]; rfl
theorem msgC_size (c m : Int) (f : Nat → UInt8) (s : Value) : (msgC c m f s).size = 15 := rfl
theorem msg_one (c m : Int) (f : Nat → UInt8) (a : Option Addr) (n cap : Nat) : ∀ v ∈ (msgC c m f (.slice a n cap)).toList, v.oneCell' = true := by
  intro v hv
  simp only [msgC, List.toList_toArray, List.mem_cons, List.not_mem_nil, or_false] at hv
  rcases hv with rfl | rfl | rfl | rfl | rfl | rfl | rfl | rfl | rfl | rfl | rfl | rfl | rfl | rfl | rfl <;> rfl
theorem Ent.addEl {α : Type} [Dat α] {x : α} {ys : List α} {L L1 L2 : List SA} (h1 : Pull (SA.rdss (ys.flatMap Dat.g)) L L1) (h2 : Pull (SA.dat x) L1 L2) : Ent L (SA.rdss ((ys ++ [x]).flatMap Dat.g) :: L2) := by
  rw [List.flatMap_append, List.flatMap_singleton]
  exact h1.ent.trans ((h2.ent.under _).trans Ent.rdssApp)
theorem Ent.mkOwn {α : Type} [Dat α] {e sz n cap : Nat} {a : Option Addr} {l : List α} {cells : List Value} {L L1 L2 : List SA} (h1 : Pull (SA.owns e sz (.slice a n cap) n cells) L L1) (h2 : Pull (SA.rdss (l.flatMap Dat.g)) L1 L2) (hn : l.length = n) (hs : Dat.sz α = sz) (hc : Dat.cs l = cells) : Ent L (SA.dat (⟨a, cap, l⟩ : Sl α) :: L2) :=
  h1.ent.trans ((h2.ent.under _).trans (Ent.freeze.trans (Ent.mkSl hn hs hc)))
theorem Ent.mkAt {t : UInt16} {e n cap : Nat} {a : Option Addr} {bs : List UInt8} {L L1 : List SA} (h1 : Pull (SA.owns e 1 (.slice a n cap) n (bs.map v8)) L L1) (hn : bs.length = n) : Ent L (SA.dat ((t, ⟨a, cap, bs⟩) : At) :: L1) :=
  h1.ent.trans (Ent.freeze.trans (Ent.mkBytes hn))
theorem Ent.atBytes {l : List At} {t : UInt16} {a a1 : Option Addr} {cap ac : Nat} {bs : List UInt8} {L L1 : List SA} (hp : Pull (SA.dat (⟨a, cap, l⟩ : Sl At)) L L1) (hx : (t, (⟨a1, ac, bs⟩ : Bs)) ∈ l) :
    Ent L (SA.rds 1 (.slice a1 bs.length ac) bs.length (bs.map v8) :: SA.dat (⟨a, cap, l⟩ : Sl At) :: L1) := hp.ent.trans ((Ent.elem hx).trans ((Ent.bytesOf (s := ⟨a1, ac, bs⟩)).trans (Ent.under _ Ent.drop)))
set_option maxHeartbeats 1000000 in
--REG rostrum/rostrumlaw04.theirs : _ _ ⟨ta{d}, tc{d}, tl{d}, rfl, htl{d}, rfl⟩ => (stun.theirs_fn _ _ _ _ _ _ (by assumption) (by assumption) _)
theorem theirs_fn (c m : Int) (f : Nat → UInt8) (a : Option Addr) (cap : Nat) (l : List At) (hl : l.length * 32 ≤ 140737488351232) (hb : ∀ x ∈ l, x.2.l.length ≤ 140737488351232) (L : List SA) :
    Fn Try.prog 12 [.agg (msgC c m f (.slice a l.length cap))] (SA.dat (⟨a, cap, l⟩ : Sl At) :: L)
      (fun v L' => ∃ a' cap' l', v = .agg (msgC c m f (.slice a' l'.length cap')) ∧ l'.map pl = l.map pl ∧ L' = SA.dat (⟨a', cap', l'⟩ : Sl At) :: SA.dat (⟨a, cap, l⟩ : Sl At) :: L) := by
  refine Fn.of (N := 40) Try.func12 rfl rfl ?_
  intro Xh
  refine TC.seq ?_
  refine TC.region ?_
  refine TL.eff rfl rfl rfl (X.boxA rfl rfl) ?_
  rintro _ _ ⟨b1, rfl, rfl⟩
  refine TL.eff rfl rfl rfl (X.alloc rfl zc34) ?_
  rintro _ _ ⟨b2, rfl, rfl⟩
  refine TL.nil ?_
  refine TQ.next ?_
  refine TC.seq ?_
  refine TC.region ?_
  refine TL.val rfl rfl rfl (by first | exact Y.fieldAddrJ rfl fo25_0 rfl nqq | exact Y.fieldAddr rfl fo25_0 rfl nqq) ?_
  refine TL.val rfl rfl rfl (Y.load rfl sc3 rfl celN) ?_
  refine TL.val rfl rfl rfl (by first | exact Y.fieldAddrJ rfl fo25_1 rfl nqq | exact Y.fieldAddr rfl fo25_1 rfl nqq) ?_
  refine TL.val rfl rfl rfl (Y.load rfl sc3 rfl celN) ?_
  refine TL.val rfl rfl rfl (by first | exact Y.fieldAddrJ rfl fo25_2 rfl nqq | exact Y.fieldAddr rfl fo25_2 rfl nqq) ?_
  refine TL.val rfl rfl rfl (Y.loadAgg rfl ag22 rfl (Cels.blk inn (cs := msgC c m f (.slice a l.length cap)) (l := (idL f).map v8) (msg_id c m f _)) (by first | rfl | ((try simp only [List.length_map, List.length_set, List.length_replicate]); omega))) ?_
  refine TL.val rfl rfl rfl (Y.buildS (cells := msgC c m f (.slice none 0 0)) rfl rfl pl34 zc34 (by kernel_rfl)) ?_
  refine TL.eff rfl rfl rfl (X.alloc rfl zc34) ?_
  rintro _ _ ⟨b3, rfl, rfl⟩
  refine TL.eff0 rfl rfl (X.storeAll rfl (by kernel_rfl) (msgC_size c m f _) rfl rfl (msg_one c m f _ _ _) pul rfl) ?_
  rintro _ _ rfl
  refine TL.to (Pull.ent (A := SA.blk b3 (msgC c m f (.slice none 0 0)) 34) pul) ?_
  refine TL.nil ?_
  refine TQ.next ?_
  refine TC.seq ?_
  refine TC.seq ?_
  refine TC.region ?_
  refine TL.val rfl rfl rfl (by first | exact Y.fieldAddrJ rfl fo25_3 rfl nqq | exact Y.fieldAddr rfl fo25_3 rfl nqq) ?_
  refine TL.val rfl rfl rfl (Y.load rfl sc23 rfl celD) ?_
  refine TL.val rfl rfl rfl (Y.len rfl Try.underlying23 rfl) ?_
  refine TL.val rfl rfl rfl (Y.move rfl rfl) ?_
  refine TL.nil ?_
  refine TQ.next ?_
  refine TC.block ?_
  refine TC.to (Ent.nilOwn 73 2) ?_
  refine TC.to (Ent.rdss0) ?_
  refine TC.loopF (ι := Option Addr × Nat × List At) [] (fun i => i.2.2.map pl = (l.map pl).take i.2.2.length ∧ i.2.2.length ≤ l.length) (fun i => [(15, some (vN i.2.2.length))]) (fun i => [SA.blk b3 (msgC c m f (.slice i.1 i.2.2.length i.2.1)) 34, SA.owns 73 2 (.slice i.1 i.2.2.length i.2.1) i.2.2.length (Dat.cs i.2.2), SA.rdss (i.2.2.flatMap Dat.g)]) (fun i => l.length - i.2.2.length) ((none, 0, [])) (⟨rfl, Nat.zero_le _⟩) ⟨rfl, trivial⟩ (Pulls.cons pul (Pulls.cons pul (Pulls.cons pul Pulls.nil))) ?_
  rintro ⟨ya, yc, ys⟩ ⟨hys, hk⟩ F' L' rfl hL'
  simp only [List.cons_append, List.nil_append] at hL'
  subst hL'
  simp only at hys hk ⊢
  refine TC.seq ?_
  refine TC.region ?_
  refine TL.val rfl rfl rfl (Y.bin rfl rfl rfl (br_ltN)) ?_
  refine TL.nil ?_
  refine TQ.next ?_
  refine TC.seq ?_
  refine TC.cond rfl (fun c0 => ?_) (fun c0 => ?_)
  · try simp only [decide_eq_true_eq, decide_eq_false_iff_not, Bool.not_eq_true', Bool.not_eq_false', Bool.and_eq_true, Bool.or_eq_true, Nat.not_lt, Nat.not_le, beq_iff_eq, bne_iff_ne] at c0
    refine TC.skip ?_
    refine TQ.next ?_
    refine TC.seq ?_
    refine TC.block ?_
    refine TC.seq ?_
    refine TC.region ?_
    refine TL.val rfl rfl rfl (Y.move rfl rfl) ?_
    refine TL.val rfl rfl rfl (Y.assign rfl rfl) ?_
    refine TL.nil ?_
    refine TQ.next ?_
    obtain ⟨⟨t, a1, ac, bs⟩, hx, hxm⟩ := getS (l := l) (i := ys.length) (by omega)
    refine TC.know (dat_some (a := a) (l := l) inn (by omega)) ?_
    rintro ⟨g, off, rfl⟩
    have hbl : bs.length ≤ 140737488351232 := hb _ hxm
    refine TC.to (Ent.atBytes (a := some ⟨g, off, none⟩) pul hxm) ?_
    refine TC.draws 20 [SA.blk b3 (msgC c m f (.slice ya ys.length yc)) 34, SA.blk b1 (msgC c m f (.slice (some ⟨g, off, none⟩) l.length cap)) 25, SA.dat (⟨some ⟨g, off, none⟩, cap, l⟩ : Sl At)] (by kernel_rfl) (by kernel_rfl) (by repeat first | exact holds_nil | refine holds_cons inn ?_) ?_
    refine TA.take 0 rfl rfl rfl rfl (by kernel_rfl) (by kernel_rfl) (by kernel_rfl) rfl (by kernel_rfl) (by kernel_rfl) (fun _ _ _ h => h) (by first | exact Y.fieldAddrJ rfl fo34_3 rfl nqq | exact Y.fieldAddr rfl fo34_3 rfl nqq) ?_
    refine TA.take 1 rfl rfl rfl rfl (by kernel_rfl) (by kernel_rfl) (by kernel_rfl) rfl (by kernel_rfl) (by kernel_rfl) (fun _ _ _ h => h) (Y.load rfl sc32 rfl celD) ?_
    refine TA.take 2 rfl rfl rfl rfl (by kernel_rfl) (by kernel_rfl) (by kernel_rfl) rfl (by kernel_rfl) (by kernel_rfl) (fun _ _ _ h => h) (by first | exact Y.fieldAddrJ rfl fo25_3 rfl nqq | exact Y.fieldAddr rfl fo25_3 rfl nqq) ?_
    refine TA.take 3 rfl rfl rfl rfl (by kernel_rfl) (by kernel_rfl) (by kernel_rfl) rfl (by kernel_rfl) (by kernel_rfl) (fun _ _ _ h => h) (Y.load rfl sc23 rfl celD) ?_
    refine TA.take 4 rfl rfl rfl rfl (by kernel_rfl) (by kernel_rfl) (by kernel_rfl) rfl (by kernel_rfl) (by kernel_rfl) (fun _ _ _ h => h) (Y.move rfl rfl) ?_
    refine TA.take 5 rfl rfl rfl rfl (by kernel_rfl) (by kernel_rfl) (by kernel_rfl) rfl (by kernel_rfl) (by kernel_rfl) (fun _ _ _ h => h) (by first | exact Y.indexSlB rfl sl23 rfl rfl (by omega) nqq | exact Y.indexSl rfl sl23 rfl rfl (by omega) nqq) ?_
    refine TA.take 6 rfl rfl rfl rfl (by kernel_rfl) (by kernel_rfl) (by kernel_rfl) rfl (by kernel_rfl) (by kernel_rfl) (fun _ _ _ h => h) (by first | exact Y.fieldAddrJ rfl fo65_0 rfl nqq | exact Y.fieldAddr rfl fo65_0 rfl nqq) ?_
    refine TA.take 7 rfl rfl rfl rfl (by kernel_rfl) (by kernel_rfl) (by kernel_rfl) rfl (by kernel_rfl) (by kernel_rfl) (fun _ _ _ h => h) (Y.load rfl sc44 rfl cel16) ?_
    refine TA.as (v16 t) (by rfl) ?_
    refine TA.take 9 rfl rfl rfl rfl (by kernel_rfl) (by kernel_rfl) (by kernel_rfl) rfl (by kernel_rfl) (by kernel_rfl) (fun _ _ _ h => h) (by first | exact Y.fieldAddrJ rfl fo25_3 rfl nqq | exact Y.fieldAddr rfl fo25_3 rfl nqq) ?_
    refine TA.take 10 rfl rfl rfl rfl (by kernel_rfl) (by kernel_rfl) (by kernel_rfl) rfl (by kernel_rfl) (by kernel_rfl) (fun _ _ _ h => h) (Y.load rfl sc23 rfl celD) ?_
    refine TA.take 11 rfl rfl rfl rfl (by kernel_rfl) (by kernel_rfl) (by kernel_rfl) rfl (by kernel_rfl) (by kernel_rfl) (fun _ _ _ h => h) (Y.move rfl rfl) ?_
    refine TA.take 12 rfl rfl rfl rfl (by kernel_rfl) (by kernel_rfl) (by kernel_rfl) rfl (by kernel_rfl) (by kernel_rfl) (fun _ _ _ h => h) (by first | exact Y.indexSlB rfl sl23 rfl rfl (by omega) nqq | exact Y.indexSl rfl sl23 rfl rfl (by omega) nqq) ?_
    refine TA.take 13 rfl rfl rfl rfl (by kernel_rfl) (by kernel_rfl) (by kernel_rfl) rfl (by kernel_rfl) (by kernel_rfl) (fun _ _ _ h => h) (by first | exact Y.fieldAddrJ rfl fo65_1 rfl nqq | exact Y.fieldAddr rfl fo65_1 rfl nqq) ?_
    refine TA.take 14 rfl rfl rfl rfl (by kernel_rfl) (by kernel_rfl) (by kernel_rfl) rfl (by kernel_rfl) (by kernel_rfl) (fun _ _ _ h => h) (Y.load rfl sc27 rfl celD) ?_
    refine TA.as (.slice a1 bs.length ac) (by rfl) ?_
    refine TA.one 8 (by kernel_rfl) rfl rfl rfl rfl (X.lit rfl el27 rfl rfl rfl (by decide) rfl) ?_
    rintro _ _ ⟨g26, rfl, rfl⟩
    refine ⟨(Or.inr (by repeat first | exact holds_nil | refine holds_cons inn ?_)), ?_⟩
    refine TA.one 15 (by kernel_rfl) rfl rfl rfl rfl (X.appendS rfl el27 rfl pul rfl (by first | exact Src.owns Try.underlying27 inn | exact Src.rds Try.underlying27 inn | exact Src.reads (by assumption) Try.underlying27 inn) (by simp only [maxLen]; omega) (by omega)) ?_
    rintro _ _ ⟨a33, c33, rfl, rfl⟩
    simp only [Nat.zero_add, List.nil_append]
    refine ⟨(Or.inr (by repeat first | exact holds_nil | refine holds_cons inn ?_)), ?_⟩
    refine TA.take 16 rfl rfl rfl rfl (by kernel_rfl) (by kernel_rfl) (by kernel_rfl) rfl (by kernel_rfl) (by kernel_rfl) (fun _ _ _ h => h) (Y.buildS (cells := #[v16 t, .slice a33 bs.length c33]) rfl rfl pl73 zc73 (by kernel_rfl)) ?_
    refine TA.one 17 (by kernel_rfl) rfl rfl rfl rfl (X.litA (bytes := 0) (z := .nilFunc) rfl Try.underlying32 zs73 rfl rfl rfl (by decide) (by decide) (by decide) rfl (cells := [v16 t, .slice a33 bs.length c33]) rfl rfl) ?_
    rintro _ _ ⟨g35, rfl, rfl⟩
    refine ⟨(Or.inr (by repeat first | exact holds_nil | refine holds_cons inn ?_)), ?_⟩
    refine TA.one 18 (by kernel_rfl) rfl rfl rfl rfl (X.appendS rfl el32 rfl pul rfl (by first | exact Src.owns Try.underlying32 inn | exact Src.rds Try.underlying32 inn | exact Src.reads (by assumption) Try.underlying32 inn) (by simp only [maxLen]; omega) (by omega)) ?_
    rintro _ _ ⟨a36, c36, rfl, rfl⟩
    rw [show Dat.cs ys ++ [v16 t, .slice a33 bs.length c33] = Dat.cs (ys ++ [((t, ⟨a33, c33, bs⟩) : At)]) from (Dat.cs_app ys [((t, ⟨a33, c33, bs⟩) : At)]).symm, show ys.length + 1 = (ys ++ [((t, ⟨a33, c33, bs⟩) : At)]).length by simp]
    refine ⟨(Or.inr (by repeat first | exact holds_nil | refine holds_cons inn ?_)), ?_⟩
    refine TA.take 19 rfl rfl rfl rfl (by kernel_rfl) (by kernel_rfl) (by kernel_rfl) rfl (by kernel_rfl) (by kernel_rfl) (fun _ _ _ h => h) (by first | exact Y.fieldAddrJ rfl fo34_3 rfl nqq | exact Y.fieldAddr rfl fo34_3 rfl nqq) ?_
    refine TA.one0 20 (by kernel_rfl) rfl rfl rfl (X.store rfl (by kernel_rfl) rfl rfl rfl pul (by rw [msgC_size]; omega) rfl) ?_
    rintro _ _ rfl
    rw [show (msgC c m f (.slice ya ys.length yc)).setIfInBounds 14 (.slice a36 (ys ++ [((t, ⟨a33, c33, bs⟩) : At)]).length c36) = msgC c m f (.slice a36 (ys ++ [((t, ⟨a33, c33, bs⟩) : At)]).length c36) from rfl]
    refine ⟨(Or.inl (by kernel_rfl)), ?_⟩
    refine TA.done (by kernel_rfl) ?_
    refine TQ.block_normal ?_
    refine TQ.next ?_
    refine TC.region ?_
    refine TL.val rfl rfl rfl (Y.bin rfl rfl rfl (br_addN (n := 1) (by omega))) ?_
    refine TL.val rfl rfl rfl (Y.move rfl rfl) ?_
    refine TL.nil ?_
    refine TQ.to ((Ent.mkAt (t := t) (a := a33) pul rfl).trans (Ent.addEl pul pul)) ?_
    rw [show ys.length + 1 = (ys ++ [((t, ⟨a33, c33, bs⟩) : At)]).length by simp]
    refine TQ.loopF ((a36, c36, ys ++ [(t, ⟨a33, c33, bs⟩)])) (⟨by
  simp only [List.map_append, List.length_append, List.length_cons, List.length_nil, List.map_cons, List.map_nil]
  rw [map_take_s hx, hys]; rfl, by simp; omega⟩) (by simp; omega) ⟨rfl, trivial⟩ (by (repeat first | apply Grow.refl | apply Grow.step | apply Grow.app)) ?_ ?_ ?_
    · kernel_rfl
    · rfl
    · simp only [List.cons_append, List.nil_append]
      exact ett
  · try simp only [decide_eq_true_eq, decide_eq_false_iff_not, Bool.not_eq_true', Bool.not_eq_false', Bool.and_eq_true, Bool.or_eq_true, Nat.not_lt, Nat.not_le, beq_iff_eq, bne_iff_ne] at c0
    refine TC.exit ?_
    refine TQ.then_exit ?_
    refine TQ.then_exit ?_
    refine TQ.block_exit ?_
    refine TQ.next ?_
    refine TC.seq ?_
    have hkl : ys.length = l.length := by omega
    rw [hkl, ← List.length_map (f := pl), List.take_length] at hys
    refine TC.region ?_
    refine TL.val rfl rfl rfl (Y.loadAgg rfl ag34 rfl (Cels.all (cs := msgC c m f (.slice ya ys.length yc)) inn) (by first | rfl | ((try simp only [List.length_map, List.length_set, List.length_replicate]); omega))) ?_
    refine TL.as (.agg (msgC c m f (.slice ya ys.length yc))) (by rfl) ?_
    refine TL.eff0 rfl rfl (X.storeAll rfl (by kernel_rfl) (msgC_size c m f _) rfl rfl (msg_one c m f _ _ _) pul rfl) ?_
    rintro _ _ rfl
    refine TL.nil ?_
    refine TQ.next ?_
    refine TC.ret ?_
    refine TQ.retE (resC rfl ag34 rfl (Cels.all (cs := msgC c m f (.slice ya ys.length yc)) inn) rfl) (⟨ya, yc, ys, rfl, hys, rfl⟩) ?_
    exact (Ent.trans (Ent.mkOwn (a := ya) pul pul rfl rfl rfl) ett)
end stun
end Go.Proofs.Ytggammbhmoippaa
