/- ours, Same; the statement StunParses, walked. -/
import Derived.Test.YtggammbhmoippaaStunRP
import Derived.Test.YtggammbhmoippaaHAuto
namespace Go.Proofs.Ytggammbhmoippaa
set_option linter.unusedVariables false
set_option linter.unusedSimpArgs false
open Go.RowKit
namespace stun
namespace FxStunSame
set_option maxRecDepth 100000
theorem ag22 : Program.aggN Try.prog 22 = some 12 := by kernel_rfl
theorem ag25 : Program.aggN Try.prog 25 = some 15 := by kernel_rfl
theorem ag34 : Program.aggN Try.prog 34 = some 15 := by kernel_rfl
theorem eg22 : Program.eqGuardType Try.prog Try.prog.depth 22 = false := by kernel_rfl
theorem el23 : Elt Try.prog 23 65 2 32 (.agg #[.int .u16 0, .slice none 0 0]) := ⟨Try.underlying23, by kernel_rfl, rfl, by decide, by simp [Value.cells, Value.oneCell']⟩
theorem fo25_0 : Program.fieldOff Try.prog 25 0 = some 0 := by kernel_rfl
theorem fo25_1 : Program.fieldOff Try.prog 25 1 = some 1 := by kernel_rfl
theorem fo25_2 : Program.fieldOff Try.prog 25 2 = some 2 := by kernel_rfl
theorem fo25_3 : Program.fieldOff Try.prog 25 3 = some 14 := by kernel_rfl
theorem fo34_0 : Program.fieldOff Try.prog 34 0 = some 0 := by kernel_rfl
theorem fo34_1 : Program.fieldOff Try.prog 34 1 = some 1 := by kernel_rfl
theorem fo34_2 : Program.fieldOff Try.prog 34 2 = some 2 := by kernel_rfl
theorem fo34_3 : Program.fieldOff Try.prog 34 3 = some 14 := by kernel_rfl
theorem fo65_0 : Program.fieldOff Try.prog 65 0 = some 0 := by kernel_rfl
theorem fo65_1 : Program.fieldOff Try.prog 65 1 = some 1 := by kernel_rfl
theorem fo73_0 : Program.fieldOff Try.prog 73 0 = some 0 := by kernel_rfl
theorem fo73_1 : Program.fieldOff Try.prog 73 1 = some 1 := by kernel_rfl
theorem pl25 : Program.places Try.prog 25 = some [(0, 1), (1, 1), (2, 12), (14, 1)] := by kernel_rfl
theorem pl65 : Program.places Try.prog 65 = some [(0, 1), (1, 1)] := by kernel_rfl
theorem sc23 : Program.isSc Try.prog 23 = true := by kernel_rfl
theorem sc27 : Program.isSc Try.prog 27 = true := by kernel_rfl
theorem sc3 : Program.isSc Try.prog 3 = true := by kernel_rfl
theorem sc32 : Program.isSc Try.prog 32 = true := by kernel_rfl
theorem sc44 : Program.isSc Try.prog 44 = true := by kernel_rfl
theorem sl23 : Program.slI Try.prog 23 = some 2 := by kernel_rfl
theorem sl32 : Program.slI Try.prog 32 = some 2 := by kernel_rfl
theorem sz25 : (Try.prog.info? 25).map (·.size) = some 15 := by kernel_rfl
theorem sz34 : (Try.prog.info? 34).map (·.size) = some 15 := by kernel_rfl
theorem sz5 : (Try.prog.info? 5).map (·.size) = some 1 := by kernel_rfl
theorem zc25 : Program.zeroC Try.prog 25 = some #[.int .i64 0, .int .i64 0, .int .u8 0, .int .u8 0, .int .u8 0, .int .u8 0, .int .u8 0, .int .u8 0, .int .u8 0, .int .u8 0, .int .u8 0, .int .u8 0, .int .u8 0, .int .u8 0, .slice none 0 0] := by kernel_rfl
theorem zc34 : Program.zeroC Try.prog 34 = some #[.int .i64 0, .int .i64 0, .int .u8 0, .int .u8 0, .int .u8 0, .int .u8 0, .int .u8 0, .int .u8 0, .int .u8 0, .int .u8 0, .int .u8 0, .int .u8 0, .int .u8 0, .int .u8 0, .slice none 0 0] := by kernel_rfl
theorem zc65 : Program.zeroC Try.prog 65 = some #[.int .u16 0, .slice none 0 0] := by kernel_rfl
theorem zs65 : ((Try.prog.info? 65).bind fun i => i.zero.map fun z => (i.size, z.cells.size)) = some (2, 2) := by kernel_rfl
end FxStunSame
open FxStunSame
theorem Ent.hang {α : Type} [Dat α] {a : Option Addr} {cap : Nat} {l : List α} {L L1 : List SA} (hp : Pull (SA.dat (⟨a, cap, l⟩ : Sl α)) L L1) : Ent L (SA.rdss (l.flatMap Dat.g) :: SA.dat (⟨a, cap, l⟩ : Sl α) :: L1) :=
  hp.ent.trans (Ent.rdss_sub fun q hq => List.mem_cons_of_mem _ hq)
theorem cs_take_s {l : List At} {k : Nat} {x : At} (h : l[k]? = some x) : Dat.cs (l.take k) ++ Dat.c x = Dat.cs (l.take (k + 1)) := by
  rw [List.take_add_one, h, Option.toList_some, Dat.cs_app, Dat.cs_one]
theorem take_len {α : Type} {l : List α} {k : Nat} (h : k ≤ l.length) : (l.take k).length = k := by rw [List.length_take]; omega
set_option maxHeartbeats 1000000 in
--REG rostrum/rostrumlaw04.ours : _ _ ⟨oa{d}, oc{d}, rfl, rfl⟩ => (stun.ours_fn _ _ _ _ _ _ (by assumption) _)
theorem ours_fn (c m : Int) (f : Nat → UInt8) (a : Option Addr) (cap : Nat) (l : List At) (hl : l.length * 32 ≤ 140737488351232) (L : List SA) :
    Fn Try.prog 16 [.agg (msgC c m f (.slice a l.length cap))] (SA.dat (⟨a, cap, l⟩ : Sl At) :: L)
      (fun v L' => ∃ a' cap', v = .agg (msgC c m f (.slice a' l.length cap')) ∧ L' = SA.dat (⟨a', cap', l⟩ : Sl At) :: SA.dat (⟨a, cap, l⟩ : Sl At) :: L) := by
  refine Fn.of (N := 38) Try.func16 rfl rfl ?_
  intro Xh
  refine TC.seq ?_
  refine TC.region ?_
  refine TL.eff rfl rfl rfl (X.boxA rfl rfl) ?_
  rintro _ _ ⟨b1, rfl, rfl⟩
  refine TL.eff rfl rfl rfl (X.alloc rfl zc25) ?_
  rintro _ _ ⟨b2, rfl, rfl⟩
  refine TL.nil ?_
  refine TQ.next ?_
  refine TC.seq ?_
  refine TC.region ?_
  refine TL.val rfl rfl rfl (by first | exact Y.fieldAddrJ rfl fo34_0 rfl nqq | exact Y.fieldAddr rfl fo34_0 rfl nqq) ?_
  refine TL.val rfl rfl rfl (Y.load rfl sc3 rfl celN) ?_
  refine TL.val rfl rfl rfl (by first | exact Y.fieldAddrJ rfl fo34_1 rfl nqq | exact Y.fieldAddr rfl fo34_1 rfl nqq) ?_
  refine TL.val rfl rfl rfl (Y.load rfl sc3 rfl celN) ?_
  refine TL.val rfl rfl rfl (by first | exact Y.fieldAddrJ rfl fo34_2 rfl nqq | exact Y.fieldAddr rfl fo34_2 rfl nqq) ?_
  refine TL.val rfl rfl rfl (Y.loadAgg rfl ag22 rfl (Cels.blk inn (cs := msgC c m f (.slice a l.length cap)) (l := (idL f).map v8) (msg_id c m f _)) (by first | rfl | ((try simp only [List.length_map, List.length_set, List.length_replicate]); omega))) ?_
  refine TL.val rfl rfl rfl (Y.buildS (cells := msgC c m f (.slice none 0 0)) rfl rfl pl25 zc25 (by kernel_rfl)) ?_
  refine TL.eff rfl rfl rfl (X.alloc rfl zc25) ?_
  rintro _ _ ⟨b3, rfl, rfl⟩
  refine TL.eff0 rfl rfl (X.storeAll rfl (by kernel_rfl) (msgC_size c m f _) rfl rfl (msg_one c m f _ _ _) pul rfl) ?_
  rintro _ _ rfl
  refine TL.to (Pull.ent (A := SA.blk b3 (msgC c m f (.slice none 0 0)) 25) pul) ?_
  refine TL.nil ?_
  refine TQ.next ?_
  refine TC.seq ?_
  refine TC.seq ?_
  refine TC.region ?_
  refine TL.val rfl rfl rfl (by first | exact Y.fieldAddrJ rfl fo34_3 rfl nqq | exact Y.fieldAddr rfl fo34_3 rfl nqq) ?_
  refine TL.val rfl rfl rfl (Y.load rfl sc32 rfl celD) ?_
  refine TL.val rfl rfl rfl (Y.len rfl Try.underlying32 rfl) ?_
  refine TL.val rfl rfl rfl (Y.move rfl rfl) ?_
  refine TL.nil ?_
  refine TQ.next ?_
  refine TC.block ?_
  refine TC.to (Ent.nilOwn 65 2) ?_
  refine TC.loopF (ι := Option Addr × Nat × Nat) [] (fun i => i.2.2 ≤ l.length) (fun i => [(15, some (vN i.2.2))]) (fun i => [SA.blk b3 (msgC c m f (.slice i.1 i.2.2 i.2.1)) 25, SA.owns 65 2 (.slice i.1 i.2.2 i.2.1) i.2.2 (Dat.cs (l.take i.2.2))]) (fun i => l.length - i.2.2) ((none, 0, 0)) ((Nat.zero_le _)) ⟨rfl, trivial⟩ (Pulls.cons pul (Pulls.cons pul Pulls.nil)) ?_
  rintro ⟨ya, yc, k⟩ hk F' L' rfl hL'
  simp only [List.cons_append, List.nil_append] at hL'
  subst hL'
  simp only at hk ⊢
  refine TC.seq ?_
  refine TC.region ?_
  refine TL.val rfl rfl rfl (Y.bin rfl rfl rfl (br_ltN)) ?_
  refine TL.nil ?_
  refine TQ.next ?_
  refine TC.seq ?_
  refine TC.cond rfl (fun c0 => ?_) (fun c0 => ?_)
  · try simp only [decide_eq_true_eq, decide_eq_false_iff_not, Bool.not_eq_true', Bool.not_eq_false', Bool.and_eq_true, Bool.or_eq_true, Nat.not_lt, Nat.not_le, beq_iff_eq, bne_iff_ne] at c0
    refine TC.skip ?_
    refine TQ.next ?_
    refine TC.seq ?_
    refine TC.block ?_
    refine TC.seq ?_
    refine TC.region ?_
    refine TL.val rfl rfl rfl (Y.move rfl rfl) ?_
    refine TL.val rfl rfl rfl (Y.assign rfl rfl) ?_
    refine TL.nil ?_
    refine TQ.next ?_
    obtain ⟨⟨t, a1, ac, bs⟩, hx, hxm⟩ := getS (l := l) (i := k) (by omega)
    refine TC.know (dat_some (a := a) (l := l) inn (by omega)) ?_
    rintro ⟨g, off, rfl⟩
    refine TC.draws 18 [SA.blk b3 (msgC c m f (.slice ya k yc)) 25, SA.blk b1 (msgC c m f (.slice (some ⟨g, off, none⟩) l.length cap)) 34, SA.dat (⟨some ⟨g, off, none⟩, cap, l⟩ : Sl At)] (by kernel_rfl) (by kernel_rfl) (by repeat first | exact holds_nil | refine holds_cons inn ?_) ?_
    refine TA.take 0 rfl rfl rfl rfl (by kernel_rfl) (by kernel_rfl) (by kernel_rfl) rfl (by kernel_rfl) (by kernel_rfl) (fun _ _ _ h => h) (by first | exact Y.fieldAddrJ rfl fo25_3 rfl nqq | exact Y.fieldAddr rfl fo25_3 rfl nqq) ?_
    refine TA.take 1 rfl rfl rfl rfl (by kernel_rfl) (by kernel_rfl) (by kernel_rfl) rfl (by kernel_rfl) (by kernel_rfl) (fun _ _ _ h => h) (Y.load rfl sc23 rfl celD) ?_
    refine TA.take 2 rfl rfl rfl rfl (by kernel_rfl) (by kernel_rfl) (by kernel_rfl) rfl (by kernel_rfl) (by kernel_rfl) (fun _ _ _ h => h) (by first | exact Y.fieldAddrJ rfl fo34_3 rfl nqq | exact Y.fieldAddr rfl fo34_3 rfl nqq) ?_
    refine TA.take 3 rfl rfl rfl rfl (by kernel_rfl) (by kernel_rfl) (by kernel_rfl) rfl (by kernel_rfl) (by kernel_rfl) (fun _ _ _ h => h) (Y.load rfl sc32 rfl celD) ?_
    refine TA.take 4 rfl rfl rfl rfl (by kernel_rfl) (by kernel_rfl) (by kernel_rfl) rfl (by kernel_rfl) (by kernel_rfl) (fun _ _ _ h => h) (Y.move rfl rfl) ?_
    refine TA.take 5 rfl rfl rfl rfl (by kernel_rfl) (by kernel_rfl) (by kernel_rfl) rfl (by kernel_rfl) (by kernel_rfl) (fun _ _ _ h => h) (by first | exact Y.indexSlB rfl sl32 rfl rfl (by omega) nqq | exact Y.indexSl rfl sl32 rfl rfl (by omega) nqq) ?_
    refine TA.take 6 rfl rfl rfl rfl (by kernel_rfl) (by kernel_rfl) (by kernel_rfl) rfl (by kernel_rfl) (by kernel_rfl) (fun _ _ _ h => h) (by first | exact Y.fieldAddrJ rfl fo73_0 rfl nqq | exact Y.fieldAddr rfl fo73_0 rfl nqq) ?_
    refine TA.take 7 rfl rfl rfl rfl (by kernel_rfl) (by kernel_rfl) (by kernel_rfl) rfl (by kernel_rfl) (by kernel_rfl) (fun _ _ _ h => h) (Y.load rfl sc44 rfl cel16) ?_
    refine TA.as (v16 t) (by rfl) ?_
    refine TA.take 8 rfl rfl rfl rfl (by kernel_rfl) (by kernel_rfl) (by kernel_rfl) rfl (by kernel_rfl) (by kernel_rfl) (fun _ _ _ h => h) (by first | exact Y.fieldAddrJ rfl fo34_3 rfl nqq | exact Y.fieldAddr rfl fo34_3 rfl nqq) ?_
    refine TA.take 9 rfl rfl rfl rfl (by kernel_rfl) (by kernel_rfl) (by kernel_rfl) rfl (by kernel_rfl) (by kernel_rfl) (fun _ _ _ h => h) (Y.load rfl sc32 rfl celD) ?_
    refine TA.take 10 rfl rfl rfl rfl (by kernel_rfl) (by kernel_rfl) (by kernel_rfl) rfl (by kernel_rfl) (by kernel_rfl) (fun _ _ _ h => h) (Y.move rfl rfl) ?_
    refine TA.take 11 rfl rfl rfl rfl (by kernel_rfl) (by kernel_rfl) (by kernel_rfl) rfl (by kernel_rfl) (by kernel_rfl) (fun _ _ _ h => h) (by first | exact Y.indexSlB rfl sl32 rfl rfl (by omega) nqq | exact Y.indexSl rfl sl32 rfl rfl (by omega) nqq) ?_
    refine TA.take 12 rfl rfl rfl rfl (by kernel_rfl) (by kernel_rfl) (by kernel_rfl) rfl (by kernel_rfl) (by kernel_rfl) (fun _ _ _ h => h) (by first | exact Y.fieldAddrJ rfl fo73_1 rfl nqq | exact Y.fieldAddr rfl fo73_1 rfl nqq) ?_
    refine TA.take 13 rfl rfl rfl rfl (by kernel_rfl) (by kernel_rfl) (by kernel_rfl) rfl (by kernel_rfl) (by kernel_rfl) (fun _ _ _ h => h) (Y.load rfl sc27 rfl celD) ?_
    refine TA.as (.slice a1 bs.length ac) (by rfl) ?_
    refine TA.take 14 rfl rfl rfl rfl (by kernel_rfl) (by kernel_rfl) (by kernel_rfl) rfl (by kernel_rfl) (by kernel_rfl) (fun _ _ _ h => h) (Y.buildS (cells := #[v16 t, .slice a1 bs.length ac]) rfl rfl pl65 zc65 (by kernel_rfl)) ?_
    refine TA.one 15 (by kernel_rfl) rfl rfl rfl rfl (X.litA (bytes := 0) (z := .nilFunc) rfl Try.underlying23 zs65 rfl rfl rfl (by decide) (by decide) (by decide) rfl (cells := [v16 t, .slice a1 bs.length ac]) rfl rfl) ?_
    rintro _ _ ⟨g33, rfl, rfl⟩
    refine ⟨(Or.inr (by repeat first | exact holds_nil | refine holds_cons inn ?_)), ?_⟩
    refine TA.one 16 (by kernel_rfl) rfl rfl rfl rfl (X.appendS rfl el23 rfl pul rfl (by first | exact Src.owns Try.underlying23 inn | exact Src.rds Try.underlying23 inn | exact Src.reads (by assumption) Try.underlying23 inn) (by simp only [maxLen]; omega) (by omega)) ?_
    rintro _ _ ⟨a34, c34, rfl, rfl⟩
    rw [show Dat.cs (l.take k) ++ [v16 t, .slice a1 bs.length ac] = Dat.cs (l.take (k + 1)) from cs_take_s hx]
    refine ⟨(Or.inr (by repeat first | exact holds_nil | refine holds_cons inn ?_)), ?_⟩
    refine TA.take 17 rfl rfl rfl rfl (by kernel_rfl) (by kernel_rfl) (by kernel_rfl) rfl (by kernel_rfl) (by kernel_rfl) (fun _ _ _ h => h) (by first | exact Y.fieldAddrJ rfl fo25_3 rfl nqq | exact Y.fieldAddr rfl fo25_3 rfl nqq) ?_
    refine TA.one0 18 (by kernel_rfl) rfl rfl rfl (X.store rfl (by kernel_rfl) rfl rfl rfl pul (by rw [msgC_size]; omega) rfl) ?_
    rintro _ _ rfl
    rw [show (msgC c m f (.slice ya k yc)).setIfInBounds 14 (.slice a34 (k + 1) c34) = msgC c m f (.slice a34 (k + 1) c34) from rfl]
    refine ⟨(Or.inl (by kernel_rfl)), ?_⟩
    refine TA.done (by kernel_rfl) ?_
    refine TQ.block_normal ?_
    refine TQ.next ?_
    refine TC.region ?_
    refine TL.val rfl rfl rfl (Y.bin rfl rfl rfl (br_addN (n := 1) (by omega))) ?_
    refine TL.val rfl rfl rfl (Y.move rfl rfl) ?_
    refine TL.nil ?_
    refine TQ.loopF ((a34, c34, k + 1)) ((by simp only; omega)) ((by simp only; omega)) ⟨rfl, trivial⟩ (by (repeat first | apply Grow.refl | apply Grow.step | apply Grow.app)) ?_ ?_ ?_
    · kernel_rfl
    · rfl
    · simp only [List.cons_append, List.nil_append]
      exact ett
  · try simp only [decide_eq_true_eq, decide_eq_false_iff_not, Bool.not_eq_true', Bool.not_eq_false', Bool.and_eq_true, Bool.or_eq_true, Nat.not_lt, Nat.not_le, beq_iff_eq, bne_iff_ne] at c0
    refine TC.exit ?_
    refine TQ.then_exit ?_
    refine TQ.then_exit ?_
    refine TQ.block_exit ?_
    refine TQ.next ?_
    refine TC.seq ?_
    obtain rfl : k = l.length := by omega
    rw [List.take_length]
    refine TC.region ?_
    refine TL.val rfl rfl rfl (Y.loadAgg rfl ag25 rfl (Cels.all (cs := msgC c m f (.slice ya l.length yc)) inn) (by first | rfl | ((try simp only [List.length_map, List.length_set, List.length_replicate]); omega))) ?_
    refine TL.as (.agg (msgC c m f (.slice ya l.length yc))) (by rfl) ?_
    refine TL.eff0 rfl rfl (X.storeAll rfl (by kernel_rfl) (msgC_size c m f _) rfl rfl (msg_one c m f _ _ _) pul rfl) ?_
    rintro _ _ rfl
    refine TL.nil ?_
    refine TQ.next ?_
    refine TC.ret ?_
    refine TQ.retE (resC rfl ag25 rfl (Cels.all (cs := msgC c m f (.slice ya l.length yc)) inn) rfl) (⟨ya, yc, rfl, rfl⟩) ?_
    exact ((Ent.hang (a := a) pul).trans (Ent.trans (Ent.mkOwn (a := ya) pul pul rfl rfl rfl) ett))
theorem getS' {α β : Type} {g : α → β} {l l' : List α} {i : Nat} {x x' : α} (h : l.map g = l'.map g) (hx : l[i]? = some x) (hx' : l'[i]? = some x') : g x = g x' := by
  have h1 : (l.map g)[i]? = some (g x) := by rw [List.getElem?_map, hx]; rfl
  have h2 : (l'.map g)[i]? = some (g x') := by rw [List.getElem?_map, hx']; rfl
  rw [h, h2] at h1
  exact (Option.some.inj h1).symm
set_option maxHeartbeats 1000000 in
--REG rostrum/rostrumref04.Same : _ _ ⟨rfl, rfl⟩ => (stun.Same_fn _ _ _ _ _ _ _ _ _ _ (by first | assumption | rfl) (by first | assumption | rfl) _)
theorem Same_fn (c m : Int) (f f' : Nat → UInt8) (a a' : Option Addr) (cap cap' : Nat) (l l' : List At) (hid : idL f = idL f') (hl : l.map pl = l'.map pl) (L : List SA) :
    Fn Try.prog 15 [.agg (msgC c m f (.slice a l.length cap)), .agg (msgC c m f' (.slice a' l'.length cap'))] (SA.dat (⟨a, cap, l⟩ : Sl At) :: SA.dat (⟨a', cap', l'⟩ : Sl At) :: L)
      (fun v L' => v = .bool true ∧ L' = SA.dat (⟨a, cap, l⟩ : Sl At) :: SA.dat (⟨a', cap', l'⟩ : Sl At) :: L) := by
  have hll : l.length = l'.length := by rw [← List.length_map (f := pl), hl, List.length_map]
  refine Fn.of (N := 71) Try.func15 rfl rfl ?_
  intro Xh
  refine TC.know (dat_cap (a := a) (l := l) inn) ?_
  rintro ⟨hc1, hc2, -⟩
  refine TC.seq ?_
  refine TC.region ?_
  refine TL.eff rfl rfl rfl (X.boxA rfl rfl) ?_
  rintro _ _ ⟨b2, rfl, rfl⟩
  refine TL.eff rfl rfl rfl (X.boxA rfl rfl) ?_
  rintro _ _ ⟨b3, rfl, rfl⟩
  refine TL.val rfl rfl rfl (Y.assign rfl rfl) ?_
  refine TL.nil ?_
  refine TQ.next ?_
  refine TC.seq ?_
  refine TC.seq ?_
  refine TC.region ?_
  refine TL.val rfl rfl rfl (by first | exact Y.fieldAddrJ rfl fo25_0 rfl nqq | exact Y.fieldAddr rfl fo25_0 rfl nqq) ?_
  refine TL.val rfl rfl rfl (Y.load rfl sc3 rfl celN) ?_
  refine TL.val rfl rfl rfl (by first | exact Y.fieldAddrJ rfl fo25_0 rfl nqq | exact Y.fieldAddr rfl fo25_0 rfl nqq) ?_
  refine TL.val rfl rfl rfl (Y.load rfl sc3 rfl celN) ?_
  refine TL.val rfl rfl rfl (Y.bin rfl rfl rfl br_neI) ?_
  refine TL.is false (by first | rfl | (simp only [decide_eq_true_eq, decide_eq_false_iff_not, Bool.not_eq_true', Bool.not_eq_false', Bool.not_eq_eq_eq_not, Bool.not_true, Bool.not_false, Nat.not_lt, Nat.not_le]; omega) | (simp [*]; done) | (simp; omega)) ?_
  refine TL.val rfl rfl rfl (Y.move rfl rfl) ?_
  refine TL.valG rfl rfl rfl (by first | exact Y.fieldAddrJ rfl fo25_1 rfl nqq | exact Y.fieldAddr rfl fo25_1 rfl nqq) ?_
  refine TL.valG rfl rfl rfl (Y.load rfl sc3 rfl celN) ?_
  refine TL.valG rfl rfl rfl (by first | exact Y.fieldAddrJ rfl fo25_1 rfl nqq | exact Y.fieldAddr rfl fo25_1 rfl nqq) ?_
  refine TL.valG rfl rfl rfl (Y.load rfl sc3 rfl celN) ?_
  refine TL.valG rfl rfl rfl (Y.bin rfl rfl rfl br_neI) ?_
  refine TL.is false (by first | rfl | (simp only [decide_eq_true_eq, decide_eq_false_iff_not, Bool.not_eq_true', Bool.not_eq_false', Bool.not_eq_eq_eq_not, Bool.not_true, Bool.not_false, Nat.not_lt, Nat.not_le]; omega) | (simp [*]; done) | (simp; omega)) ?_
  refine TL.val rfl rfl rfl (Y.pick_f rfl rfl rfl) ?_
  refine TL.val rfl rfl rfl (Y.move rfl rfl) ?_
  refine TL.valG rfl rfl rfl (by first | exact Y.fieldAddrJ rfl fo25_2 rfl nqq | exact Y.fieldAddr rfl fo25_2 rfl nqq) ?_
  refine TL.valG rfl rfl rfl (Y.loadAgg rfl ag22 rfl (Cels.blk inn (cs := msgC c m f (.slice a l.length cap)) (l := (idL f).map v8) (msg_id c m f _)) (by first | rfl | ((try simp only [List.length_map, List.length_set, List.length_replicate]); omega))) ?_
  refine TL.valG rfl rfl rfl (by first | exact Y.fieldAddrJ rfl fo25_2 rfl nqq | exact Y.fieldAddr rfl fo25_2 rfl nqq) ?_
  refine TL.valG rfl rfl rfl (Y.loadAgg rfl ag22 rfl (Cels.blk inn (cs := msgC c m f' (.slice a' l'.length cap')) (l := (idL f').map v8) (msg_id c m f' _)) (by first | rfl | ((try simp only [List.length_map, List.length_set, List.length_replicate]); omega))) ?_
  refine TL.valG rfl rfl rfl (Y.neArr8 rfl Try.underlying22 Try.underlying5 sz5 eg22 rfl rfl szz szz) ?_
  refine TL.is false (by first | rfl | (simp only [decide_eq_true_eq, decide_eq_false_iff_not, Bool.not_eq_true', Bool.not_eq_false', Bool.not_eq_eq_eq_not, Bool.not_true, Bool.not_false, Nat.not_lt, Nat.not_le]; omega) | (simp [*]; done) | (simp; omega)) ?_
  refine TL.val rfl rfl rfl (Y.pick_f rfl rfl rfl) ?_
  refine TL.val rfl rfl rfl (Y.move rfl rfl) ?_
  refine TL.valG rfl rfl rfl (by first | exact Y.fieldAddrJ rfl fo25_3 rfl nqq | exact Y.fieldAddr rfl fo25_3 rfl nqq) ?_
  refine TL.valG rfl rfl rfl (Y.load rfl sc23 rfl celD) ?_
  refine TL.valG rfl rfl rfl (Y.len rfl Try.underlying23 rfl) ?_
  refine TL.valG rfl rfl rfl (by first | exact Y.fieldAddrJ rfl fo25_3 rfl nqq | exact Y.fieldAddr rfl fo25_3 rfl nqq) ?_
  refine TL.valG rfl rfl rfl (Y.load rfl sc23 rfl celD) ?_
  refine TL.valG rfl rfl rfl (Y.len rfl Try.underlying23 rfl) ?_
  refine TL.valG rfl rfl rfl (Y.bin rfl rfl rfl (br_neN)) ?_
  refine TL.is false (by first | rfl | (simp only [decide_eq_true_eq, decide_eq_false_iff_not, Bool.not_eq_true', Bool.not_eq_false', Bool.not_eq_eq_eq_not, Bool.not_true, Bool.not_false, Nat.not_lt, Nat.not_le]; omega) | (simp [*]; done) | (simp; omega)) ?_
  refine TL.val rfl rfl rfl (Y.pick_f rfl rfl rfl) ?_
  refine TL.nil ?_
  refine TQ.next ?_
  refine TC.cond_f rfl ?_
  refine TC.skip ?_
  refine TQ.next ?_
  refine TC.seq ?_
  refine TC.seq ?_
  refine TC.region ?_
  refine TL.val rfl rfl rfl (by first | exact Y.fieldAddrJ rfl fo25_3 rfl nqq | exact Y.fieldAddr rfl fo25_3 rfl nqq) ?_
  refine TL.val rfl rfl rfl (Y.load rfl sc23 rfl celD) ?_
  refine TL.val rfl rfl rfl (Y.len rfl Try.underlying23 rfl) ?_
  refine TL.val rfl rfl rfl (Y.move rfl rfl) ?_
  refine TL.nil ?_
  refine TQ.next ?_
  refine TC.block ?_
  refine TC.loopF (ι := Nat) [4] (fun k => k ≤ l.length) (fun k => [(37, some (vN k))]) (fun k => []) (fun k => l.length - k) (0) (by omega) ⟨rfl, trivial⟩ Pulls.nil ?_
  rintro k hk F' L' rfl hL'
  simp only [List.cons_append, List.nil_append] at hL'
  subst hL'
  refine TC.seq ?_
  refine TC.region ?_
  refine TL.val rfl rfl rfl (Y.bin rfl rfl rfl (br_ltN)) ?_
  refine TL.nil ?_
  refine TQ.next ?_
  refine TC.seq ?_
  refine TC.cond rfl (fun c1 => ?_) (fun c1 => ?_)
  · try simp only [decide_eq_true_eq, decide_eq_false_iff_not, Bool.not_eq_true', Bool.not_eq_false', Bool.and_eq_true, Bool.or_eq_true, Nat.not_lt, Nat.not_le, beq_iff_eq, bne_iff_ne] at c1
    refine TC.skip ?_
    refine TQ.next ?_
    refine TC.seq ?_
    refine TC.block ?_
    refine TC.seq ?_
    refine TC.region ?_
    refine TL.val rfl rfl rfl (Y.move rfl rfl) ?_
    refine TL.val rfl rfl rfl (Y.assign rfl rfl) ?_
    refine TL.nil ?_
    refine TQ.next ?_
    refine TC.seq ?_
    obtain ⟨⟨t, a1, ac, bs⟩, hx, hxm⟩ := getS (l := l) (i := k) (by omega)
    obtain ⟨⟨t', a1', ac', bs'⟩, hx', hxm'⟩ := getS (l := l') (i := k) (by omega)
    have hq := getS' hl hx hx'
    simp only [pl, Prod.mk.injEq] at hq
    obtain ⟨rfl, rfl⟩ := hq
    refine TC.know (dat_some (a := a) (l := l) inn (by omega)) ?_
    rintro ⟨g, off, rfl⟩
    refine TC.know (dat_some (a := a') (l := l') inn (by omega)) ?_
    rintro ⟨g', off', rfl⟩
    refine TC.to (Ent.atBytes (a := some ⟨g, off, none⟩) pul hxm) ?_
    refine TC.to (Ent.atBytes (a := some ⟨g', off', none⟩) pul hxm') ?_
    refine TC.draws 30 [SA.blk b2 (msgC c m f (.slice (some ⟨g, off, none⟩) l.length cap)) 25, SA.blk b3 (msgC c m f' (.slice (some ⟨g', off', none⟩) l'.length cap')) 25, SA.dat (⟨some ⟨g, off, none⟩, cap, l⟩ : Sl At), SA.dat (⟨some ⟨g', off', none⟩, cap', l'⟩ : Sl At), SA.rds 1 (.slice a1 bs.length ac) bs.length (bs.map v8), SA.rds 1 (.slice a1' bs.length ac') bs.length (bs.map v8)] (by kernel_rfl) (by kernel_rfl) (by repeat first | exact holds_nil | refine holds_cons inn ?_) ?_
    refine TA.take 0 rfl rfl rfl rfl (by kernel_rfl) (by kernel_rfl) (by kernel_rfl) rfl (by kernel_rfl) (by kernel_rfl) (fun _ _ _ h => h) (by first | exact Y.fieldAddrJ rfl fo25_3 rfl nqq | exact Y.fieldAddr rfl fo25_3 rfl nqq) ?_
    refine TA.take 1 rfl rfl rfl rfl (by kernel_rfl) (by kernel_rfl) (by kernel_rfl) rfl (by kernel_rfl) (by kernel_rfl) (fun _ _ _ h => h) (Y.load rfl sc23 rfl celD) ?_
    refine TA.take 2 rfl rfl rfl rfl (by kernel_rfl) (by kernel_rfl) (by kernel_rfl) rfl (by kernel_rfl) (by kernel_rfl) (fun _ _ _ h => h) (Y.move rfl rfl) ?_
    refine TA.take 3 rfl rfl rfl rfl (by kernel_rfl) (by kernel_rfl) (by kernel_rfl) rfl (by kernel_rfl) (by kernel_rfl) (fun _ _ _ h => h) (by first | exact Y.indexSlB rfl sl23 rfl rfl (by omega) nqq | exact Y.indexSl rfl sl23 rfl rfl (by omega) nqq) ?_
    refine TA.take 4 rfl rfl rfl rfl (by kernel_rfl) (by kernel_rfl) (by kernel_rfl) rfl (by kernel_rfl) (by kernel_rfl) (fun _ _ _ h => h) (by first | exact Y.fieldAddrJ rfl fo65_0 rfl nqq | exact Y.fieldAddr rfl fo65_0 rfl nqq) ?_
    refine TA.take 5 rfl rfl rfl rfl (by kernel_rfl) (by kernel_rfl) (by kernel_rfl) rfl (by kernel_rfl) (by kernel_rfl) (fun _ _ _ h => h) (Y.load rfl sc44 rfl cel16) ?_
    refine TA.as (v16 t) (by rfl) ?_
    refine TA.take 6 rfl rfl rfl rfl (by kernel_rfl) (by kernel_rfl) (by kernel_rfl) rfl (by kernel_rfl) (by kernel_rfl) (fun _ _ _ h => h) (by first | exact Y.fieldAddrJ rfl fo25_3 rfl nqq | exact Y.fieldAddr rfl fo25_3 rfl nqq) ?_
    refine TA.take 7 rfl rfl rfl rfl (by kernel_rfl) (by kernel_rfl) (by kernel_rfl) rfl (by kernel_rfl) (by kernel_rfl) (fun _ _ _ h => h) (Y.load rfl sc23 rfl celD) ?_
    refine TA.take 8 rfl rfl rfl rfl (by kernel_rfl) (by kernel_rfl) (by kernel_rfl) rfl (by kernel_rfl) (by kernel_rfl) (fun _ _ _ h => h) (Y.move rfl rfl) ?_
    refine TA.take 9 rfl rfl rfl rfl (by kernel_rfl) (by kernel_rfl) (by kernel_rfl) rfl (by kernel_rfl) (by kernel_rfl) (fun _ _ _ h => h) (by first | exact Y.indexSlB rfl sl23 rfl rfl (by omega) nqq | exact Y.indexSl rfl sl23 rfl rfl (by omega) nqq) ?_
    refine TA.take 10 rfl rfl rfl rfl (by kernel_rfl) (by kernel_rfl) (by kernel_rfl) rfl (by kernel_rfl) (by kernel_rfl) (fun _ _ _ h => h) (by first | exact Y.fieldAddrJ rfl fo65_0 rfl nqq | exact Y.fieldAddr rfl fo65_0 rfl nqq) ?_
    refine TA.take 11 rfl rfl rfl rfl (by kernel_rfl) (by kernel_rfl) (by kernel_rfl) rfl (by kernel_rfl) (by kernel_rfl) (fun _ _ _ h => h) (Y.load rfl sc44 rfl cel16) ?_
    refine TA.as (v16 t) (by rfl) ?_
    refine TA.take 12 rfl rfl rfl rfl (by kernel_rfl) (by kernel_rfl) (by kernel_rfl) rfl (by kernel_rfl) (by kernel_rfl) (fun _ _ _ h => h) (Y.bin rfl rfl rfl (br_ne16)) ?_
    refine TA.is false (by first | rfl | (simp only [decide_eq_true_eq, decide_eq_false_iff_not, Bool.not_eq_true', Bool.not_eq_false', Bool.not_eq_eq_eq_not, Bool.not_true, Bool.not_false, Nat.not_lt, Nat.not_le]; omega) | (simp [*]; done) | (simp; omega)) ?_
    refine TA.take 13 rfl rfl rfl rfl (by kernel_rfl) (by kernel_rfl) (by kernel_rfl) rfl (by kernel_rfl) (by kernel_rfl) (fun _ _ _ h => h) (Y.move rfl rfl) ?_
    refine TA.take 14 rfl rfl rfl rfl (by kernel_rfl) (by kernel_rfl) (by kernel_rfl) rfl (by kernel_rfl) (by kernel_rfl) (fun _ _ _ h => h) (by first | exact Y.fieldAddrJ rfl fo25_3 rfl nqq | exact Y.fieldAddr rfl fo25_3 rfl nqq) ?_
    refine TA.take 15 rfl rfl rfl rfl (by kernel_rfl) (by kernel_rfl) (by kernel_rfl) rfl (by kernel_rfl) (by kernel_rfl) (fun _ _ _ h => h) (Y.load rfl sc23 rfl celD) ?_
    refine TA.take 16 rfl rfl rfl rfl (by kernel_rfl) (by kernel_rfl) (by kernel_rfl) rfl (by kernel_rfl) (by kernel_rfl) (fun _ _ _ h => h) (Y.move rfl rfl) ?_
    refine TA.take 17 rfl rfl rfl rfl (by kernel_rfl) (by kernel_rfl) (by kernel_rfl) rfl (by kernel_rfl) (by kernel_rfl) (fun _ _ _ h => h) (by first | exact Y.indexSlB rfl sl23 rfl rfl (by omega) nqq | exact Y.indexSl rfl sl23 rfl rfl (by omega) nqq) ?_
    refine TA.take 18 rfl rfl rfl rfl (by kernel_rfl) (by kernel_rfl) (by kernel_rfl) rfl (by kernel_rfl) (by kernel_rfl) (fun _ _ _ h => h) (by first | exact Y.fieldAddrJ rfl fo65_1 rfl nqq | exact Y.fieldAddr rfl fo65_1 rfl nqq) ?_
    refine TA.take 19 rfl rfl rfl rfl (by kernel_rfl) (by kernel_rfl) (by kernel_rfl) rfl (by kernel_rfl) (by kernel_rfl) (fun _ _ _ h => h) (Y.load rfl sc27 rfl celD) ?_
    refine TA.as (.slice a1 bs.length ac) (by rfl) ?_
    refine TA.take 20 rfl rfl rfl rfl (by kernel_rfl) (by kernel_rfl) (by kernel_rfl) rfl (by kernel_rfl) (by kernel_rfl) (fun _ _ _ h => h) (by first | exact Y.str rfl Try.underlying27 Try.underlying9 Try.underlying5 rfl Reads.rds inn | exact Y.str rfl Try.underlying27 Try.underlying9 Try.underlying5 rfl Reads.owns inn | exact Y.str rfl Try.underlying27 Try.underlying9 Try.underlying5 rfl (by assumption) inn) ?_
    refine TA.take 21 rfl rfl rfl rfl (by kernel_rfl) (by kernel_rfl) (by kernel_rfl) rfl (by kernel_rfl) (by kernel_rfl) (fun _ _ _ h => h) (by first | exact Y.fieldAddrJ rfl fo25_3 rfl nqq | exact Y.fieldAddr rfl fo25_3 rfl nqq) ?_
    refine TA.take 22 rfl rfl rfl rfl (by kernel_rfl) (by kernel_rfl) (by kernel_rfl) rfl (by kernel_rfl) (by kernel_rfl) (fun _ _ _ h => h) (Y.load rfl sc23 rfl celD) ?_
    refine TA.take 23 rfl rfl rfl rfl (by kernel_rfl) (by kernel_rfl) (by kernel_rfl) rfl (by kernel_rfl) (by kernel_rfl) (fun _ _ _ h => h) (Y.move rfl rfl) ?_
    refine TA.take 24 rfl rfl rfl rfl (by kernel_rfl) (by kernel_rfl) (by kernel_rfl) rfl (by kernel_rfl) (by kernel_rfl) (fun _ _ _ h => h) (by first | exact Y.indexSlB rfl sl23 rfl rfl (by omega) nqq | exact Y.indexSl rfl sl23 rfl rfl (by omega) nqq) ?_
    refine TA.take 25 rfl rfl rfl rfl (by kernel_rfl) (by kernel_rfl) (by kernel_rfl) rfl (by kernel_rfl) (by kernel_rfl) (fun _ _ _ h => h) (by first | exact Y.fieldAddrJ rfl fo65_1 rfl nqq | exact Y.fieldAddr rfl fo65_1 rfl nqq) ?_
    refine TA.take 26 rfl rfl rfl rfl (by kernel_rfl) (by kernel_rfl) (by kernel_rfl) rfl (by kernel_rfl) (by kernel_rfl) (fun _ _ _ h => h) (Y.load rfl sc27 rfl celD) ?_
    refine TA.as (.slice a1' bs.length ac') (by rfl) ?_
    refine TA.take 27 rfl rfl rfl rfl (by kernel_rfl) (by kernel_rfl) (by kernel_rfl) rfl (by kernel_rfl) (by kernel_rfl) (fun _ _ _ h => h) (by first | exact Y.str rfl Try.underlying27 Try.underlying9 Try.underlying5 rfl Reads.rds inn | exact Y.str rfl Try.underlying27 Try.underlying9 Try.underlying5 rfl Reads.owns inn | exact Y.str rfl Try.underlying27 Try.underlying9 Try.underlying5 rfl (by assumption) inn) ?_
    refine TA.take 28 rfl rfl rfl rfl (by kernel_rfl) (by kernel_rfl) (by kernel_rfl) rfl (by kernel_rfl) (by kernel_rfl) (fun _ _ _ h => h) (Y.neStr rfl rfl rfl) ?_
    refine TA.is false (by first | rfl | (simp only [decide_eq_true_eq, decide_eq_false_iff_not, Bool.not_eq_true', Bool.not_eq_false', Bool.not_eq_eq_eq_not, Bool.not_true, Bool.not_false, Nat.not_lt, Nat.not_le]; omega) | (simp [*]; done) | (simp; omega)) ?_
    refine TA.take 29 rfl rfl rfl rfl (by kernel_rfl) (by kernel_rfl) (by kernel_rfl) rfl (by kernel_rfl) (by kernel_rfl) (fun _ _ _ h => h) (Y.pick_f rfl rfl rfl) ?_
    refine TA.done (by kernel_rfl) ?_
    refine TQ.next ?_
    refine TC.cond_f rfl ?_
    refine TC.skip ?_
    refine TQ.block_normal ?_
    refine TQ.next ?_
    refine TC.region ?_
    refine TL.val rfl rfl rfl (Y.bin rfl rfl rfl (br_addN (n := 1) (by omega))) ?_
    refine TL.val rfl rfl rfl (Y.move rfl rfl) ?_
    refine TL.nil ?_
    refine TQ.loopF (k + 1) (by omega) (by omega) ⟨rfl, trivial⟩ (by (repeat first | apply Grow.refl | apply Grow.step | apply Grow.app)) ?_ ?_ ?_
    · kernel_rfl
    · rfl
    · simp only [List.cons_append, List.nil_append]
      exact ett
  · try simp only [decide_eq_true_eq, decide_eq_false_iff_not, Bool.not_eq_true', Bool.not_eq_false', Bool.and_eq_true, Bool.or_eq_true, Nat.not_lt, Nat.not_le, beq_iff_eq, bne_iff_ne] at c1
    refine TC.exit ?_
    refine TQ.then_exit ?_
    refine TQ.then_exit ?_
    refine TQ.block_exit ?_
    refine TQ.next ?_
    refine TC.seq ?_
    refine TC.region ?_
    refine TL.val rfl rfl rfl (Y.assign rfl rfl) ?_
    refine TL.nil ?_
    refine TQ.next ?_
    refine TC.ret ?_
    refine TQ.retE (res1 rfl rfl) (⟨rfl, rfl⟩) ?_
    exact ett
theorem PR.len {b : List UInt8} {c m : Int} {f : Nat → UInt8} {l : List At} {e : Nat} (h : PR b c m f (l.map pl) e) : l.length * 32 ≤ 140737488351232 := by
  rcases h with ⟨rfl, h⟩ | ⟨rfl, rfl, rfl, rfl, h, -⟩
  · have := (good_parts ((build_iff _ _).1 h).1).2.2.2.2.2
    simp only [List.length_map] at this
    omega
  · have : l = [] := by simpa using h
    subst this; simp
set_option maxHeartbeats 1000000 in
theorem parses_fn (a : Option Addr) (n cap : Nat) (b : List UInt8) (hn : b.length = n) (hr : n ≤ 140737488351232) (L : List SA) :
    Fn Try.prog 4 [.slice a n cap] (SA.rds 1 (.slice a n cap) n (b.map v8) :: L) (fun v L' => v = .bool true ∧ L' = SA.rds 1 (.slice a n cap) n (b.map v8) :: L) := by
  refine Fn.of (N := 28) Try.func4 rfl rfl ?_
  intro Xh
  refine TC.seq ?_
  refine TC.region ?_
  refine TL.val rfl rfl rfl (Y.assign rfl rfl) ?_
  refine TL.nil ?_
  refine TQ.next ?_
  refine TC.seq ?_
  refine TC.seq ?_
  refine TC.region ?_
  refine TL.eff rfl rfl rfl (X.call rfl Try.func9 (by kernel_rfl) rfl rfl (Fn.preE (by repeat first | (with_reducible apply Ent.refl) | (apply Ent.cons; case h => first | (with_reducible (repeat first | apply Pull.here | apply Pull.there); done) | (repeat first | apply Pull.here | apply Pull.there))) (stun.awake_fn _))) ?_
  rintro _ _ ⟨rfl, rfl⟩
  refine TL.val rfl rfl rfl (Y.not rfl rfl) ?_
  refine TL.nil ?_
  refine TQ.next ?_
  refine TC.cond_f rfl ?_
  refine TC.skip ?_
  refine TQ.next ?_
  refine TC.seq ?_
  refine TC.region ?_
  refine TL.val rfl rfl rfl (Y.move rfl rfl) ?_
  refine TL.eff rfl rfl rfl (X.call rfl Try.func13 (by kernel_rfl) rfl rfl (Fn.preE (by repeat first | (with_reducible apply Ent.refl) | (apply Ent.cons; case h => first | (with_reducible (repeat first | apply Pull.here | apply Pull.there); done) | (repeat first | apply Pull.here | apply Pull.there))) (stun.refParse_fn _ _ _ _ (by first | assumption | rfl) (by omega) _))) ?_
  rintro _ _ ⟨pc11, pm11, pf11, pa11, pcap11, pl11, pe11, rfl, hP11, rfl⟩
  refine TL.val rfl rfl rfl (Y.move rfl rfl) ?_
  refine TL.val rfl rfl rfl (Y.extract rfl rfl rfl) ?_
  refine TL.val rfl rfl rfl (Y.extract rfl rfl rfl) ?_
  refine TL.eff rfl rfl rfl (X.alloc rfl zc25) ?_
  rintro _ _ ⟨b3, rfl, rfl⟩
  refine TL.eff0 rfl rfl (by first | exact X.storeAll rfl sz25 (by rfl) rfl rfl (allOne (by rfl)) pul (by rfl) | exact X.storeAll rfl sz25 szz rfl rfl (by simp [Value.oneCell']) pul szz | exact X.storeAgg rfl sz25 szz rfl rfl (by simp [Value.oneCell']) pul szz (writeM (by ((try simp only [List.length_set, List.length_map, List.length_append, List.length_replicate]); omega)))) ?_
  rintro _ _ rfl
  refine TL.val rfl rfl rfl (Y.assign rfl rfl) ?_
  refine TL.nil ?_
  refine TQ.next ?_
  refine TC.seq ?_
  refine TC.region ?_
  refine TL.val rfl rfl rfl (Y.move rfl rfl) ?_
  refine TL.eff rfl rfl rfl (X.call rfl Try.func14 (by kernel_rfl) rfl rfl (Fn.preE (by repeat first | (with_reducible apply Ent.refl) | (apply Ent.cons; case h => first | (with_reducible (repeat first | apply Pull.here | apply Pull.there); done) | (repeat first | apply Pull.here | apply Pull.there))) (stun.Parse_fn _ _ _ _ (by first | assumption | rfl) (by omega) _))) ?_
  rintro _ _ ⟨pc16, pm16, pf16, pa16, pcap16, pl16, pe16, rfl, hP16, rfl⟩
  refine TL.val rfl rfl rfl (Y.move rfl rfl) ?_
  refine TL.val rfl rfl rfl (Y.extract rfl rfl rfl) ?_
  refine TL.val rfl rfl rfl (Y.extract rfl rfl rfl) ?_
  refine TL.eff rfl rfl rfl (X.alloc rfl zc34) ?_
  rintro _ _ ⟨b5, rfl, rfl⟩
  refine TL.eff0 rfl rfl (by first | exact X.storeAll rfl sz34 (by rfl) rfl rfl (allOne (by rfl)) pul (by rfl) | exact X.storeAll rfl sz34 szz rfl rfl (by simp [Value.oneCell']) pul szz | exact X.storeAgg rfl sz34 szz rfl rfl (by simp [Value.oneCell']) pul szz (writeM (by ((try simp only [List.length_set, List.length_map, List.length_append, List.length_replicate]); omega)))) ?_
  rintro _ _ rfl
  refine TL.val rfl rfl rfl (Y.assign rfl rfl) ?_
  refine TL.nil ?_
  refine TQ.next ?_
  refine TC.seq ?_
  obtain ⟨e1, e2, hid, hl, e5⟩ := PR.one hP16 hP11
  have hl16 := PR.len hP16
  subst e1; subst e2; subst e5
  refine TC.draws 7 [SA.blk b3 (msgC pc16 pm16 pf11 (.slice pa11 pl11.length pcap11)) 25, SA.blk b5 (msgC pc16 pm16 pf16 (.slice pa16 pl16.length pcap16)) 34] (by kernel_rfl) (by kernel_rfl) (by repeat first | exact holds_nil | refine holds_cons inn ?_) ?_
  refine TA.takeP 0 rfl rfl rfl rfl (by kernel_rfl) (by kernel_rfl) (by kernel_rfl) rfl (fun _ _ _ h => h) (Y.move rfl rfl) ?_
  refine TA.takeP 1 rfl rfl rfl rfl (by kernel_rfl) (by kernel_rfl) (by kernel_rfl) rfl (fun _ _ _ h => h) (Y.move rfl rfl) ?_
  refine TA.takeP 2 rfl rfl rfl rfl (by kernel_rfl) (by kernel_rfl) (by kernel_rfl) rfl (fun _ _ _ h => h) (Y.bin rfl rfl rfl (br_eqN)) ?_
  refine TA.is true (by first | rfl | (simp only [decide_eq_true_eq, decide_eq_false_iff_not, Bool.not_eq_true', Bool.not_eq_false', Bool.not_eq_eq_eq_not, Bool.not_true, Bool.not_false, Nat.not_lt, Nat.not_le]; omega) | (simp [*]; done) | (simp; omega)) ?_
  refine TA.take 3 rfl rfl rfl rfl (by kernel_rfl) (by kernel_rfl) (by kernel_rfl) rfl (by kernel_rfl) (by kernel_rfl) (fun _ _ _ h => h) (Y.move rfl rfl) ?_
  refine TA.take 6 rfl rfl rfl rfl (by kernel_rfl) (by kernel_rfl) (by kernel_rfl) rfl (by kernel_rfl) (by kernel_rfl) (fun _ _ _ h => h) (Y.loadAgg rfl ag25 rfl (Cels.all (cs := msgC pc16 pm16 pf11 (.slice pa11 pl11.length pcap11)) inn) (by first | rfl | ((try simp only [List.length_map, List.length_set, List.length_replicate]); omega))) ?_
  refine TA.as (.agg (msgC pc16 pm16 pf11 (.slice pa11 pl11.length pcap11))) (by rfl) ?_
  refine TA.one 4 (by kernel_rfl) rfl rfl rfl rfl (Eff.val (fun _ h => by cases h) (Y.loadAgg rfl ag34 rfl (Cels.all (cs := msgC pc16 pm16 pf16 (.slice pa16 pl16.length pcap16)) inn) (by first | rfl | ((try simp only [List.length_map, List.length_set, List.length_replicate]); omega)))) ?_
  rintro _ _ ⟨rfl, rfl⟩
  refine ⟨Or.inr (by repeat first | exact holds_nil | refine holds_cons inn ?_), ?_⟩
  refine TA.as (.agg (msgC pc16 pm16 pf16 (.slice pa16 pl16.length pcap16))) (by rfl) ?_
  refine TA.one 5 (by kernel_rfl) rfl rfl rfl rfl (X.call rfl Try.func16 (by kernel_rfl) rfl rfl (Fn.preE (by repeat first | (with_reducible apply Ent.refl) | (apply Ent.cons; case h => first | (with_reducible (repeat first | apply Pull.here | apply Pull.there); done) | (repeat first | apply Pull.here | apply Pull.there))) (stun.ours_fn _ _ _ _ _ _ (by assumption) _))) ?_
  rintro _ _ ⟨oa24, oc24, rfl, rfl⟩
  refine ⟨(Or.inr (by repeat first | exact holds_nil | refine holds_cons inn ?_)), ?_⟩
  refine TA.one 7 (by kernel_rfl) rfl rfl rfl rfl (X.call rfl Try.func15 (by kernel_rfl) rfl rfl (Fn.preE (by repeat first | (with_reducible apply Ent.refl) | (apply Ent.cons; case h => first | (with_reducible (repeat first | apply Pull.here | apply Pull.there); done) | (repeat first | apply Pull.here | apply Pull.there))) (stun.Same_fn _ _ _ _ _ _ _ _ _ _ (by first | assumption | rfl) (by first | assumption | rfl) _))) ?_
  rintro _ _ ⟨rfl, rfl⟩
  refine ⟨(Or.inl (by kernel_rfl)), ?_⟩
  refine TA.takeP 8 rfl rfl rfl rfl (by kernel_rfl) (by kernel_rfl) (by kernel_rfl) rfl (fun _ _ _ h => h) (Y.pick_t rfl rfl rfl) ?_
  refine TA.takeP 9 rfl rfl rfl rfl (by kernel_rfl) (by kernel_rfl) (by kernel_rfl) rfl (fun _ _ _ h => h) (Y.assign rfl rfl) ?_
  refine TA.done (by kernel_rfl) ?_
  refine TQ.next ?_
  refine TC.ret ?_
  refine TQ.retE (res1 rfl rfl) (⟨rfl, rfl⟩) ?_
  exact ett
end stun
end Go.Proofs.Ytggammbhmoippaa
