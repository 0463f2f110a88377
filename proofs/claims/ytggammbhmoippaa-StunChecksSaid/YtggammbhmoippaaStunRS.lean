/- The document's Sign, walked. -/
import Derived.Test.YtggammbhmoippaaStunSg
import Derived.Test.YtggammbhmoippaaHCopy
import Derived.Test.YtggammbhmoippaaHAuto
namespace Go.Proofs.Ytggammbhmoippaa
set_option linter.unusedVariables false
set_option linter.unusedSimpArgs false
open Go.RowKit
namespace stun
open wr (pad4 be16 be32)
open r1 (be2 be4 be2_len be4_len)
namespace FxStunRS
set_option maxRecDepth 100000
theorem ag25 : Program.aggN Try.prog 25 = some 15 := by kernel_rfl
theorem el23 : Elt Try.prog 23 65 2 32 (.agg #[.int .u16 0, .slice none 0 0]) := ⟨Try.underlying23, by kernel_rfl, rfl, by decide, by simp [Value.cells, Value.oneCell']⟩
theorem el27 : Elt Try.prog 27 5 1 1 (.int .u8 0) := ⟨Try.underlying27, by kernel_rfl, rfl, by decide, by simp [Value.cells, Value.oneCell']⟩
theorem fo25_3 : Program.fieldOff Try.prog 25 3 = some 14 := by kernel_rfl
theorem fo65_0 : Program.fieldOff Try.prog 65 0 = some 0 := by kernel_rfl
theorem fo65_1 : Program.fieldOff Try.prog 65 1 = some 1 := by kernel_rfl
theorem pl65 : Program.places Try.prog 65 = some [(0, 1), (1, 1)] := by kernel_rfl
theorem sc23 : Program.isSc Try.prog 23 = true := by kernel_rfl
theorem sc44 : Program.isSc Try.prog 44 = true := by kernel_rfl
theorem sl23 : Program.slI Try.prog 23 = some 2 := by kernel_rfl
theorem sz5 : (Try.prog.info? 5).map (·.size) = some 1 := by kernel_rfl
theorem zc25 : Program.zeroC Try.prog 25 = some #[.int .i64 0, .int .i64 0, .int .u8 0, .int .u8 0, .int .u8 0, .int .u8 0, .int .u8 0, .int .u8 0, .int .u8 0, .int .u8 0, .int .u8 0, .int .u8 0, .int .u8 0, .int .u8 0, .slice none 0 0] := by kernel_rfl
theorem zc65 : Program.zeroC Try.prog 65 = some #[.int .u16 0, .slice none 0 0] := by kernel_rfl
theorem zc83 : Program.zeroC Try.prog 83 = some ((List.replicate 20 (0 : UInt8)).map v8).toArray := by kernel_rfl
theorem zs65 : ((Try.prog.info? 65).bind fun i => i.zero.map fun z => (i.size, z.cells.size)) = some (2, 2) := by kernel_rfl
end FxStunRS
open FxStunRS
theorem refBuildO_fn (c m : Int) (f : Nat → UInt8) (a : Option Addr) (cap : Nat) (l : List At) (L : List SA) :
    Fn Try.prog 10 [.agg (msgC c m f (.slice a l.length cap))] (SA.owns 65 2 (.slice a l.length cap) l.length (Dat.cs l) :: SA.rdss (l.flatMap Dat.g) :: L)
      (fun v L' => ∃ Ln, (∃ b c', v = .tuple #[.slice b (ob (SM c m f ⟨a, cap, l⟩).build).length c', vN (oe (SM c m f ⟨a, cap, l⟩).build)] ∧
        Ln = [SA.owns 5 1 (.slice b (ob (SM c m f ⟨a, cap, l⟩).build).length c') (ob (SM c m f ⟨a, cap, l⟩).build).length ((ob (SM c m f ⟨a, cap, l⟩).build).map v8)]) ∧ L' = Ln ++ SA.owns 65 2 (.slice a l.length cap) l.length (Dat.cs l) :: SA.rdss (l.flatMap Dat.g) :: L) :=
  Fn.lendSl rfl (fun L => (refBuild_fn c m f a cap l L).mono fun v L' ⟨b, c', h1, h2⟩ => ⟨L', Ent.refl, _, ⟨b, c', h1, rfl⟩, fun A hA => by rw [hA.one]; exact OO.owns, h2⟩) L
theorem any_take_no {α : Type} {p : α → Bool} {l : List α} {k : Nat} {x : α} (h : (l.take k).any p = false) (hx : l[k]? = some x) (hp : p x = false) : (l.take (k + 1)).any p = false := by
  rw [List.take_add_one, hx, List.any_append, h]; simp [hp]
theorem any_at {α : Type} {p : α → Bool} {l : List α} {k : Nat} {x : α} (hx : l[k]? = some x) (hp : p x = true) : l.any p = true := List.any_eq_true.2 ⟨x, List.mem_of_getElem? hx, hp⟩
theorem oe_none {o : Option (List UInt8)} (h : ¬ oe o = 0) : o = none := by
  cases o with
  | none => rfl
  | some w => exact absurd rfl h
def z20 : List UInt8 := List.replicate 20 0
theorem made20 : (madeCells (Value.int IntKind.u8 0).cells (20 * 1)).toList = z20.map v8 := by
  show (madeCells #[Value.int IntKind.u8 0] 20).toList = _
  rw [madeCells_rep]; rfl
def z4 : List UInt8 := List.replicate 4 0
theorem made4 : (madeCells (Value.int IntKind.u8 0).cells (4 * 1)).toList = z4.map v8 := by
  show (madeCells #[Value.int IntKind.u8 0] 4).toList = _
  rw [madeCells_rep]; rfl
theorem cs_val (l : List At) (t : UInt16) (s : Bs) (v : Value) (s' : Bs) (hv : Sl.v s' = v) : (Dat.cs (l ++ [((t, s) : At)])).set (l.length * 2 + 1) v = Dat.cs (l ++ [((t, s') : At)]) := by
  subst hv
  have hl : (Dat.cs l).length = l.length * 2 := Dat.cs_len l
  rw [Dat.cs_app, Dat.cs_app, Dat.cs_one, Dat.cs_one, List.set_append_right _ _ (by omega), show l.length * 2 + 1 - (Dat.cs l).length = 1 by omega]
  rfl
/-- the bytes of a variable that is an array, as an attribute's value -/
theorem Ent.mkAtB {t : UInt16} {b T n : Nat} {bs : List UInt8} {L L1 : List SA} (h1 : Pull (SA.blk b (bs.map v8).toArray T) L L1) (hn : bs.length = n) (hm : n ≤ maxLen) : Ent L (SA.dat ((t, ⟨some ⟨b, 0, none⟩, n, bs⟩) : At) :: L1) :=
  (Ent.rdOfBlk h1 (readsBlk hn hm) rfl).trans (Ent.mkBytes hn)
theorem copy_tail (b u : List UInt8) (h4 : u.length = 4) (hb : 4 ≤ b.length) : wr (b.map v8) (b.length - 4) (u.map v8) = (b.take (b.length - 4) ++ u).map v8 := by
  have e : b.map v8 = (b.take (b.length - 4)).map v8 ++ (b.drop (b.length - 4)).map v8 := by rw [← List.map_append, List.take_append_drop]
  have hl : ((b.take (b.length - 4)).map v8).length = b.length - 4 := by rw [List.length_map, List.length_take]; omega
  have := wr_tail ((b.take (b.length - 4)).map v8) ((b.drop (b.length - 4)).map v8) (u.map v8) (by rw [List.length_map, List.length_map, List.length_drop]; omega)
  rw [hl, ← e] at this
  rw [this, List.map_append]
abbrev one2 (t : UInt16) (a : Option Addr) (n : Nat) (v : List UInt8) : At := (t, ⟨a, n, v⟩)
theorem SM_more (c m : Int) (f : Nat → UInt8) (a a' : Option Addr) (cap cap' : Nat) (l xs : List At) : SM c m f ⟨a', cap', l ++ xs⟩ = (SM c m f ⟨a, cap, l⟩).more (xs.map pl) := by simp [SM, SMsg.more]
set_option maxHeartbeats 2000000 in
--REG rostrum/rostrumref04.Sign : _ _ ⟨a{d}, c{d}, rfl, rfl⟩ => (stun.refSign_fn _ _ _ _ _ _ _ _ _ _ (by first | assumption | rfl) (by omega) (by first | assumption | omega) _)
theorem refSign_fn (c m : Int) (f : Nat → UInt8) (a : Option Addr) (cap : Nat) (l : List At) (ka : Option Addr) (kn kc : Nat) (key : List UInt8) (hk : key.length = kn) (hkl : kn ≤ 140737488351232) (hl : l.length * 32 ≤ 140737488351232) (L : List SA) :
    Fn Try.prog 25 [.agg (msgC c m f (.slice a l.length cap)), .slice ka kn kc] (SA.dat (⟨a, cap, l⟩ : Sl At) :: SA.rds 1 (.slice ka kn kc) kn (key.map v8) :: L)
      (fun v L' => ∃ b c', v = .tuple #[.slice b (ob ((SM c m f ⟨a, cap, l⟩).sgn key)).length c', vN (oe ((SM c m f ⟨a, cap, l⟩).sgn key))] ∧
        L' = SA.owns 5 1 (.slice b (ob ((SM c m f ⟨a, cap, l⟩).sgn key)).length c') (ob ((SM c m f ⟨a, cap, l⟩).sgn key)).length ((ob ((SM c m f ⟨a, cap, l⟩).sgn key)).map v8) :: SA.dat (⟨a, cap, l⟩ : Sl At) :: SA.rds 1 (.slice ka kn kc) kn (key.map v8) :: L) := by
  refine Fn.of (N := 97) Try.func25 rfl rfl ?_
  intro Xh
  refine TC.know (dat_cap (a := a) (l := l) inn) ?_
  rintro ⟨hc1, hc2, -⟩
  have hat : (SM c m f ⟨a, cap, l⟩).attrs = l.map pl := rfl
  refine TC.seq ?_
  refine TC.region ?_
  refine TL.eff rfl rfl rfl (X.boxA rfl rfl) ?_
  rintro _ _ ⟨b2, rfl, rfl⟩
  refine TL.val rfl rfl rfl (Y.assign rfl rfl) ?_
  refine TL.val rfl rfl rfl (Y.assign rfl rfl) ?_
  refine TL.nil ?_
  refine TQ.next ?_
  refine TC.seq ?_
  refine TC.seq ?_
  refine TC.region ?_
  refine TL.val rfl rfl rfl (by first | exact Y.fieldAddrJ rfl fo25_3 rfl nqq | exact Y.fieldAddr rfl fo25_3 rfl nqq) ?_
  refine TL.val rfl rfl rfl (Y.load rfl sc23 rfl celD) ?_
  refine TL.as (.slice a l.length cap) (by rfl) ?_
  refine TL.val rfl rfl rfl (Y.len rfl Try.underlying23 rfl) ?_
  refine TL.val rfl rfl rfl (Y.move rfl rfl) ?_
  refine TL.nil ?_
  refine TQ.next ?_
  refine TC.block ?_
  refine TC.loopF (ι := Nat) [4, 5] (fun k => k ≤ l.length ∧ (l.take k).any tgA = false) (fun k => [(15, some (vN k))]) (fun k => []) (fun k => l.length - k) (0) (⟨by omega, by simp⟩) ⟨rfl, trivial⟩ Pulls.nil ?_
  rintro k ⟨hk2, hno⟩ F' L' rfl hL'
  simp only [List.cons_append, List.nil_append] at hL'
  subst hL'
  refine TC.seq ?_
  refine TC.region ?_
  refine TL.val rfl rfl rfl (Y.bin rfl rfl rfl (br_ltN)) ?_
  refine TL.nil ?_
  refine TQ.next ?_
  refine TC.seq ?_
  refine TC.cond rfl (fun c0 => ?_) (fun c0 => ?_)
  · try simp only [decide_eq_true_eq, decide_eq_false_iff_not, Bool.not_eq_true', Bool.not_eq_false', Bool.and_eq_true, Bool.or_eq_true, Nat.not_lt, Nat.not_le, beq_iff_eq, bne_iff_ne] at c0
    refine TC.skip ?_
    refine TQ.next ?_
    refine TC.seq ?_
    refine TC.block ?_
    refine TC.seq ?_
    refine TC.region ?_
    refine TL.val rfl rfl rfl (Y.move rfl rfl) ?_
    refine TL.val rfl rfl rfl (Y.assign rfl rfl) ?_
    refine TL.nil ?_
    refine TQ.next ?_
    refine TC.seq ?_
    obtain ⟨⟨t, a1, ac, bs⟩, hx, hxm⟩ := getS (l := l) (i := k) (by omega)
    refine TC.know (dat_some (a := a) (l := l) inn (by omega)) ?_
    rintro ⟨g, off, rfl⟩
    refine TC.region ?_
    refine TL.val rfl rfl rfl (by first | exact Y.fieldAddrJ rfl fo25_3 rfl nqq | exact Y.fieldAddr rfl fo25_3 rfl nqq) ?_
    refine TL.val rfl rfl rfl (Y.load rfl sc23 rfl celD) ?_
    refine TL.val rfl rfl rfl (Y.move rfl rfl) ?_
    refine TL.val rfl rfl rfl (by first | exact Y.indexSlB rfl sl23 rfl rfl (by omega) nqq | exact Y.indexSl rfl sl23 rfl rfl (by omega) nqq) ?_
    refine TL.val rfl rfl rfl (by first | exact Y.fieldAddrJ rfl fo65_0 rfl nqq | exact Y.fieldAddr rfl fo65_0 rfl nqq) ?_
    refine TL.val rfl rfl rfl (Y.load rfl sc44 rfl cel16) ?_
    refine TL.as (v16 t) (by rfl) ?_
    refine TL.val rfl rfl rfl (Y.bin rfl rfl rfl (br_eq16 (y := 8))) ?_
    refine TL.val rfl rfl rfl (Y.move rfl rfl) ?_
    refine TL.case (fun g4_7 => ?_) (fun g4_7 => ?_)
    · try simp only [decide_eq_true_eq, decide_eq_false_iff_not, Bool.not_eq_true', Bool.not_eq_false', Nat.not_lt, Nat.not_le, beq_iff_eq, bne_iff_ne] at g4_7
      refine TL.not rfl rfl rfl ?_
      refine TL.not rfl rfl rfl ?_
      refine TL.not rfl rfl rfl ?_
      refine TL.not rfl rfl rfl ?_
      refine TL.not rfl rfl rfl ?_
      refine TL.not rfl rfl rfl ?_
      refine TL.not rfl rfl rfl ?_
      refine TL.val rfl rfl rfl (Y.pick_t rfl rfl rfl) ?_
      refine TL.nil ?_
      refine TQ.next ?_
      refine TC.cond_t rfl ?_
      refine TC.seq ?_
      have hS : (SM c m f ⟨some ⟨g, off, none⟩, cap, l⟩).sgn key = none := sgn_tagged (by rw [hat, tagged_any]; exact any_at hx (by simp [tgA]; first | exact .inl g4_7 | exact .inr c1))
      rw [hS]
      refine TC.to (Ent.nilOwn 5 1) ?_
      refine TC.region ?_
      refine TL.val rfl rfl rfl (Y.assign rfl rfl) ?_
      refine TL.val rfl rfl rfl (Y.assign rfl rfl) ?_
      refine TL.nil ?_
      refine TQ.next ?_
      refine TC.ret ?_
      refine TQ.block_ret ?_
      refine TQ.then_ret ?_
      refine TQ.then_ret ?_
      refine TQ.block_ret ?_
      refine TQ.then_ret ?_
      refine TQ.retE (res2 rfl rfl rfl) (⟨_, _, rfl, rfl⟩) ?_
      exact ett
    · try simp only [decide_eq_true_eq, decide_eq_false_iff_not, Bool.not_eq_true', Bool.not_eq_false', Nat.not_lt, Nat.not_le, beq_iff_eq, bne_iff_ne] at g4_7
      refine TL.valG rfl rfl rfl (by first | exact Y.fieldAddrJ rfl fo25_3 rfl nqq | exact Y.fieldAddr rfl fo25_3 rfl nqq) ?_
      refine TL.valG rfl rfl rfl (Y.load rfl sc23 rfl celD) ?_
      refine TL.valG rfl rfl rfl (Y.move rfl rfl) ?_
      refine TL.valG rfl rfl rfl (by first | exact Y.indexSlB rfl sl23 rfl rfl (by omega) nqq | exact Y.indexSl rfl sl23 rfl rfl (by omega) nqq) ?_
      refine TL.valG rfl rfl rfl (by first | exact Y.fieldAddrJ rfl fo65_0 rfl nqq | exact Y.fieldAddr rfl fo65_0 rfl nqq) ?_
      refine TL.valG rfl rfl rfl (Y.load rfl sc44 rfl cel16) ?_
      refine TL.as (v16 t) (by rfl) ?_
      refine TL.valG rfl rfl rfl (Y.bin rfl rfl rfl (br_eq16 (y := 32808))) ?_
      refine TL.val rfl rfl rfl (Y.pick_f rfl rfl rfl) ?_
      refine TL.nil ?_
      refine TQ.next ?_
      refine TC.cond rfl (fun c1 => ?_) (fun c1 => ?_)
      · try simp only [decide_eq_true_eq, decide_eq_false_iff_not, Bool.not_eq_true', Bool.not_eq_false', Bool.and_eq_true, Bool.or_eq_true, Nat.not_lt, Nat.not_le, beq_iff_eq, bne_iff_ne] at c1
        refine TC.seq ?_
        have hS : (SM c m f ⟨some ⟨g, off, none⟩, cap, l⟩).sgn key = none := sgn_tagged (by rw [hat, tagged_any]; exact any_at hx (by simp [tgA]; first | exact .inl g4_7 | exact .inr c1))
        rw [hS]
        refine TC.to (Ent.nilOwn 5 1) ?_
        refine TC.region ?_
        refine TL.val rfl rfl rfl (Y.assign rfl rfl) ?_
        refine TL.val rfl rfl rfl (Y.assign rfl rfl) ?_
        refine TL.nil ?_
        refine TQ.next ?_
        refine TC.ret ?_
        refine TQ.block_ret ?_
        refine TQ.then_ret ?_
        refine TQ.then_ret ?_
        refine TQ.block_ret ?_
        refine TQ.then_ret ?_
        refine TQ.retE (res2 rfl rfl rfl) (⟨_, _, rfl, rfl⟩) ?_
        exact ett
      · try simp only [decide_eq_true_eq, decide_eq_false_iff_not, Bool.not_eq_true', Bool.not_eq_false', Bool.and_eq_true, Bool.or_eq_true, Nat.not_lt, Nat.not_le, beq_iff_eq, bne_iff_ne] at c1
        refine TC.skip ?_
        refine TQ.block_normal ?_
        refine TQ.next ?_
        refine TC.region ?_
        refine TL.val rfl rfl rfl (Y.bin rfl rfl rfl (br_addN (n := 1) (by omega))) ?_
        refine TL.val rfl rfl rfl (Y.move rfl rfl) ?_
        refine TL.nil ?_
        refine TQ.loopF (k + 1) (⟨by omega, any_take_no hno hx (by simp [tgA]; exact ⟨by simpa using g4_7, by simpa using c1⟩)⟩) (by omega) ⟨rfl, trivial⟩ (by (repeat first | apply Grow.refl | apply Grow.step | apply Grow.app)) ?_ ?_ ?_
        · kernel_rfl
        · rfl
        · simp only [List.cons_append, List.nil_append]
          exact ett
  · try simp only [decide_eq_true_eq, decide_eq_false_iff_not, Bool.not_eq_true', Bool.not_eq_false', Bool.and_eq_true, Bool.or_eq_true, Nat.not_lt, Nat.not_le, beq_iff_eq, bne_iff_ne] at c0
    refine TC.exit ?_
    refine TQ.then_exit ?_
    refine TQ.then_exit ?_
    refine TQ.block_exit ?_
    refine TQ.next ?_
    refine TC.seq ?_
    obtain rfl : k = l.length := by omega
    have hnt : tagged (SM c m f ⟨a, cap, l⟩).attrs = false := by rw [hat, tagged_any]; rw [List.take_length] at hno; exact hno
    refine TC.region ?_
    refine TL.val rfl rfl rfl (Y.loadAgg rfl ag25 rfl (Cels.all (cs := msgC c m f (.slice a l.length cap)) inn) (by first | rfl | ((try simp only [List.length_map, List.length_set, List.length_replicate]); omega))) ?_
    refine TL.as (.agg (msgC c m f (.slice a l.length cap))) (by rfl) ?_
    refine TL.eff rfl rfl rfl (X.alloc rfl zc25) ?_
    rintro _ _ ⟨b7, rfl, rfl⟩
    refine TL.eff0 rfl rfl (X.storeAll rfl (by kernel_rfl) (msgC_size c m f _) rfl rfl (msg_one c m f _ _ _) pul rfl) ?_
    rintro _ _ rfl
    refine TL.nil ?_
    refine TQ.next ?_
    refine TC.cutF (ι := Option Addr × Nat × Nat) [] (fun _ => True) (fun i => []) (fun i => [SA.blk b7 (msgC c m f (.slice i.1 (l ++ [one2 8 (some ⟨i.2.2, 0, none⟩) 20 z20]).length i.2.1)) 25, SA.owns 65 2 (.slice i.1 (l ++ [one2 8 (some ⟨i.2.2, 0, none⟩) 20 z20]).length i.2.1) (l ++ [one2 8 (some ⟨i.2.2, 0, none⟩) 20 z20]).length (Dat.cs (l ++ [one2 8 (some ⟨i.2.2, 0, none⟩) 20 z20])), SA.owns 5 1 (.slice (some ⟨i.2.2, 0, none⟩) 20 20) 20 (z20.map v8)]) (Ao := [SA.blk b7 (msgC c m f (.slice a l.length cap)) 25]) (Pulls.cons pul Pulls.nil) ?_ ?_
    · rintro L' hL'
      simp only [List.cons_append, List.nil_append] at hL'
      subst hL'
      refine TC.draws 9 [SA.blk b2 (msgC c m f (.slice a l.length cap)) 25, SA.blk b7 (msgC c m f (.slice a l.length cap)) 25, SA.dat (⟨a, cap, l⟩ : Sl At)] (by kernel_rfl) (by kernel_rfl) (by repeat first | exact holds_nil | refine holds_cons inn ?_) ?_
      refine TA.take 1 rfl rfl rfl rfl (by kernel_rfl) (by kernel_rfl) (by kernel_rfl) rfl (by kernel_rfl) (by kernel_rfl) (fun _ _ _ h => h) (by first | exact Y.fieldAddrJ rfl fo25_3 rfl nqq | exact Y.fieldAddr rfl fo25_3 rfl nqq) ?_
      refine TA.take 2 rfl rfl rfl rfl (by kernel_rfl) (by kernel_rfl) (by kernel_rfl) rfl (by kernel_rfl) (by kernel_rfl) (fun _ _ _ h => h) (Y.load rfl sc23 rfl celD) ?_
      refine TA.as (.slice a l.length cap) (by rfl) ?_
      refine TA.any (rs := [0, 4]) (by kernel_rfl) (by simp) ?_
      simp only [List.forall_mem_cons, List.not_mem_nil, false_implies, implies_true, and_true]
      refine ⟨?_, ?_⟩
      · skip
        refine TAo.eff rfl rfl rfl rfl (X.litA (bytes := 0) (z := .nilFunc) (cells := []) rfl Try.underlying23 zs65 rfl rfl rfl (by decide) (by decide) (by decide) rfl rfl rfl) ?_
        rintro _ _ ⟨g36, rfl, rfl⟩
        refine ⟨(Or.inr (by repeat first | exact holds_nil | refine holds_cons inn ?_)), ?_⟩
        refine TA.any (rs := [3, 4]) (by kernel_rfl) (by simp) ?_
        simp only [List.forall_mem_cons, List.not_mem_nil, false_implies, implies_true, and_true]
        refine ⟨?_, ?_⟩
        · skip
          refine TAo.eff rfl rfl rfl rfl (X.appendS rfl el23 rfl pul rfl (Src.reads (n := l.length) (cs := Dat.cs l) (A := SA.dat (⟨a, cap, l⟩ : Sl At)) Reads.datM Try.underlying23 inn) (by simp only [maxLen]; omega) (by omega)) ?_
          rintro _ _ ⟨a39, c39, rfl, rfl⟩
          simp only [Nat.zero_add, List.nil_append]
          refine ⟨(Or.inr (by repeat first | exact holds_nil | refine holds_cons inn ?_)), ?_⟩
          refine TA.one 4 (by kernel_rfl) rfl rfl rfl rfl (X.makeSlice (n := 20) (c := 20) rfl el27 rfl rfl (by omega) (by omega) (by simp only [maxLen]; omega)) ?_
          rintro _ _ ⟨g40, rfl, rfl⟩
          rw [made20]
          refine ⟨(Or.inr (by repeat first | exact holds_nil | refine holds_cons inn ?_)), ?_⟩
          refine TA.take 5 rfl rfl rfl rfl (by kernel_rfl) (by kernel_rfl) (by kernel_rfl) rfl (by kernel_rfl) (by kernel_rfl) (fun _ _ _ h => h) (Y.buildS (cells := #[v16 8, .slice (some ⟨g40, 0, none⟩) 20 20]) rfl rfl pl65 zc65 (by kernel_rfl)) ?_
          refine TA.one 6 (by kernel_rfl) rfl rfl rfl rfl (X.litA (bytes := 0) (z := .nilFunc) rfl Try.underlying23 zs65 rfl rfl rfl (by decide) (by decide) (by decide) rfl (cells := [v16 8, .slice (some ⟨g40, 0, none⟩) 20 20]) rfl rfl) ?_
          rintro _ _ ⟨g42, rfl, rfl⟩
          refine ⟨(Or.inr (by repeat first | exact holds_nil | refine holds_cons inn ?_)), ?_⟩
          refine TA.one 7 (by kernel_rfl) rfl rfl rfl rfl (X.appendS rfl el23 rfl pul rfl (by first | exact Src.owns Try.underlying23 inn | exact Src.rds Try.underlying23 inn | exact Src.reads (by assumption) Try.underlying23 inn) (by simp only [maxLen]; omega) (by omega)) ?_
          rintro _ _ ⟨a43, c43, rfl, rfl⟩
          rw [show Dat.cs l ++ [v16 8, .slice (some ⟨g40, 0, none⟩) 20 20] = Dat.cs (l ++ [one2 8 (some ⟨g40, 0, none⟩) 20 z20]) from (Dat.cs_app l [one2 8 (some ⟨g40, 0, none⟩) 20 z20]).symm, show l.length + 1 = (l ++ [one2 8 (some ⟨g40, 0, none⟩) 20 z20]).length by simp]
          refine ⟨(Or.inr (by repeat first | exact holds_nil | refine holds_cons inn ?_)), ?_⟩
          refine TA.take 8 rfl rfl rfl rfl (by kernel_rfl) (by kernel_rfl) (by kernel_rfl) rfl (by kernel_rfl) (by kernel_rfl) (fun _ _ _ h => h) (by first | exact Y.fieldAddrJ rfl fo25_3 rfl nqq | exact Y.fieldAddr rfl fo25_3 rfl nqq) ?_
          refine TA.one0 9 (by kernel_rfl) rfl rfl rfl (X.store rfl (by kernel_rfl) rfl rfl rfl pul (by rw [msgC_size]; omega) rfl) ?_
          rintro _ _ rfl
          rw [show (msgC c m f (.slice a l.length cap)).setIfInBounds 14 (.slice a43 (l ++ [one2 8 (some ⟨g40, 0, none⟩) 20 z20]).length c43) = msgC c m f (.slice a43 (l ++ [one2 8 (some ⟨g40, 0, none⟩) 20 z20]).length c43) from rfl]
          refine ⟨(Or.inl (by kernel_rfl)), ?_⟩
          refine TA.done (by kernel_rfl) ?_
          refine TQ.meetF (I := fun _ => True) (C := fun (_ : Option Addr × Nat × Nat) => []) (U := []) ((a43, c43, g40)) (trivial) trivial (by (repeat first | apply Grow.refl | apply Grow.step | apply Grow.app)) ?_ ?_
          · kernel_rfl
          · simp only [List.cons_append, List.nil_append]
            exact ett
        · skip
          refine TAo.eff rfl rfl rfl rfl (X.makeSlice (n := 20) (c := 20) rfl el27 rfl rfl (by omega) (by omega) (by simp only [maxLen]; omega)) ?_
          rintro _ _ ⟨g40, rfl, rfl⟩
          rw [made20]
          refine ⟨(Or.inr (by repeat first | exact holds_nil | refine holds_cons inn ?_)), ?_⟩
          refine TA.take 5 rfl rfl rfl rfl (by kernel_rfl) (by kernel_rfl) (by kernel_rfl) rfl (by kernel_rfl) (by kernel_rfl) (fun _ _ _ h => h) (Y.buildS (cells := #[v16 8, .slice (some ⟨g40, 0, none⟩) 20 20]) rfl rfl pl65 zc65 (by kernel_rfl)) ?_
          refine TA.any (rs := [3, 6]) (by kernel_rfl) (by simp) ?_
          simp only [List.forall_mem_cons, List.not_mem_nil, false_implies, implies_true, and_true]
          refine ⟨?_, ?_⟩
          · skip
            refine TAo.eff rfl rfl rfl rfl (X.appendS rfl el23 rfl pul rfl (Src.reads (n := l.length) (cs := Dat.cs l) (A := SA.dat (⟨a, cap, l⟩ : Sl At)) Reads.datM Try.underlying23 inn) (by simp only [maxLen]; omega) (by omega)) ?_
            rintro _ _ ⟨a39, c39, rfl, rfl⟩
            simp only [Nat.zero_add, List.nil_append]
            refine ⟨(Or.inr (by repeat first | exact holds_nil | refine holds_cons inn ?_)), ?_⟩
            refine TA.one 6 (by kernel_rfl) rfl rfl rfl rfl (X.litA (bytes := 0) (z := .nilFunc) rfl Try.underlying23 zs65 rfl rfl rfl (by decide) (by decide) (by decide) rfl (cells := [v16 8, .slice (some ⟨g40, 0, none⟩) 20 20]) rfl rfl) ?_
            rintro _ _ ⟨g42, rfl, rfl⟩
            refine ⟨(Or.inr (by repeat first | exact holds_nil | refine holds_cons inn ?_)), ?_⟩
            refine TA.one 7 (by kernel_rfl) rfl rfl rfl rfl (X.appendS rfl el23 rfl pul rfl (by first | exact Src.owns Try.underlying23 inn | exact Src.rds Try.underlying23 inn | exact Src.reads (by assumption) Try.underlying23 inn) (by simp only [maxLen]; omega) (by omega)) ?_
            rintro _ _ ⟨a43, c43, rfl, rfl⟩
            rw [show Dat.cs l ++ [v16 8, .slice (some ⟨g40, 0, none⟩) 20 20] = Dat.cs (l ++ [one2 8 (some ⟨g40, 0, none⟩) 20 z20]) from (Dat.cs_app l [one2 8 (some ⟨g40, 0, none⟩) 20 z20]).symm, show l.length + 1 = (l ++ [one2 8 (some ⟨g40, 0, none⟩) 20 z20]).length by simp]
            refine ⟨(Or.inr (by repeat first | exact holds_nil | refine holds_cons inn ?_)), ?_⟩
            refine TA.take 8 rfl rfl rfl rfl (by kernel_rfl) (by kernel_rfl) (by kernel_rfl) rfl (by kernel_rfl) (by kernel_rfl) (fun _ _ _ h => h) (by first | exact Y.fieldAddrJ rfl fo25_3 rfl nqq | exact Y.fieldAddr rfl fo25_3 rfl nqq) ?_
            refine TA.one0 9 (by kernel_rfl) rfl rfl rfl (X.store rfl (by kernel_rfl) rfl rfl rfl pul (by rw [msgC_size]; omega) rfl) ?_
            rintro _ _ rfl
            rw [show (msgC c m f (.slice a l.length cap)).setIfInBounds 14 (.slice a43 (l ++ [one2 8 (some ⟨g40, 0, none⟩) 20 z20]).length c43) = msgC c m f (.slice a43 (l ++ [one2 8 (some ⟨g40, 0, none⟩) 20 z20]).length c43) from rfl]
            refine ⟨(Or.inl (by kernel_rfl)), ?_⟩
            refine TA.done (by kernel_rfl) ?_
            refine TQ.meetF (I := fun _ => True) (C := fun (_ : Option Addr × Nat × Nat) => []) (U := []) ((a43, c43, g40)) (trivial) trivial (by (repeat first | apply Grow.refl | apply Grow.step | apply Grow.app)) ?_ ?_
            · kernel_rfl
            · simp only [List.cons_append, List.nil_append]
              exact ett
          · skip
            refine TAo.eff rfl rfl rfl rfl (X.litA (bytes := 0) (z := .nilFunc) rfl Try.underlying23 zs65 rfl rfl rfl (by decide) (by decide) (by decide) rfl (cells := [v16 8, .slice (some ⟨g40, 0, none⟩) 20 20]) rfl rfl) ?_
            rintro _ _ ⟨g42, rfl, rfl⟩
            refine ⟨(Or.inr (by repeat first | exact holds_nil | refine holds_cons inn ?_)), ?_⟩
            refine TA.one 3 (by kernel_rfl) rfl rfl rfl rfl (X.appendS rfl el23 rfl pul rfl (Src.reads (n := l.length) (cs := Dat.cs l) (A := SA.dat (⟨a, cap, l⟩ : Sl At)) Reads.datM Try.underlying23 inn) (by simp only [maxLen]; omega) (by omega)) ?_
            rintro _ _ ⟨a39, c39, rfl, rfl⟩
            simp only [Nat.zero_add, List.nil_append]
            refine ⟨(Or.inr (by repeat first | exact holds_nil | refine holds_cons inn ?_)), ?_⟩
            refine TA.one 7 (by kernel_rfl) rfl rfl rfl rfl (X.appendS rfl el23 rfl pul rfl (by first | exact Src.owns Try.underlying23 inn | exact Src.rds Try.underlying23 inn | exact Src.reads (by assumption) Try.underlying23 inn) (by simp only [maxLen]; omega) (by omega)) ?_
            rintro _ _ ⟨a43, c43, rfl, rfl⟩
            rw [show Dat.cs l ++ [v16 8, .slice (some ⟨g40, 0, none⟩) 20 20] = Dat.cs (l ++ [one2 8 (some ⟨g40, 0, none⟩) 20 z20]) from (Dat.cs_app l [one2 8 (some ⟨g40, 0, none⟩) 20 z20]).symm, show l.length + 1 = (l ++ [one2 8 (some ⟨g40, 0, none⟩) 20 z20]).length by simp]
            refine ⟨(Or.inr (by repeat first | exact holds_nil | refine holds_cons inn ?_)), ?_⟩
            refine TA.take 8 rfl rfl rfl rfl (by kernel_rfl) (by kernel_rfl) (by kernel_rfl) rfl (by kernel_rfl) (by kernel_rfl) (fun _ _ _ h => h) (by first | exact Y.fieldAddrJ rfl fo25_3 rfl nqq | exact Y.fieldAddr rfl fo25_3 rfl nqq) ?_
            refine TA.one0 9 (by kernel_rfl) rfl rfl rfl (X.store rfl (by kernel_rfl) rfl rfl rfl pul (by rw [msgC_size]; omega) rfl) ?_
            rintro _ _ rfl
            rw [show (msgC c m f (.slice a l.length cap)).setIfInBounds 14 (.slice a43 (l ++ [one2 8 (some ⟨g40, 0, none⟩) 20 z20]).length c43) = msgC c m f (.slice a43 (l ++ [one2 8 (some ⟨g40, 0, none⟩) 20 z20]).length c43) from rfl]
            refine ⟨(Or.inl (by kernel_rfl)), ?_⟩
            refine TA.done (by kernel_rfl) ?_
            refine TQ.meetF (I := fun _ => True) (C := fun (_ : Option Addr × Nat × Nat) => []) (U := []) ((a43, c43, g40)) (trivial) trivial (by (repeat first | apply Grow.refl | apply Grow.step | apply Grow.app)) ?_ ?_
            · kernel_rfl
            · simp only [List.cons_append, List.nil_append]
              exact ett
      · skip
        refine TAo.eff rfl rfl rfl rfl (X.makeSlice (n := 20) (c := 20) rfl el27 rfl rfl (by omega) (by omega) (by simp only [maxLen]; omega)) ?_
        rintro _ _ ⟨g40, rfl, rfl⟩
        rw [made20]
        refine ⟨(Or.inr (by repeat first | exact holds_nil | refine holds_cons inn ?_)), ?_⟩
        refine TA.take 5 rfl rfl rfl rfl (by kernel_rfl) (by kernel_rfl) (by kernel_rfl) rfl (by kernel_rfl) (by kernel_rfl) (fun _ _ _ h => h) (Y.buildS (cells := #[v16 8, .slice (some ⟨g40, 0, none⟩) 20 20]) rfl rfl pl65 zc65 (by kernel_rfl)) ?_
        refine TA.any (rs := [0, 6]) (by kernel_rfl) (by simp) ?_
        simp only [List.forall_mem_cons, List.not_mem_nil, false_implies, implies_true, and_true]
        refine ⟨?_, ?_⟩
        · skip
          refine TAo.eff rfl rfl rfl rfl (X.litA (bytes := 0) (z := .nilFunc) (cells := []) rfl Try.underlying23 zs65 rfl rfl rfl (by decide) (by decide) (by decide) rfl rfl rfl) ?_
          rintro _ _ ⟨g36, rfl, rfl⟩
          refine ⟨(Or.inr (by repeat first | exact holds_nil | refine holds_cons inn ?_)), ?_⟩
          refine TA.any (rs := [3, 6]) (by kernel_rfl) (by simp) ?_
          simp only [List.forall_mem_cons, List.not_mem_nil, false_implies, implies_true, and_true]
          refine ⟨?_, ?_⟩
          · skip
            refine TAo.eff rfl rfl rfl rfl (X.appendS rfl el23 rfl pul rfl (Src.reads (n := l.length) (cs := Dat.cs l) (A := SA.dat (⟨a, cap, l⟩ : Sl At)) Reads.datM Try.underlying23 inn) (by simp only [maxLen]; omega) (by omega)) ?_
            rintro _ _ ⟨a39, c39, rfl, rfl⟩
            simp only [Nat.zero_add, List.nil_append]
            refine ⟨(Or.inr (by repeat first | exact holds_nil | refine holds_cons inn ?_)), ?_⟩
            refine TA.one 6 (by kernel_rfl) rfl rfl rfl rfl (X.litA (bytes := 0) (z := .nilFunc) rfl Try.underlying23 zs65 rfl rfl rfl (by decide) (by decide) (by decide) rfl (cells := [v16 8, .slice (some ⟨g40, 0, none⟩) 20 20]) rfl rfl) ?_
            rintro _ _ ⟨g42, rfl, rfl⟩
            refine ⟨(Or.inr (by repeat first | exact holds_nil | refine holds_cons inn ?_)), ?_⟩
            refine TA.one 7 (by kernel_rfl) rfl rfl rfl rfl (X.appendS rfl el23 rfl pul rfl (by first | exact Src.owns Try.underlying23 inn | exact Src.rds Try.underlying23 inn | exact Src.reads (by assumption) Try.underlying23 inn) (by simp only [maxLen]; omega) (by omega)) ?_
            rintro _ _ ⟨a43, c43, rfl, rfl⟩
            rw [show Dat.cs l ++ [v16 8, .slice (some ⟨g40, 0, none⟩) 20 20] = Dat.cs (l ++ [one2 8 (some ⟨g40, 0, none⟩) 20 z20]) from (Dat.cs_app l [one2 8 (some ⟨g40, 0, none⟩) 20 z20]).symm, show l.length + 1 = (l ++ [one2 8 (some ⟨g40, 0, none⟩) 20 z20]).length by simp]
            refine ⟨(Or.inr (by repeat first | exact holds_nil | refine holds_cons inn ?_)), ?_⟩
            refine TA.take 8 rfl rfl rfl rfl (by kernel_rfl) (by kernel_rfl) (by kernel_rfl) rfl (by kernel_rfl) (by kernel_rfl) (fun _ _ _ h => h) (by first | exact Y.fieldAddrJ rfl fo25_3 rfl nqq | exact Y.fieldAddr rfl fo25_3 rfl nqq) ?_
            refine TA.one0 9 (by kernel_rfl) rfl rfl rfl (X.store rfl (by kernel_rfl) rfl rfl rfl pul (by rw [msgC_size]; omega) rfl) ?_
            rintro _ _ rfl
            rw [show (msgC c m f (.slice a l.length cap)).setIfInBounds 14 (.slice a43 (l ++ [one2 8 (some ⟨g40, 0, none⟩) 20 z20]).length c43) = msgC c m f (.slice a43 (l ++ [one2 8 (some ⟨g40, 0, none⟩) 20 z20]).length c43) from rfl]
            refine ⟨(Or.inl (by kernel_rfl)), ?_⟩
            refine TA.done (by kernel_rfl) ?_
            refine TQ.meetF (I := fun _ => True) (C := fun (_ : Option Addr × Nat × Nat) => []) (U := []) ((a43, c43, g40)) (trivial) trivial (by (repeat first | apply Grow.refl | apply Grow.step | apply Grow.app)) ?_ ?_
            · kernel_rfl
            · simp only [List.cons_append, List.nil_append]
              exact ett
          · skip
            refine TAo.eff rfl rfl rfl rfl (X.litA (bytes := 0) (z := .nilFunc) rfl Try.underlying23 zs65 rfl rfl rfl (by decide) (by decide) (by decide) rfl (cells := [v16 8, .slice (some ⟨g40, 0, none⟩) 20 20]) rfl rfl) ?_
            rintro _ _ ⟨g42, rfl, rfl⟩
            refine ⟨(Or.inr (by repeat first | exact holds_nil | refine holds_cons inn ?_)), ?_⟩
            refine TA.one 3 (by kernel_rfl) rfl rfl rfl rfl (X.appendS rfl el23 rfl pul rfl (Src.reads (n := l.length) (cs := Dat.cs l) (A := SA.dat (⟨a, cap, l⟩ : Sl At)) Reads.datM Try.underlying23 inn) (by simp only [maxLen]; omega) (by omega)) ?_
            rintro _ _ ⟨a39, c39, rfl, rfl⟩
            simp only [Nat.zero_add, List.nil_append]
            refine ⟨(Or.inr (by repeat first | exact holds_nil | refine holds_cons inn ?_)), ?_⟩
            refine TA.one 7 (by kernel_rfl) rfl rfl rfl rfl (X.appendS rfl el23 rfl pul rfl (by first | exact Src.owns Try.underlying23 inn | exact Src.rds Try.underlying23 inn | exact Src.reads (by assumption) Try.underlying23 inn) (by simp only [maxLen]; omega) (by omega)) ?_
            rintro _ _ ⟨a43, c43, rfl, rfl⟩
            rw [show Dat.cs l ++ [v16 8, .slice (some ⟨g40, 0, none⟩) 20 20] = Dat.cs (l ++ [one2 8 (some ⟨g40, 0, none⟩) 20 z20]) from (Dat.cs_app l [one2 8 (some ⟨g40, 0, none⟩) 20 z20]).symm, show l.length + 1 = (l ++ [one2 8 (some ⟨g40, 0, none⟩) 20 z20]).length by simp]
            refine ⟨(Or.inr (by repeat first | exact holds_nil | refine holds_cons inn ?_)), ?_⟩
            refine TA.take 8 rfl rfl rfl rfl (by kernel_rfl) (by kernel_rfl) (by kernel_rfl) rfl (by kernel_rfl) (by kernel_rfl) (fun _ _ _ h => h) (by first | exact Y.fieldAddrJ rfl fo25_3 rfl nqq | exact Y.fieldAddr rfl fo25_3 rfl nqq) ?_
            refine TA.one0 9 (by kernel_rfl) rfl rfl rfl (X.store rfl (by kernel_rfl) rfl rfl rfl pul (by rw [msgC_size]; omega) rfl) ?_
            rintro _ _ rfl
            rw [show (msgC c m f (.slice a l.length cap)).setIfInBounds 14 (.slice a43 (l ++ [one2 8 (some ⟨g40, 0, none⟩) 20 z20]).length c43) = msgC c m f (.slice a43 (l ++ [one2 8 (some ⟨g40, 0, none⟩) 20 z20]).length c43) from rfl]
            refine ⟨(Or.inl (by kernel_rfl)), ?_⟩
            refine TA.done (by kernel_rfl) ?_
            refine TQ.meetF (I := fun _ => True) (C := fun (_ : Option Addr × Nat × Nat) => []) (U := []) ((a43, c43, g40)) (trivial) trivial (by (repeat first | apply Grow.refl | apply Grow.step | apply Grow.app)) ?_ ?_
            · kernel_rfl
            · simp only [List.cons_append, List.nil_append]
              exact ett
        · skip
          refine TAo.eff rfl rfl rfl rfl (X.litA (bytes := 0) (z := .nilFunc) rfl Try.underlying23 zs65 rfl rfl rfl (by decide) (by decide) (by decide) rfl (cells := [v16 8, .slice (some ⟨g40, 0, none⟩) 20 20]) rfl rfl) ?_
          rintro _ _ ⟨g42, rfl, rfl⟩
          refine ⟨(Or.inr (by repeat first | exact holds_nil | refine holds_cons inn ?_)), ?_⟩
          refine TA.one 0 (by kernel_rfl) rfl rfl rfl rfl (X.litA (bytes := 0) (z := .nilFunc) (cells := []) rfl Try.underlying23 zs65 rfl rfl rfl (by decide) (by decide) (by decide) rfl rfl rfl) ?_
          rintro _ _ ⟨g36, rfl, rfl⟩
          refine ⟨(Or.inr (by repeat first | exact holds_nil | refine holds_cons inn ?_)), ?_⟩
          refine TA.one 3 (by kernel_rfl) rfl rfl rfl rfl (X.appendS rfl el23 rfl pul rfl (Src.reads (n := l.length) (cs := Dat.cs l) (A := SA.dat (⟨a, cap, l⟩ : Sl At)) Reads.datM Try.underlying23 inn) (by simp only [maxLen]; omega) (by omega)) ?_
          rintro _ _ ⟨a39, c39, rfl, rfl⟩
          simp only [Nat.zero_add, List.nil_append]
          refine ⟨(Or.inr (by repeat first | exact holds_nil | refine holds_cons inn ?_)), ?_⟩
          refine TA.one 7 (by kernel_rfl) rfl rfl rfl rfl (X.appendS rfl el23 rfl pul rfl (by first | exact Src.owns Try.underlying23 inn | exact Src.rds Try.underlying23 inn | exact Src.reads (by assumption) Try.underlying23 inn) (by simp only [maxLen]; omega) (by omega)) ?_
          rintro _ _ ⟨a43, c43, rfl, rfl⟩
          rw [show Dat.cs l ++ [v16 8, .slice (some ⟨g40, 0, none⟩) 20 20] = Dat.cs (l ++ [one2 8 (some ⟨g40, 0, none⟩) 20 z20]) from (Dat.cs_app l [one2 8 (some ⟨g40, 0, none⟩) 20 z20]).symm, show l.length + 1 = (l ++ [one2 8 (some ⟨g40, 0, none⟩) 20 z20]).length by simp]
          refine ⟨(Or.inr (by repeat first | exact holds_nil | refine holds_cons inn ?_)), ?_⟩
          refine TA.take 8 rfl rfl rfl rfl (by kernel_rfl) (by kernel_rfl) (by kernel_rfl) rfl (by kernel_rfl) (by kernel_rfl) (fun _ _ _ h => h) (by first | exact Y.fieldAddrJ rfl fo25_3 rfl nqq | exact Y.fieldAddr rfl fo25_3 rfl nqq) ?_
          refine TA.one0 9 (by kernel_rfl) rfl rfl rfl (X.store rfl (by kernel_rfl) rfl rfl rfl pul (by rw [msgC_size]; omega) rfl) ?_
          rintro _ _ rfl
          rw [show (msgC c m f (.slice a l.length cap)).setIfInBounds 14 (.slice a43 (l ++ [one2 8 (some ⟨g40, 0, none⟩) 20 z20]).length c43) = msgC c m f (.slice a43 (l ++ [one2 8 (some ⟨g40, 0, none⟩) 20 z20]).length c43) from rfl]
          refine ⟨(Or.inl (by kernel_rfl)), ?_⟩
          refine TA.done (by kernel_rfl) ?_
          refine TQ.meetF (I := fun _ => True) (C := fun (_ : Option Addr × Nat × Nat) => []) (U := []) ((a43, c43, g40)) (trivial) trivial (by (repeat first | apply Grow.refl | apply Grow.step | apply Grow.app)) ?_ ?_
          · kernel_rfl
          · simp only [List.cons_append, List.nil_append]
            exact ett
    · rintro ⟨fa, fc, gz⟩ - F' L' rfl hL'
      simp only [List.cons_append, List.nil_append] at hL'
      subst hL'
      try simp only
      obtain ⟨x, hx⟩ : ∃ x, x = one2 8 (some ⟨gz, 0, none⟩) 20 z20 := ⟨_, rfl⟩
      rw [← hx]
      have hfl : (l ++ [x]).length = l.length + 1 := by simp
      refine TC.seq ?_
      refine TC.region ?_
      refine TL.val rfl rfl rfl (Y.loadAgg rfl ag25 rfl (Cels.all (cs := msgC c m f (.slice fa (l ++ [x]).length fc)) inn) (by first | rfl | ((try simp only [List.length_map, List.length_set, List.length_replicate]); omega))) ?_
      refine TL.as (.agg (msgC c m f (.slice fa (l ++ [x]).length fc))) (by rfl) ?_
      refine TL.to ((Ent.hang (a := a) pul).trans (Ent.trans (Ent.mkAt (t := 8) (a := some ⟨gz, 0, none⟩) (bs := z20) (n := 20) (cap := 20) pul rfl) (Ent.addEl (x := one2 8 (some ⟨gz, 0, none⟩) 20 z20) pul pul))) ?_
      rw [← hx]
      refine TL.eff rfl rfl rfl (X.call rfl Try.func10 (by kernel_rfl) rfl rfl (Fn.preE (by repeat first | (with_reducible apply Ent.refl) | (apply Ent.cons; case h => first | (with_reducible (repeat first | apply Pull.here | apply Pull.there); done) | (repeat first | apply Pull.here | apply Pull.there))) (refBuildO_fn c m f fa fc (l ++ [x]) _))) ?_
      rintro _ _ ⟨_, ⟨ba, bc, rfl, rfl⟩, rfl⟩
      simp only [List.cons_append, List.nil_append]
      rw [show SM c m f ⟨fa, fc, l ++ [x]⟩ = (SM c m f ⟨a, cap, l⟩).more [(8, z20)] by rw [SM_more c m f a fa cap fc, hx]; rfl]
      obtain ⟨o, ho⟩ : ∃ o, o = ((SM c m f ⟨a, cap, l⟩).more [(8, z20)]).build := ⟨_, rfl⟩
      rw [← ho]
      refine TL.val rfl rfl rfl (Y.move rfl rfl) ?_
      refine TL.val rfl rfl rfl (Y.extract rfl rfl rfl) ?_
      refine TL.val rfl rfl rfl (Y.extract rfl rfl rfl) ?_
      refine TL.val rfl rfl rfl (Y.assign rfl rfl) ?_
      refine TL.val rfl rfl rfl (Y.assign rfl rfl) ?_
      refine TL.nil ?_
      refine TQ.next ?_
      refine TC.seq ?_
      refine TC.seq ?_
      refine TC.region ?_
      refine TL.val rfl rfl rfl (Y.move rfl rfl) ?_
      refine TL.val rfl rfl rfl (Y.bin rfl rfl rfl (br_neN (n := 0))) ?_
      refine TL.nil ?_
      refine TQ.next ?_
      refine TC.cond rfl (fun c2 => ?_) (fun c2 => ?_)
      · try simp only [decide_eq_true_eq, decide_eq_false_iff_not, Bool.not_eq_true', Bool.not_eq_false', Bool.and_eq_true, Bool.or_eq_true, Nat.not_lt, Nat.not_le, beq_iff_eq, bne_iff_ne] at c2
        have hS : (SM c m f ⟨a, cap, l⟩).sgn key = none := ref_no1 (z := z20) rfl rfl hnt (ho.symm.trans (oe_none c2))
        rw [hS]
        refine TC.to (Ent.nilOwn 5 1) ?_
        refine TC.seq ?_
        refine TC.region ?_
        refine TL.val rfl rfl rfl (Y.assign rfl rfl) ?_
        refine TL.val rfl rfl rfl (Y.assign rfl rfl) ?_
        refine TL.nil ?_
        refine TQ.next ?_
        refine TC.ret ?_
        refine TQ.then_ret ?_
        refine TQ.retE (res2 rfl rfl rfl) (⟨_, _, rfl, rfl⟩) ?_
        exact ett
      · try simp only [decide_eq_true_eq, decide_eq_false_iff_not, Bool.not_eq_true', Bool.not_eq_false', Bool.and_eq_true, Bool.or_eq_true, Nat.not_lt, Nat.not_le, beq_iff_eq, bne_iff_ne] at c2
        have hob := ob_some c2
        obtain ⟨b1, hb1⟩ : ∃ b1, b1 = ob o := ⟨_, rfl⟩
        rw [← hb1] at hob
        obtain ⟨hb24, hpre⟩ := ref_tag (z := z20) rfl rfl (ho.symm.trans hob)
        have hb15 : b1.length ≤ 1500 := by rw [hb1, ho]; exact ob_len
        rw [← hb1]
        refine TC.know (owns_cap (a := ba) inn) ?_
        rintro ⟨hk1, hk2, -⟩
        refine TC.skip ?_
        refine TQ.next ?_
        refine TC.seq ?_
        refine TC.region ?_
        refine TL.val rfl rfl rfl (Y.move rfl rfl) ?_
        refine TL.val rfl rfl rfl (Y.move rfl rfl) ?_
        refine TL.val rfl rfl rfl (Y.move rfl rfl) ?_
        refine TL.val rfl rfl rfl (Y.len rfl Try.underlying27 rfl) ?_
        refine TL.val rfl rfl rfl (Y.bin rfl rfl rfl (br_subN (n := 24) (by omega) (by omega))) ?_
        refine TL.val rfl rfl rfl (Y.sliceHi2 rfl Try.underlying27 sz5 rfl rfl (by omega)) ?_
        refine TL.to (Ent.headOwn (k := b1.length - 24) pul (by omega)) ?_
        refine TL.eff rfl rfl rfl (X.call rfl Try.func46 (by kernel_rfl) rfl rfl (Fn.preE (by repeat first | (with_reducible apply Ent.refl) | (apply Ent.cons; case h => first | (with_reducible (repeat first | apply Pull.here | apply Pull.there); done) | (repeat first | apply Pull.here | apply Pull.there))) (sha.refMac_fn _ _ _ key hk _ _ _ (b1.take (b1.length - 24)) (by rw [List.length_take]; omega) (by omega) (by omega) _))) ?_
        rintro _ _ ⟨rfl, rfl⟩
        rw [hpre]
        obtain ⟨t, ht⟩ : ∃ t, t = tagT (SM c m f ⟨a, cap, l⟩) key := ⟨_, rfl⟩
        have htl : t.length = 20 := by rw [ht]; exact tagT_len _ _
        rw [show sha.mac key (preT (SM c m f ⟨a, cap, l⟩)) = t from ht.symm]
        refine TL.eff rfl rfl rfl (X.alloc rfl zc83) ?_
        rintro _ _ ⟨b10, rfl, rfl⟩
        refine TL.eff0 rfl rfl (X.storeAll rfl (by kernel_rfl) (by simpa using htl) rfl rfl (fun v hv => one8 v (by simpa using hv)) pul (by simp)) ?_
        rintro _ _ rfl
        refine TL.nil ?_
        refine TQ.next ?_
        refine TC.seq ?_
        refine TC.know (owns_some (a := fa) inn (by omega)) ?_
        rintro ⟨fg, fo, rfl⟩
        obtain ⟨y, hy⟩ : ∃ y, y = one2 8 (some ⟨b10, 0, none⟩) 20 t := ⟨_, rfl⟩
        refine TC.draws 8 _ (by kernel_rfl) (by kernel_rfl) (fun _ h => h) ?_
        refine TA.take 0 rfl rfl rfl rfl (by kernel_rfl) (by kernel_rfl) (by kernel_rfl) rfl (by kernel_rfl) (by kernel_rfl) (fun _ _ _ h => h) (by first | exact Y.fieldAddrJ rfl fo25_3 rfl nqq | exact Y.fieldAddr rfl fo25_3 rfl nqq) ?_
        refine TA.take 1 rfl rfl rfl rfl (by kernel_rfl) (by kernel_rfl) (by kernel_rfl) rfl (by kernel_rfl) (by kernel_rfl) (fun _ _ _ h => h) (Y.load rfl sc23 rfl celD) ?_
        refine TA.as (.slice (some ⟨fg, fo, none⟩) (l ++ [x]).length fc) (by rfl) ?_
        refine TA.take 2 rfl rfl rfl rfl (by kernel_rfl) (by kernel_rfl) (by kernel_rfl) rfl (by kernel_rfl) (by kernel_rfl) (fun _ _ _ h => h) (by first | exact Y.fieldAddrJ rfl fo25_3 rfl nqq | exact Y.fieldAddr rfl fo25_3 rfl nqq) ?_
        refine TA.take 3 rfl rfl rfl rfl (by kernel_rfl) (by kernel_rfl) (by kernel_rfl) rfl (by kernel_rfl) (by kernel_rfl) (fun _ _ _ h => h) (Y.load rfl sc23 rfl celD) ?_
        refine TA.as (.slice a l.length cap) (by rfl) ?_
        refine TA.take 4 rfl rfl rfl rfl (by kernel_rfl) (by kernel_rfl) (by kernel_rfl) rfl (by kernel_rfl) (by kernel_rfl) (fun _ _ _ h => h) (Y.len rfl Try.underlying23 rfl) ?_
        refine TA.take 5 rfl rfl rfl rfl (by kernel_rfl) (by kernel_rfl) (by kernel_rfl) rfl (by kernel_rfl) (by kernel_rfl) (fun _ _ _ h => h) (Y.sliceArr rfl Try.underlying83 sz5 rfl) ?_
        refine TA.takeP 6 rfl rfl rfl rfl (by kernel_rfl) (by kernel_rfl) (by kernel_rfl) rfl (fun _ _ _ h => h) (by first | exact Y.indexSlB rfl sl23 rfl rfl (by omega) nqq | exact Y.indexSl rfl sl23 rfl rfl (by omega) nqq) ?_
        refine TA.take 7 rfl rfl rfl rfl (by kernel_rfl) (by kernel_rfl) (by kernel_rfl) rfl (by kernel_rfl) (by kernel_rfl) (fun _ _ _ h => h) (by first | exact Y.fieldAddrJ rfl fo65_1 rfl nqq | exact Y.fieldAddr rfl fo65_1 rfl nqq) ?_
        refine TA.one0 8 (by kernel_rfl) rfl rfl rfl (X.storeOwn (off := fo) (cs' := Dat.cs (l ++ [y])) (j := l.length * 2 + 1) rfl (by kernel_rfl) rfl rfl rfl rfl pul (by omega) (by rw [hx, hy]; exact cs_val l 8 _ _ ⟨some ⟨b10, 0, none⟩, 20, t⟩ (by rw [show Sl.v (⟨some ⟨b10, 0, none⟩, 20, t⟩ : Bs) = .slice (some ⟨b10, 0, none⟩) t.length 20 from rfl, htl]))) ?_
        rintro _ _ rfl
        refine ⟨(Or.inl (by kernel_rfl)), ?_⟩
        refine TA.done (by kernel_rfl) ?_
        have hfl1 : (l ++ [y]).length = l.length + 1 := by simp
        rw [show (l ++ [x]).length = (l ++ [y]).length by simp]
        refine TQ.next ?_
        refine TC.seq ?_
        refine TC.draws 7 [SA.blk b7 (msgC c m f (.slice (some ⟨fg, fo, none⟩) (l ++ [y]).length fc)) 25] (by kernel_rfl) (by kernel_rfl) (by repeat first | exact holds_nil | refine holds_cons inn ?_) ?_
        refine TA.take 0 rfl rfl rfl rfl (by kernel_rfl) (by kernel_rfl) (by kernel_rfl) rfl (by kernel_rfl) (by kernel_rfl) (fun _ _ _ h => h) (by first | exact Y.fieldAddrJ rfl fo25_3 rfl nqq | exact Y.fieldAddr rfl fo25_3 rfl nqq) ?_
        refine TA.take 1 rfl rfl rfl rfl (by kernel_rfl) (by kernel_rfl) (by kernel_rfl) rfl (by kernel_rfl) (by kernel_rfl) (fun _ _ _ h => h) (Y.load rfl sc23 rfl celD) ?_
        refine TA.as (.slice (some ⟨fg, fo, none⟩) (l ++ [y]).length fc) (by rfl) ?_
        refine TA.one 2 (by kernel_rfl) rfl rfl rfl rfl (X.makeSlice (n := 4) (c := 4) rfl el27 rfl rfl (by omega) (by omega) (by simp only [maxLen]; omega)) ?_
        rintro _ _ ⟨g69, rfl, rfl⟩
        rw [made4]
        refine ⟨(Or.inr (by repeat first | exact holds_nil | refine holds_cons inn ?_)), ?_⟩
        refine TA.take 3 rfl rfl rfl rfl (by kernel_rfl) (by kernel_rfl) (by kernel_rfl) rfl (by kernel_rfl) (by kernel_rfl) (fun _ _ _ h => h) (Y.buildS (cells := #[v16 32808, .slice (some ⟨g69, 0, none⟩) 4 4]) rfl rfl pl65 zc65 (by kernel_rfl)) ?_
        refine TA.one 4 (by kernel_rfl) rfl rfl rfl rfl (X.litA (bytes := 0) (z := .nilFunc) rfl Try.underlying23 zs65 rfl rfl rfl (by decide) (by decide) (by decide) rfl (cells := [v16 32808, .slice (some ⟨g69, 0, none⟩) 4 4]) rfl rfl) ?_
        rintro _ _ ⟨g71, rfl, rfl⟩
        refine ⟨(Or.inr (by repeat first | exact holds_nil | refine holds_cons inn ?_)), ?_⟩
        refine TA.one 5 (by kernel_rfl) rfl rfl rfl rfl (X.appendS rfl el23 rfl pul rfl (by first | exact Src.owns Try.underlying23 inn | exact Src.rds Try.underlying23 inn | exact Src.reads (by assumption) Try.underlying23 inn) (by simp only [maxLen]; omega) (by omega)) ?_
        rintro _ _ ⟨a72, c72, rfl, rfl⟩
        rw [show Dat.cs (l ++ [y]) ++ [v16 32808, .slice (some ⟨g69, 0, none⟩) 4 4] = Dat.cs (l ++ [y] ++ [one2 32808 (some ⟨g69, 0, none⟩) 4 z4]) from (Dat.cs_app (l ++ [y]) [one2 32808 (some ⟨g69, 0, none⟩) 4 z4]).symm, show (l ++ [y]).length + 1 = (l ++ [y] ++ [one2 32808 (some ⟨g69, 0, none⟩) 4 z4]).length by simp]
        refine ⟨(Or.inr (by repeat first | exact holds_nil | refine holds_cons inn ?_)), ?_⟩
        refine TA.take 6 rfl rfl rfl rfl (by kernel_rfl) (by kernel_rfl) (by kernel_rfl) rfl (by kernel_rfl) (by kernel_rfl) (fun _ _ _ h => h) (by first | exact Y.fieldAddrJ rfl fo25_3 rfl nqq | exact Y.fieldAddr rfl fo25_3 rfl nqq) ?_
        refine TA.one0 7 (by kernel_rfl) rfl rfl rfl (X.store rfl (by kernel_rfl) rfl rfl rfl pul (by rw [msgC_size]; omega) rfl) ?_
        rintro _ _ rfl
        rw [show (msgC c m f (.slice (some ⟨fg, fo, none⟩) (l ++ [y]).length fc)).setIfInBounds 14 (.slice a72 (l ++ [y] ++ [one2 32808 (some ⟨g69, 0, none⟩) 4 z4]).length c72) = msgC c m f (.slice a72 (l ++ [y] ++ [one2 32808 (some ⟨g69, 0, none⟩) 4 z4]).length c72) from rfl]
        refine ⟨(Or.inl (by kernel_rfl)), ?_⟩
        refine TA.done (by kernel_rfl) ?_
        obtain ⟨u, hu⟩ : ∃ u, u = one2 32808 (some ⟨g69, 0, none⟩) 4 z4 := ⟨_, rfl⟩
        rw [← hu]
        have hfl2 : (l ++ [y] ++ [u]).length = l.length + 2 := by simp
        refine TQ.next ?_
        refine TC.seq ?_
        refine TC.region ?_
        refine TL.val rfl rfl rfl (Y.loadAgg rfl ag25 rfl (Cels.all (cs := msgC c m f (.slice a72 (l ++ [y] ++ [u]).length c72)) inn) (by first | rfl | ((try simp only [List.length_map, List.length_set, List.length_replicate]); omega))) ?_
        refine TL.as (.agg (msgC c m f (.slice a72 (l ++ [y] ++ [u]).length c72))) (by rfl) ?_
        refine TL.to ((Ent.hang (a := a) pul).trans (Ent.trans (Ent.mkAtB (t := 8) (b := b10) pul htl (by decide)) (Ent.addEl (x := one2 8 (some ⟨b10, 0, none⟩) 20 t) pul pul))) ?_
        rw [← hy]
        refine TL.to (Ent.trans (Ent.mkAt (t := 32808) (a := some ⟨g69, 0, none⟩) (bs := z4) (n := 4) (cap := 4) pul rfl) (Ent.addEl (x := one2 32808 (some ⟨g69, 0, none⟩) 4 z4) (ys := l ++ [y]) pul pul)) ?_
        rw [← hu]
        refine TL.eff rfl rfl rfl (X.call rfl Try.func10 (by kernel_rfl) rfl rfl (Fn.preE (by repeat first | (with_reducible apply Ent.refl) | (apply Ent.cons; case h => first | (with_reducible (repeat first | apply Pull.here | apply Pull.there); done) | (repeat first | apply Pull.here | apply Pull.there))) (refBuildO_fn c m f a72 c72 (l ++ [y] ++ [u]) _))) ?_
        rintro _ _ ⟨_, ⟨ba2, bc2, rfl, rfl⟩, rfl⟩
        simp only [List.cons_append, List.nil_append]
        rw [show SM c m f ⟨a72, c72, l ++ [y] ++ [u]⟩ = (SM c m f ⟨a, cap, l⟩).more [(8, tagT (SM c m f ⟨a, cap, l⟩) key), (32808, z4)] by rw [List.append_assoc, SM_more c m f a a72 cap c72, hy, hu, ← ht]; rfl]
        obtain ⟨o2, ho2⟩ : ∃ o, o = ((SM c m f ⟨a, cap, l⟩).more [(8, tagT (SM c m f ⟨a, cap, l⟩) key), (32808, z4)]).build := ⟨_, rfl⟩
        rw [← ho2]
        refine TL.val rfl rfl rfl (Y.move rfl rfl) ?_
        refine TL.val rfl rfl rfl (Y.extract rfl rfl rfl) ?_
        refine TL.val rfl rfl rfl (Y.extract rfl rfl rfl) ?_
        refine TL.val rfl rfl rfl (Y.assign rfl rfl) ?_
        refine TL.val rfl rfl rfl (Y.assign rfl rfl) ?_
        refine TL.nil ?_
        refine TQ.next ?_
        refine TC.seq ?_
        refine TC.seq ?_
        refine TC.region ?_
        refine TL.val rfl rfl rfl (Y.move rfl rfl) ?_
        refine TL.val rfl rfl rfl (Y.bin rfl rfl rfl (br_neN (n := 0))) ?_
        refine TL.nil ?_
        refine TQ.next ?_
        refine TC.cond rfl (fun c3 => ?_) (fun c3 => ?_)
        · try simp only [decide_eq_true_eq, decide_eq_false_iff_not, Bool.not_eq_true', Bool.not_eq_false', Bool.and_eq_true, Bool.or_eq_true, Nat.not_lt, Nat.not_le, beq_iff_eq, bne_iff_ne] at c3
          have hS : (SM c m f ⟨a, cap, l⟩).sgn key = none := ref_no2 (z := z4) rfl rfl hnt (ho2.symm.trans (oe_none c3))
          rw [hS]
          refine TC.to (Ent.nilOwn 5 1) ?_
          refine TC.seq ?_
          refine TC.region ?_
          refine TL.val rfl rfl rfl (Y.assign rfl rfl) ?_
          refine TL.val rfl rfl rfl (Y.assign rfl rfl) ?_
          refine TL.nil ?_
          refine TQ.next ?_
          refine TC.ret ?_
          refine TQ.then_ret ?_
          refine TQ.retE (res2 rfl rfl rfl) (⟨_, _, rfl, rfl⟩) ?_
          exact ett
        · try simp only [decide_eq_true_eq, decide_eq_false_iff_not, Bool.not_eq_true', Bool.not_eq_false', Bool.and_eq_true, Bool.or_eq_true, Nat.not_lt, Nat.not_le, beq_iff_eq, bne_iff_ne] at c3
          have hob2 := ob_some c3
          obtain ⟨b2, hb2⟩ : ∃ b2, b2 = ob o2 := ⟨_, rfl⟩
          rw [← hb2] at hob2
          obtain ⟨h8, h15, hsg⟩ := ref_sum (z := z4) rfl rfl hnt (ho2.symm.trans hob2)
          rw [← hb2, hsg]
          refine TC.know (owns_cap (a := ba2) inn) ?_
          rintro ⟨hk3, hk4, -⟩
          refine TC.know (owns_some (a := ba2) inn (by omega)) ?_
          rintro ⟨og, oo, rfl⟩
          refine TC.skip ?_
          refine TQ.next ?_
          refine TC.seq ?_
          refine TC.region ?_
          refine TL.val rfl rfl rfl (Y.move rfl rfl) ?_
          refine TL.val rfl rfl rfl (Y.move rfl rfl) ?_
          refine TL.val rfl rfl rfl (Y.len rfl Try.underlying27 rfl) ?_
          refine TL.val rfl rfl rfl (Y.bin rfl rfl rfl (br_subN (n := 8) (by omega) (by omega))) ?_
          refine TL.val rfl rfl rfl (Y.sliceHi2 rfl Try.underlying27 sz5 rfl rfl (by omega)) ?_
          refine TL.eff rfl rfl rfl (X.call rfl Try.func47 (by kernel_rfl) rfl rfl (Fn.preE (by repeat first | (with_reducible apply Ent.refl) | (apply Ent.cons; case h => first | (with_reducible (repeat first | apply Pull.here | apply Pull.there); done) | (repeat first | apply Pull.here | apply Pull.there))) (sha.refCrc_fn (SA.owns 5 1 (.slice (some ⟨og, oo, none⟩) b2.length bc2) b2.length (b2.map v8)) _ (b2.length - 8) bc2 (b2.take (b2.length - 8)) (Reads.head8 Reads.owns (by omega)) (by rw [List.length_take]; omega) _))) ?_
          rintro _ _ ⟨rfl, rfl⟩
          refine TL.val rfl rfl rfl (Y.bin rfl rfl rfl (br_xor32 (y := 1398035790))) ?_
          refine TL.as (v32 (crcX (b2.take (b2.length - 8)))) (by rfl) ?_
          refine TL.val rfl rfl rfl (Y.assign rfl rfl) ?_
          refine TL.nil ?_
          obtain ⟨q, hq⟩ : ∃ q, q = crcX (b2.take (b2.length - 8)) := ⟨_, rfl⟩
          rw [← hq]
          refine TQ.next ?_
          refine TC.seq ?_
          refine TC.draws 7 _ (by kernel_rfl) (by kernel_rfl) (fun _ h => h) ?_
          refine TA.takeP 0 rfl rfl rfl rfl (by kernel_rfl) (by kernel_rfl) (by kernel_rfl) rfl (fun _ _ _ h => h) (Y.move rfl rfl) ?_
          refine TA.takeP 1 rfl rfl rfl rfl (by kernel_rfl) (by kernel_rfl) (by kernel_rfl) rfl (fun _ _ _ h => h) (Y.move rfl rfl) ?_
          refine TA.takeP 2 rfl rfl rfl rfl (by kernel_rfl) (by kernel_rfl) (by kernel_rfl) rfl (fun _ _ _ h => h) (Y.len rfl Try.underlying27 rfl) ?_
          refine TA.takeP 3 rfl rfl rfl rfl (by kernel_rfl) (by kernel_rfl) (by kernel_rfl) rfl (fun _ _ _ h => h) (Y.bin rfl rfl rfl (br_subN (n := 4) (by omega) (by omega))) ?_
          refine TA.take 4 rfl rfl rfl rfl (by kernel_rfl) (by kernel_rfl) (by kernel_rfl) rfl (by kernel_rfl) (by kernel_rfl) (fun _ _ _ h => h) (Y.sliceLo rfl Try.underlying27 sz5 rfl rfl (by omega)) ?_
          refine TA.as (.slice (some ⟨og, oo + (b2.length - 4), none⟩) 4 (bc2 - (b2.length - 4))) (by rw [cutV_some (by omega), Nat.mul_one, show b2.length - (b2.length - 4) = 4 by omega]) ?_
          refine TA.takeP 5 rfl rfl rfl rfl (by kernel_rfl) (by kernel_rfl) (by kernel_rfl) rfl (fun _ _ _ h => h) (Y.move rfl rfl) ?_
          refine TA.one 6 (by kernel_rfl) rfl rfl rfl rfl (X.call rfl Try.func31 (by kernel_rfl) rfl rfl (Fn.preE (by repeat first | (with_reducible apply Ent.refl) | (apply Ent.cons; case h => first | (with_reducible (repeat first | apply Pull.here | apply Pull.there); done) | (repeat first | apply Pull.here | apply Pull.there))) (r1.Four_fn _ _))) ?_
          rintro _ _ ⟨g94, rfl, rfl⟩
          refine ⟨(Or.inr (fun w h A hA => h A (by with_reducible (first | assumption | (repeat first | exact In.there hA | apply In.there))))), ?_⟩
          refine TA.one 7 (by kernel_rfl) rfl rfl rfl rfl (X.copyOwn (m := 4) (j := b2.length - 4) (cs' := (b2.take (b2.length - 4) ++ be4 q).map v8) rfl Try.underlying27 (by kernel_rfl) rfl rfl rfl (by first | exact Src.owns Try.underlying27 inn) pul (by omega) (by omega) (copy_tail b2 (be4 q) rfl (by omega))) ?_
          rintro _ _ ⟨rfl, rfl⟩
          refine ⟨(Or.inl (by kernel_rfl)), ?_⟩
          refine TA.done (by kernel_rfl) ?_
          rw [show ob (some (b2.take (b2.length - 4) ++ be4 q)) = b2.take (b2.length - 4) ++ be4 q from rfl, show (b2.take (b2.length - 4) ++ be4 q).length = b2.length by rw [List.length_append, List.length_take, be4_len]; omega]
          refine TQ.next ?_
          refine TC.seq ?_
          refine TC.region ?_
          refine TL.val rfl rfl rfl (Y.move rfl rfl) ?_
          refine TL.val rfl rfl rfl (Y.assign rfl rfl) ?_
          refine TL.val rfl rfl rfl (Y.assign rfl rfl) ?_
          refine TL.nil ?_
          refine TQ.next ?_
          refine TC.ret ?_
          refine TQ.retE (res2 rfl rfl rfl) (⟨_, _, rfl, rfl⟩) ?_
          exact ett
end stun
end Go.Proofs.Ytggammbhmoippaa
