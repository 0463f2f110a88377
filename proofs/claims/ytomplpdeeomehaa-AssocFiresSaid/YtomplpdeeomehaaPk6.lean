/- The logic and the walks, in one text with others: part 6 of 6. -/
import Derived.Test.YtomplpdeeomehaaPk5
/- assoc: the net; step of the third kind, walked. -/
namespace Go.Proofs.Ytomplpdeeomehaa
set_option linter.unusedVariables false
set_option linter.unusedSimpArgs false
open Go.RowKit
namespace ac
open wr (be16 be32)
open rd (num)
namespace FxAsNet
set_option maxRecDepth 100000
theorem el24 : Elt Try.prog 24 23 1 24 (.slice none 0 0) := ⟨Try.underlying24, by kernel_rfl, rfl, by decide, by simp [Value.cells, Value.oneCell']⟩
theorem el44 : Elt Try.prog 44 77 3 32 (.agg #[.int .u16 0, .int .u32 0, .slice none 0 0]) := ⟨Try.underlying44, by kernel_rfl, rfl, by decide, by simp [Value.cells, Value.oneCell']⟩
theorem fo42_0 : Program.fieldOff Try.prog 42 0 = some 0 := by kernel_rfl
theorem fo42_1 : Program.fieldOff Try.prog 42 1 = some 1 := by kernel_rfl
theorem fo42_2 : Program.fieldOff Try.prog 42 2 = some 2 := by kernel_rfl
theorem fo46_1 : Program.fieldOff Try.prog 46 1 = some 1 := by kernel_rfl
theorem fo46_2 : Program.fieldOff Try.prog 46 2 = some 2 := by kernel_rfl
theorem fo46_3 : Program.fieldOff Try.prog 46 3 = some 3 := by kernel_rfl
theorem fo46_6 : Program.fieldOff Try.prog 46 6 = some 6 := by kernel_rfl
theorem fo46_8 : Program.fieldOff Try.prog 46 8 = some 8 := by kernel_rfl
theorem sc2 : Program.isSc Try.prog 2 = true := by kernel_rfl
theorem sc23 : Program.isSc Try.prog 23 = true := by kernel_rfl
theorem sc24 : Program.isSc Try.prog 24 = true := by kernel_rfl
theorem sc26 : Program.isSc Try.prog 26 = true := by kernel_rfl
theorem sc3 : Program.isSc Try.prog 3 = true := by kernel_rfl
theorem sc4 : Program.isSc Try.prog 4 = true := by kernel_rfl
theorem sc44 : Program.isSc Try.prog 44 = true := by kernel_rfl
theorem sl24 : Program.slI Try.prog 24 = some 1 := by kernel_rfl
theorem sz23 : (Try.prog.info? 23).map (·.size) = some 1 := by kernel_rfl
end FxAsNet
open FxAsNet
/-- where the net's parts lie -/
structure NP where
  a : Nat
  b : Nat
  ab : Sl Bs
  ba : Sl Bs
  sent : Sl Msg
  back : Sl Msg
  gB : Sl Msg
  gA : Sl Msg
  now : Int
def netC (n : NP) : Array Value := #[pt n.a 0, pt n.b 0, .slice n.ab.a n.ab.l.length n.ab.cap, .slice n.ba.a n.ba.l.length n.ba.cap, .slice n.sent.a n.sent.l.length n.sent.cap, .slice n.back.a n.back.l.length n.back.cap, .slice n.gB.a n.gB.l.length n.gB.cap, .slice n.gA.a n.gA.l.length n.gA.cap, vI n.now]
abbrev nB (nb : Nat) (n : NP) : SA := SA.blk nb (netC n) 46
abbrev oP (s : Sl Bs) : SA := SA.owns 23 1 (.slice s.a s.l.length s.cap) s.l.length (Dat.cs s.l)
abbrev rP (s : Sl Bs) : SA := SA.rdss (s.l.flatMap Dat.g)
abbrev oM (s : Sl Msg) : SA := SA.owns rmT 3 (.slice s.a s.l.length s.cap) s.l.length (Dat.cs s.l)
abbrev rMs (s : Sl Msg) : SA := SA.rdss (s.l.flatMap Dat.g)
def idxN (N : Int) (len : Nat) : Nat := (N % 18446744073709551616).toNat % len
theorem br_remU {m n : Nat} (h : 0 < n) : BR .rem .u64 (m : Int) .u64 (n : Int) (.int .u64 ((m % n : Nat) : Int)) := fun P w t => by
  have : ¬ (n = 0) := by omega
  simp [binOp, Op.intDiv, this, go_sem]
  exact Int.tmod_eq_emod_of_nonneg (by omega)
theorem cs_erase (l : List Bs) (k : Nat) (hk : k < l.length) : Dat.cs (l.take k) ++ ((Dat.cs l).drop ((k + 1) * 1)).take ((l.length - (k + 1)) * 1) = Dat.cs (l.eraseIdx k) := by
  have e : ((Dat.cs l).drop ((k + 1) * 1)).take ((l.length - (k + 1)) * 1) = Dat.cs (l.drop (k + 1)) := by
    rw [List.take_of_length_le (by rw [List.length_drop, Dat.cs_len]; show l.length * 1 - (k + 1) * 1 ≤ _; omega), Dat.cs_drop]; rfl
  rw [e, ← Dat.cs_app, List.eraseIdx_eq_take_drop_succ]
def netArg (kind N : Int) (keep : Bool) (d : Value) (nw : UInt16) : Array Value := #[vI kind, vI N, .bool keep, d, v16 nw]
theorem Ent.elP {xs : List Bs} {x : Bs} (hx : x ∈ xs) {L L1 : List SA} (h : Pull (SA.rdss (xs.flatMap Dat.g)) L L1) : Ent L (SA.rds 1 (.slice x.a x.l.length x.cap) x.l.length (x.l.map v8) :: SA.rdss (xs.flatMap Dat.g) :: L1) :=
  h.ent.trans ((Ent.rdss_sub (hs := Dat.g x) fun q hq => List.mem_flatMap.2 ⟨_, hx, hq⟩).trans ((Ent.bytesOf (s := x)).trans (Ent.under _ Ent.drop)))
theorem Ent.addAll {α : Type} [Dat α] {o : Sl α} {ys : List α} {L L1 L2 : List SA} (h1 : Pull (SA.rdss (ys.flatMap Dat.g)) L L1) (h2 : Pull (SA.dat o) L1 L2) : Ent L (SA.rdss ((ys ++ o.l).flatMap Dat.g) :: L2) := by
  rw [List.flatMap_append]
  exact h1.ent.trans ((Ent.under _ ((Ent.hang (a := o.a) (cap := o.cap) (l := o.l) h2).trans (Ent.under _ Ent.drop))).trans Ent.rdssApp)
set_option maxHeartbeats 4000000 in
theorem step3_fn (nb : Nat) (n : NP) (B : PS) (hB : InvA B) (N : Int) (d : Value) (nw : UInt16) (k : Nat) (x : Bs) (hk : k = idxN N n.ab.l.length) (hx : n.ab.l[k]? = some x) (hxl : x.l.length ≤ 140737488351232) (h200 : n.ab.l.length ≤ 200)
    (hba : n.ba.l.length + (B.handle n.now x.l).2.1.length ≤ 200) (hgl : n.gB.l.length + (B.handle n.now x.l).2.2.1.length ≤ 1000000) (L : List SA) :
    Fn Try.prog 16 [pt nb 0, .agg (netArg 3 N false d nw)] (nB nb n :: SD n.b B :: oP n.ab :: rP n.ab :: oP n.ba :: rP n.ba :: oM n.gB :: rMs n.gB :: L)
      (fun _ L' => ∃ n' : NP, n'.a = n.a ∧ n'.b = n.b ∧ n'.sent = n.sent ∧ n'.back = n.back ∧ n'.gA = n.gA ∧ n'.now = n.now ∧ n'.ab.l = n.ab.l.eraseIdx k ∧ n'.ba.l.map (·.l) = n.ba.l.map (·.l) ++ (B.handle n.now x.l).2.1 ∧ n'.gB.l.map pm = n.gB.l.map pm ++ (B.handle n.now x.l).2.2.1 ∧
        L' = nB nb n' :: SD n'.b (B.handle n.now x.l).1 :: oP n'.ab :: rP n'.ab :: oP n'.ba :: rP n'.ba :: oM n'.gB :: rMs n'.gB :: L) := by
  have hkl := (List.getElem?_eq_some_iff.1 hx).1
  refine Fn.of (N := 367) Try.func16 rfl rfl ?_
  intro Xh
  refine TC.seq ?_
  refine TC.region ?_
  refine TL.eff rfl rfl rfl (X.box (cs := netArg 3 N false d nw) rfl rfl rfl) ?_
  rintro _ _ ⟨b3, rfl, rfl⟩
  refine TL.nil ?_
  refine TQ.next ?_
  refine TC.seq ?_
  refine TC.seq ?_
  refine TC.region ?_
  refine TL.val rfl rfl rfl (by first | exact Y.fieldAddrJ rfl fo42_0 rfl nqq | exact Y.fieldAddr rfl fo42_0 rfl nqq) ?_
  refine TL.val rfl rfl rfl (Y.load rfl sc3 rfl celN) ?_
  refine TL.as (vI 3) (by rfl) ?_
  refine TL.nil ?_
  refine TQ.next ?_
  refine TC.block ?_
  refine TC.seq ?_
  refine TC.seq ?_
  refine TC.region ?_
  refine TL.val rfl rfl rfl (Y.bin rfl rfl rfl (br_eqN (n := 1))) ?_
  refine TL.is false (by first | rfl | (simp only [decide_eq_true_eq, decide_eq_false_iff_not, Bool.not_eq_true', Bool.not_eq_false', Bool.not_eq_eq_eq_not, Bool.not_true, Bool.not_false, Nat.not_lt, Nat.not_le]; omega) | (simp [*]; done) | (simp; omega)) ?_
  refine TL.val rfl rfl rfl (Y.assign rfl rfl) ?_
  refine TL.nil ?_
  refine TQ.next ?_
  refine TC.cond_f rfl ?_
  refine TC.region ?_
  refine TL.val rfl rfl rfl (Y.bin rfl rfl rfl (br_eqN (n := 2))) ?_
  refine TL.is false (by first | rfl | (simp only [decide_eq_true_eq, decide_eq_false_iff_not, Bool.not_eq_true', Bool.not_eq_false', Bool.not_eq_eq_eq_not, Bool.not_true, Bool.not_false, Nat.not_lt, Nat.not_le]; omega) | (simp [*]; done) | (simp; omega)) ?_
  refine TL.val rfl rfl rfl (Y.assign rfl rfl) ?_
  refine TL.nil ?_
  refine TQ.next ?_
  refine TC.cond_f rfl ?_
  refine TC.seq ?_
  refine TC.seq ?_
  refine TC.region ?_
  refine TL.val rfl rfl rfl (Y.bin rfl rfl rfl (br_eqN (n := 3))) ?_
  refine TL.is true (by first | rfl | (simp only [decide_eq_true_eq, decide_eq_false_iff_not, Bool.not_eq_true', Bool.not_eq_false', Bool.not_eq_eq_eq_not, Bool.not_true, Bool.not_false, Nat.not_lt, Nat.not_le]; omega) | (simp [*]; done) | (simp; omega)) ?_
  refine TL.val rfl rfl rfl (Y.assign rfl rfl) ?_
  refine TL.nil ?_
  refine TQ.next ?_
  refine TC.cond_t rfl ?_
  refine TC.skip ?_
  refine TQ.next ?_
  refine TC.cond_t rfl ?_
  refine TC.seq ?_
  refine TC.seq ?_
  refine TC.region ?_
  refine TL.val rfl rfl rfl (Y.move rfl rfl) ?_
  refine TL.val rfl rfl rfl (Y.nilCheck rfl rfl) ?_
  refine TL.val rfl rfl rfl (by first | exact Y.fieldAddrJ rfl fo46_2 rfl nqq | exact Y.fieldAddr rfl fo46_2 rfl nqq) ?_
  refine TL.val rfl rfl rfl (Y.load rfl sc24 rfl celD) ?_
  refine TL.as (.slice n.ab.a n.ab.l.length n.ab.cap) (by rfl) ?_
  refine TL.val rfl rfl rfl (Y.len rfl Try.underlying24 rfl) ?_
  refine TL.val rfl rfl rfl (Y.bin rfl rfl rfl (br_eqN (n := 0))) ?_
  refine TL.is false (by (simp; intro h; rw [h] at hkl; simp at hkl)) ?_
  refine TL.nil ?_
  refine TQ.next ?_
  refine TC.cond_f rfl ?_
  refine TC.skip ?_
  refine TQ.next ?_
  refine TC.seq ?_
  refine TC.draws 12 _ (by kernel_rfl) (by kernel_rfl) (fun _ h => h) ?_
  refine TA.take 0 rfl rfl rfl rfl (by kernel_rfl) (by kernel_rfl) (by kernel_rfl) rfl (by kernel_rfl) (by kernel_rfl) (fun _ _ _ h => h) (by first | exact Y.fieldAddrJ rfl fo42_1 rfl nqq | exact Y.fieldAddr rfl fo42_1 rfl nqq) ?_
  refine TA.take 1 rfl rfl rfl rfl (by kernel_rfl) (by kernel_rfl) (by kernel_rfl) rfl (by kernel_rfl) (by kernel_rfl) (fun _ _ _ h => h) (Y.load rfl sc3 rfl celN) ?_
  refine TA.as (vI N) (by rfl) ?_
  refine TA.take 2 rfl rfl rfl rfl (by kernel_rfl) (by kernel_rfl) (by kernel_rfl) rfl (by kernel_rfl) (by kernel_rfl) (fun _ _ _ h => h) (Y.conv (m := (((N % 18446744073709551616).toNat : Nat) : Int)) rfl Try.underlying3 Try.underlying56 rfl (by rw [wrap_u64]; omega)) ?_
  refine TA.take 3 rfl rfl rfl rfl (by kernel_rfl) (by kernel_rfl) (by kernel_rfl) rfl (by kernel_rfl) (by kernel_rfl) (fun _ _ _ h => h) (Y.move rfl rfl) ?_
  refine TA.take 4 rfl rfl rfl rfl (by kernel_rfl) (by kernel_rfl) (by kernel_rfl) rfl (by kernel_rfl) (by kernel_rfl) (fun _ _ _ h => h) (Y.nilCheck rfl rfl) ?_
  refine TA.take 5 rfl rfl rfl rfl (by kernel_rfl) (by kernel_rfl) (by kernel_rfl) rfl (by kernel_rfl) (by kernel_rfl) (fun _ _ _ h => h) (by first | exact Y.fieldAddrJ rfl fo46_2 rfl nqq | exact Y.fieldAddr rfl fo46_2 rfl nqq) ?_
  refine TA.take 6 rfl rfl rfl rfl (by kernel_rfl) (by kernel_rfl) (by kernel_rfl) rfl (by kernel_rfl) (by kernel_rfl) (fun _ _ _ h => h) (Y.load rfl sc24 rfl celD) ?_
  refine TA.as (.slice n.ab.a n.ab.l.length n.ab.cap) (by rfl) ?_
  refine TA.take 7 rfl rfl rfl rfl (by kernel_rfl) (by kernel_rfl) (by kernel_rfl) rfl (by kernel_rfl) (by kernel_rfl) (fun _ _ _ h => h) (Y.len rfl Try.underlying24 rfl) ?_
  refine TA.take 8 rfl rfl rfl rfl (by kernel_rfl) (by kernel_rfl) (by kernel_rfl) rfl (by kernel_rfl) (by kernel_rfl) (fun _ _ _ h => h) (Y.conv rfl Try.underlying3 Try.underlying56 rfl (cv_N_64n (by omega))) ?_
  refine TA.take 9 rfl rfl rfl rfl (by kernel_rfl) (by kernel_rfl) (by kernel_rfl) rfl (by kernel_rfl) (by kernel_rfl) (fun _ _ _ h => h) (Y.bin rfl rfl rfl (br_remU (by omega))) ?_
  refine TA.as (.int .u64 ((k : Nat) : Int)) (by (rw [hk]; rfl)) ?_
  refine TA.take 10 rfl rfl rfl rfl (by kernel_rfl) (by kernel_rfl) (by kernel_rfl) rfl (by kernel_rfl) (by kernel_rfl) (fun _ _ _ h => h) (Y.conv rfl Try.underlying56 Try.underlying3 rfl (cv_64n_N (by omega))) ?_
  refine TA.take 11 rfl rfl rfl rfl (by kernel_rfl) (by kernel_rfl) (by kernel_rfl) rfl (by kernel_rfl) (by kernel_rfl) (fun _ _ _ h => h) (Y.assign rfl rfl) ?_
  refine TA.done (by kernel_rfl) ?_
  refine TQ.next ?_
  refine TC.seq ?_
  refine TC.know (reads_cap Reads.owns (a := n.ab.a) (n := n.ab.l.length) (cap := n.ab.cap) (cs := Dat.cs n.ab.l) inn) ?_
  rintro ⟨hcap, -, -, -⟩
  refine TC.know (owns_some (a := n.ab.a) (n := n.ab.l.length) inn (by omega)) ?_
  rintro ⟨g, off, hqa⟩
  refine TC.region ?_
  refine TL.val rfl rfl rfl (Y.move rfl rfl) ?_
  refine TL.val rfl rfl rfl (Y.nilCheck rfl rfl) ?_
  refine TL.val rfl rfl rfl (by first | exact Y.fieldAddrJ rfl fo46_2 rfl nqq | exact Y.fieldAddr rfl fo46_2 rfl nqq) ?_
  refine TL.val rfl rfl rfl (Y.load rfl sc24 rfl celD) ?_
  refine TL.as (.slice (some ⟨g, off, none⟩) n.ab.l.length n.ab.cap) (by (rw [← hqa]; rfl)) ?_
  refine TL.val rfl rfl rfl (Y.move rfl rfl) ?_
  refine TL.val rfl rfl rfl (by first | exact Y.indexSlB rfl sl24 rfl rfl (by omega) nqq | exact Y.indexSl rfl sl24 rfl rfl (by omega) nqq) ?_
  refine TL.val rfl rfl rfl (Y.load rfl sc23 rfl (Cel.atS (A := SA.owns 23 1 (.slice (some ⟨g, off, none⟩) n.ab.l.length n.ab.cap) n.ab.l.length (Dat.cs n.ab.l)) Reads.owns (by rw [← hqa]; exact inn) hx rfl)) ?_
  refine TL.as (.slice x.a x.l.length x.cap) (by rfl) ?_
  refine TL.val rfl rfl rfl (Y.assign rfl rfl) ?_
  refine TL.nil ?_
  refine TQ.next ?_
  refine TC.seq ?_
  refine TC.seq ?_
  refine TC.region ?_
  refine TL.val rfl rfl rfl (by first | exact Y.fieldAddrJ rfl fo42_2 rfl nqq | exact Y.fieldAddr rfl fo42_2 rfl nqq) ?_
  refine TL.val rfl rfl rfl (Y.load rfl sc4 rfl celD) ?_
  refine TL.as (.bool false) (by rfl) ?_
  refine TL.val rfl rfl rfl (Y.not rfl rfl) ?_
  refine TL.is true (by first | rfl | (simp only [decide_eq_true_eq, decide_eq_false_iff_not, Bool.not_eq_true', Bool.not_eq_false', Bool.not_eq_eq_eq_not, Bool.not_true, Bool.not_false, Nat.not_lt, Nat.not_le]; omega) | (simp [*]; done) | (simp; omega)) ?_
  refine TL.val rfl rfl rfl (Y.move rfl rfl) ?_
  refine TL.not rfl rfl rfl ?_
  refine TL.not rfl rfl rfl ?_
  refine TL.not rfl rfl rfl ?_
  refine TL.val rfl rfl rfl (Y.pick_t rfl rfl rfl) ?_
  refine TL.nil ?_
  refine TQ.next ?_
  refine TC.cond_t rfl ?_
  refine TC.draws 19 [nB nb n, oP n.ab] (by kernel_rfl) (by kernel_rfl) (by repeat first | exact holds_nil | refine holds_cons inn ?_) ?_
  refine TA.take 0 rfl rfl rfl rfl (by kernel_rfl) (by kernel_rfl) (by kernel_rfl) rfl (by kernel_rfl) (by kernel_rfl) (fun _ _ _ h => h) (Y.move rfl rfl) ?_
  refine TA.take 2 rfl rfl rfl rfl (by kernel_rfl) (by kernel_rfl) (by kernel_rfl) rfl (by kernel_rfl) (by kernel_rfl) (fun _ _ _ h => h) (Y.move rfl rfl) ?_
  refine TA.take 3 rfl rfl rfl rfl (by kernel_rfl) (by kernel_rfl) (by kernel_rfl) rfl (by kernel_rfl) (by kernel_rfl) (fun _ _ _ h => h) (Y.nilCheck rfl rfl) ?_
  refine TA.take 4 rfl rfl rfl rfl (by kernel_rfl) (by kernel_rfl) (by kernel_rfl) rfl (by kernel_rfl) (by kernel_rfl) (fun _ _ _ h => h) (by first | exact Y.fieldAddrJ rfl fo46_2 rfl nqq | exact Y.fieldAddr rfl fo46_2 rfl nqq) ?_
  refine TA.take 5 rfl rfl rfl rfl (by kernel_rfl) (by kernel_rfl) (by kernel_rfl) rfl (by kernel_rfl) (by kernel_rfl) (fun _ _ _ h => h) (Y.load rfl sc24 rfl celD) ?_
  refine TA.as (.slice n.ab.a n.ab.l.length n.ab.cap) (by rfl) ?_
  refine TA.take 6 rfl rfl rfl rfl (by kernel_rfl) (by kernel_rfl) (by kernel_rfl) rfl (by kernel_rfl) (by kernel_rfl) (fun _ _ _ h => h) (Y.move rfl rfl) ?_
  refine TA.take 7 rfl rfl rfl rfl (by kernel_rfl) (by kernel_rfl) (by kernel_rfl) rfl (by kernel_rfl) (by kernel_rfl) (fun _ _ _ h => h) (Y.sliceHi2 (sz := 1) rfl Try.underlying24 (by kernel_rfl) rfl rfl (by omega)) ?_
  refine TA.take 9 rfl rfl rfl rfl (by kernel_rfl) (by kernel_rfl) (by kernel_rfl) rfl (by kernel_rfl) (by kernel_rfl) (fun _ _ _ h => h) (Y.move rfl rfl) ?_
  refine TA.take 10 rfl rfl rfl rfl (by kernel_rfl) (by kernel_rfl) (by kernel_rfl) rfl (by kernel_rfl) (by kernel_rfl) (fun _ _ _ h => h) (Y.nilCheck rfl rfl) ?_
  refine TA.take 11 rfl rfl rfl rfl (by kernel_rfl) (by kernel_rfl) (by kernel_rfl) rfl (by kernel_rfl) (by kernel_rfl) (fun _ _ _ h => h) (by first | exact Y.fieldAddrJ rfl fo46_2 rfl nqq | exact Y.fieldAddr rfl fo46_2 rfl nqq) ?_
  refine TA.take 12 rfl rfl rfl rfl (by kernel_rfl) (by kernel_rfl) (by kernel_rfl) rfl (by kernel_rfl) (by kernel_rfl) (fun _ _ _ h => h) (Y.load rfl sc24 rfl celD) ?_
  refine TA.as (.slice n.ab.a n.ab.l.length n.ab.cap) (by rfl) ?_
  refine TA.take 13 rfl rfl rfl rfl (by kernel_rfl) (by kernel_rfl) (by kernel_rfl) rfl (by kernel_rfl) (by kernel_rfl) (fun _ _ _ h => h) (Y.move rfl rfl) ?_
  refine TA.take 14 rfl rfl rfl rfl (by kernel_rfl) (by kernel_rfl) (by kernel_rfl) rfl (by kernel_rfl) (by kernel_rfl) (fun _ _ _ h => h) (Y.bin rfl rfl rfl (br_addN (n := 1) (by omega))) ?_
  refine TA.take 15 rfl rfl rfl rfl (by kernel_rfl) (by kernel_rfl) (by kernel_rfl) rfl (by kernel_rfl) (by kernel_rfl) (fun _ _ _ h => h) (Y.sliceLo rfl Try.underlying24 sz23 rfl rfl (by omega)) ?_
  refine TA.one 1 (by kernel_rfl) rfl rfl rfl rfl (X.lit rfl el24 rfl rfl rfl (by decide) rfl) ?_
  rintro _ _ ⟨g147, rfl, rfl⟩
  refine ⟨(Or.inr (by repeat first | exact holds_nil | refine holds_cons inn ?_)), ?_⟩
  refine TA.one 8 (by kernel_rfl) rfl rfl rfl rfl (X.appendS rfl el24 rfl pul rfl (Src.reads (Reads.head (A := oP n.ab) (k := k) (n := n.ab.l.length) (cs := Dat.cs n.ab.l) Reads.owns (by omega)) Try.underlying24 inn) (by simp only [maxLen]; omega) (by omega)) ?_
  rintro _ _ ⟨a154, c154, rfl, rfl⟩
  rw [show ([] : List Value) ++ (Dat.cs n.ab.l).take (k * 1) = Dat.cs (n.ab.l.take k) by rw [Dat.cs_take]; rfl, Nat.zero_add]
  refine ⟨(Or.inr (by repeat first | exact holds_nil | refine holds_cons inn ?_)), ?_⟩
  refine TA.one 16 (by kernel_rfl) rfl rfl rfl rfl (X.appendS rfl el24 rfl pul rfl (Src.cut Reads.owns Try.underlying24 inn (by omega) (by omega)) (by simp only [maxLen]; omega) (by omega)) ?_
  rintro _ _ ⟨a162, c162, rfl, rfl⟩
  rw [cs_erase _ _ hkl, show k + (n.ab.l.length - (k + 1)) = (n.ab.l.eraseIdx k).length by rw [List.length_eraseIdx, if_pos hkl]; omega]
  refine ⟨(Or.inr (by repeat first | exact holds_nil | refine holds_cons inn ?_)), ?_⟩
  refine TA.takeP 17 rfl rfl rfl rfl (by kernel_rfl) (by kernel_rfl) (by kernel_rfl) rfl (fun _ _ _ h => h) (Y.nilCheck rfl rfl) ?_
  refine TA.take 18 rfl rfl rfl rfl (by kernel_rfl) (by kernel_rfl) (by kernel_rfl) rfl (by kernel_rfl) (by kernel_rfl) (fun _ _ _ h => h) (by first | exact Y.fieldAddrJ rfl fo46_2 rfl nqq | exact Y.fieldAddr rfl fo46_2 rfl nqq) ?_
  refine TA.one0 19 (by kernel_rfl) rfl rfl rfl (X.store (cs' := netC { n with ab := ⟨a162, c162, n.ab.l.eraseIdx k⟩ }) rfl (by kernel_rfl) rfl rfl rfl pul (by show 2 < 9; decide) rfl) ?_
  rintro _ _ rfl
  refine ⟨(Or.inl (by kernel_rfl)), ?_⟩
  refine TA.done (by kernel_rfl) ?_
  refine TQ.next ?_
  refine TC.seq ?_
  refine TC.to (Ent.elP (List.mem_of_getElem? hx) pul) ?_
  refine TC.to (Ent.rdssDrop (gs := n.ab.l.flatMap Dat.g) (hs := (n.ab.l.eraseIdx k).flatMap Dat.g) pul (fun q hq => by obtain ⟨z, hz, hq⟩ := List.mem_flatMap.1 hq; exact List.mem_flatMap.2 ⟨z, List.mem_of_mem_eraseIdx hz, hq⟩)) ?_
  refine TC.region ?_
  refine TL.val rfl rfl rfl (by first | exact Y.fieldAddrJ rfl fo42_0 rfl nqq | exact Y.fieldAddr rfl fo42_0 rfl nqq) ?_
  refine TL.val rfl rfl rfl (Y.load rfl sc3 rfl celN) ?_
  refine TL.as (vI 3) (by rfl) ?_
  refine TL.val rfl rfl rfl (Y.bin rfl rfl rfl (br_eqN (n := 3))) ?_
  refine TL.is true (by first | rfl | (simp only [decide_eq_true_eq, decide_eq_false_iff_not, Bool.not_eq_true', Bool.not_eq_false', Bool.not_eq_eq_eq_not, Bool.not_true, Bool.not_false, Nat.not_lt, Nat.not_le]; omega) | (simp [*]; done) | (simp; omega)) ?_
  refine TL.nil ?_
  refine TQ.next ?_
  refine TC.cond_t rfl ?_
  refine TC.seq ?_
  refine TC.draws 9 [nB nb { n with ab := ⟨a162, c162, n.ab.l.eraseIdx k⟩ }] (by kernel_rfl) (by kernel_rfl) (by repeat first | exact holds_nil | refine holds_cons inn ?_) ?_
  refine TA.takeP 0 rfl rfl rfl rfl (by kernel_rfl) (by kernel_rfl) (by kernel_rfl) rfl (fun _ _ _ h => h) (Y.move rfl rfl) ?_
  refine TA.takeP 1 rfl rfl rfl rfl (by kernel_rfl) (by kernel_rfl) (by kernel_rfl) rfl (fun _ _ _ h => h) (Y.nilCheck rfl rfl) ?_
  refine TA.takeP 2 rfl rfl rfl rfl (by kernel_rfl) (by kernel_rfl) (by kernel_rfl) rfl (fun _ _ _ h => h) (by first | exact Y.fieldAddrJ rfl fo46_1 rfl nqq | exact Y.fieldAddr rfl fo46_1 rfl nqq) ?_
  refine TA.take 3 rfl rfl rfl rfl (by kernel_rfl) (by kernel_rfl) (by kernel_rfl) rfl (by kernel_rfl) (by kernel_rfl) (fun _ _ _ h => h) (Y.load rfl sc26 rfl celD) ?_
  refine TA.as (pt n.b 0) (by rfl) ?_
  refine TA.take 4 rfl rfl rfl rfl (by kernel_rfl) (by kernel_rfl) (by kernel_rfl) rfl (by kernel_rfl) (by kernel_rfl) (fun _ _ _ h => h) (Y.move rfl rfl) ?_
  refine TA.takeP 5 rfl rfl rfl rfl (by kernel_rfl) (by kernel_rfl) (by kernel_rfl) rfl (fun _ _ _ h => h) (Y.move rfl rfl) ?_
  refine TA.takeP 6 rfl rfl rfl rfl (by kernel_rfl) (by kernel_rfl) (by kernel_rfl) rfl (fun _ _ _ h => h) (Y.nilCheck rfl rfl) ?_
  refine TA.takeP 7 rfl rfl rfl rfl (by kernel_rfl) (by kernel_rfl) (by kernel_rfl) rfl (fun _ _ _ h => h) (by first | exact Y.fieldAddrJ rfl fo46_8 rfl nqq | exact Y.fieldAddr rfl fo46_8 rfl nqq) ?_
  refine TA.take 8 rfl rfl rfl rfl (by kernel_rfl) (by kernel_rfl) (by kernel_rfl) rfl (by kernel_rfl) (by kernel_rfl) (fun _ _ _ h => h) (Y.load rfl sc2 rfl celN) ?_
  refine TA.as (vI n.now) (by rfl) ?_
  refine TA.one 9 (by kernel_rfl) rfl rfl rfl rfl (X.call rfl Try.func12 (by kernel_rfl) rfl rfl (Fn.preE (by repeat first | (with_reducible apply Ent.refl) | (apply Ent.cons; case h => first | (with_reducible (repeat first | apply Pull.here | apply Pull.there); done) | (repeat first | apply Pull.here | apply Pull.there))) (Handle_fn n.b B hB.toInvP x.a x.l.length x.cap x.l rfl hxl n.now _))) ?_
  rintro _ _ ⟨o, g2, rfl, ho, hg2, rfl⟩
  have hol : o.l.length = (B.handle n.now x.l).2.1.length := by have := congrArg List.length ho; simpa using this
  have hgl2 : g2.l.length = (B.handle n.now x.l).2.2.1.length := by have := congrArg List.length hg2; simpa using this
  refine ⟨(Or.inl (by kernel_rfl)), ?_⟩
  refine TA.takeP 10 rfl rfl rfl rfl (by kernel_rfl) (by kernel_rfl) (by kernel_rfl) rfl (fun _ _ _ h => h) (Y.move rfl rfl) ?_
  refine TA.takeP 11 rfl rfl rfl rfl (by kernel_rfl) (by kernel_rfl) (by kernel_rfl) rfl (fun _ _ _ h => h) (Y.extract rfl rfl rfl) ?_
  refine TA.as (.slice o.a o.l.length o.cap) (by rfl) ?_
  refine TA.takeP 12 rfl rfl rfl rfl (by kernel_rfl) (by kernel_rfl) (by kernel_rfl) rfl (fun _ _ _ h => h) (Y.extract rfl rfl rfl) ?_
  refine TA.as (.slice g2.a g2.l.length g2.cap) (by rfl) ?_
  refine TA.takeP 13 rfl rfl rfl rfl (by kernel_rfl) (by kernel_rfl) (by kernel_rfl) rfl (fun _ _ _ h => h) (Y.extract rfl rfl rfl) ?_
  refine TA.takeP 14 rfl rfl rfl rfl (by kernel_rfl) (by kernel_rfl) (by kernel_rfl) rfl (fun _ _ _ h => h) (Y.assign rfl rfl) ?_
  refine TA.takeP 15 rfl rfl rfl rfl (by kernel_rfl) (by kernel_rfl) (by kernel_rfl) rfl (fun _ _ _ h => h) (Y.assign rfl rfl) ?_
  refine TA.takeP 16 rfl rfl rfl rfl (by kernel_rfl) (by kernel_rfl) (by kernel_rfl) rfl (fun _ _ _ h => h) (Y.assign rfl rfl) ?_
  refine TA.done (by kernel_rfl) ?_
  refine TQ.next ?_
  refine TC.seq ?_
  refine TC.region ?_
  refine TL.val rfl rfl rfl (Y.move rfl rfl) ?_
  refine TL.val rfl rfl rfl (Y.move rfl rfl) ?_
  refine TL.val rfl rfl rfl (Y.nilCheck rfl rfl) ?_
  refine TL.val rfl rfl rfl (by first | exact Y.fieldAddrJ rfl fo46_3 rfl nqq | exact Y.fieldAddr rfl fo46_3 rfl nqq) ?_
  refine TL.val rfl rfl rfl (Y.load rfl sc24 rfl celD) ?_
  refine TL.as (.slice n.ba.a n.ba.l.length n.ba.cap) (by rfl) ?_
  refine TL.val rfl rfl rfl (Y.move rfl rfl) ?_
  refine TL.eff rfl rfl rfl (X.appendS rfl el24 rfl pul rfl (Src.reads (Reads.dat (s := o)) Try.underlying24 inn) (by simp only [maxLen]; omega) (by omega)) ?_
  rintro _ _ ⟨a188, c188, rfl, rfl⟩
  rw [show Dat.cs n.ba.l ++ Dat.cs o.l = Dat.cs (n.ba.l ++ o.l) from (Dat.cs_app _ _).symm, ← List.length_append]
  refine TL.val rfl rfl rfl (Y.nilCheck rfl rfl) ?_
  refine TL.val rfl rfl rfl (by first | exact Y.fieldAddrJ rfl fo46_3 rfl nqq | exact Y.fieldAddr rfl fo46_3 rfl nqq) ?_
  refine TL.eff0 rfl rfl (X.store (cs' := netC { n with ab := ⟨a162, c162, n.ab.l.eraseIdx k⟩, ba := ⟨a188, c188, n.ba.l ++ o.l⟩ }) rfl (by kernel_rfl) rfl rfl rfl pul (by show 3 < 9; decide) rfl) ?_
  rintro _ _ rfl
  refine TL.nil ?_
  refine TQ.next ?_
  refine TC.to (Ent.addAll (o := o) (ys := n.ba.l) pul pul) ?_
  refine TC.draws 10 [nB nb { n with ab := ⟨a162, c162, n.ab.l.eraseIdx k⟩, ba := ⟨a188, c188, n.ba.l ++ o.l⟩ }] (by kernel_rfl) (by kernel_rfl) (by repeat first | exact holds_nil | refine holds_cons inn ?_) ?_
  refine TA.take 0 rfl rfl rfl rfl (by kernel_rfl) (by kernel_rfl) (by kernel_rfl) rfl (by kernel_rfl) (by kernel_rfl) (fun _ _ _ h => h) (Y.move rfl rfl) ?_
  refine TA.take 1 rfl rfl rfl rfl (by kernel_rfl) (by kernel_rfl) (by kernel_rfl) rfl (by kernel_rfl) (by kernel_rfl) (fun _ _ _ h => h) (Y.move rfl rfl) ?_
  refine TA.take 2 rfl rfl rfl rfl (by kernel_rfl) (by kernel_rfl) (by kernel_rfl) rfl (by kernel_rfl) (by kernel_rfl) (fun _ _ _ h => h) (Y.nilCheck rfl rfl) ?_
  refine TA.take 3 rfl rfl rfl rfl (by kernel_rfl) (by kernel_rfl) (by kernel_rfl) rfl (by kernel_rfl) (by kernel_rfl) (fun _ _ _ h => h) (by first | exact Y.fieldAddrJ rfl fo46_6 rfl nqq | exact Y.fieldAddr rfl fo46_6 rfl nqq) ?_
  refine TA.take 4 rfl rfl rfl rfl (by kernel_rfl) (by kernel_rfl) (by kernel_rfl) rfl (by kernel_rfl) (by kernel_rfl) (fun _ _ _ h => h) (Y.load rfl sc44 rfl celD) ?_
  refine TA.as (.slice n.gB.a n.gB.l.length n.gB.cap) (by rfl) ?_
  refine TA.take 5 rfl rfl rfl rfl (by kernel_rfl) (by kernel_rfl) (by kernel_rfl) rfl (by kernel_rfl) (by kernel_rfl) (fun _ _ _ h => h) (Y.move rfl rfl) ?_
  refine TA.one 6 (by kernel_rfl) rfl rfl rfl rfl (X.call rfl Try.func40 (by kernel_rfl) rfl rfl (Fn.preE (by repeat first | (with_reducible apply Ent.refl) | (apply Ent.cons; case h => first | (with_reducible (repeat first | apply Pull.here | apply Pull.there); done) | (repeat first | apply Pull.here | apply Pull.there))) (ours_fn g2.a g2.cap g2.l (by omega) _))) ?_
  rintro _ _ ⟨oa, oc, rfl, rfl⟩
  refine ⟨(Or.inr (by repeat first | exact holds_nil | refine holds_cons inn ?_)), ?_⟩
  refine TA.one 7 (by kernel_rfl) rfl rfl rfl rfl (X.appendS rfl el44 rfl pul rfl (Src.reads (Reads.datM (a := oa) (cap := oc) (l := g2.l)) Try.underlying44 inn) (by simp only [maxLen]; omega) (by omega)) ?_
  rintro _ _ ⟨a198, c198, rfl, rfl⟩
  rw [show Dat.cs n.gB.l ++ Dat.cs g2.l = Dat.cs (n.gB.l ++ g2.l) from (Dat.cs_app _ _).symm, ← List.length_append]
  refine ⟨(Or.inr (by repeat first | exact holds_nil | refine holds_cons inn ?_)), ?_⟩
  refine TA.takeP 8 rfl rfl rfl rfl (by kernel_rfl) (by kernel_rfl) (by kernel_rfl) rfl (fun _ _ _ h => h) (Y.nilCheck rfl rfl) ?_
  refine TA.take 9 rfl rfl rfl rfl (by kernel_rfl) (by kernel_rfl) (by kernel_rfl) rfl (by kernel_rfl) (by kernel_rfl) (fun _ _ _ h => h) (by first | exact Y.fieldAddrJ rfl fo46_6 rfl nqq | exact Y.fieldAddr rfl fo46_6 rfl nqq) ?_
  refine TA.one0 10 (by kernel_rfl) rfl rfl rfl (X.store (cs' := netC { n with ab := ⟨a162, c162, n.ab.l.eraseIdx k⟩, ba := ⟨a188, c188, n.ba.l ++ o.l⟩, gB := ⟨a198, c198, n.gB.l ++ g2.l⟩ }) rfl (by kernel_rfl) rfl rfl rfl pul (by show 6 < 9; decide) rfl) ?_
  rintro _ _ rfl
  refine ⟨(Or.inl (by kernel_rfl)), ?_⟩
  refine TA.done (by kernel_rfl) ?_
  refine TQ.block_normal ?_
  refine TQ.next ?_
  refine TC.seq ?_
  refine TC.seq ?_
  refine TC.to (Ent.addAll (o := ⟨oa, oc, g2.l⟩) (ys := n.gB.l) pul pul) ?_
  refine TC.region ?_
  refine TL.val rfl rfl rfl (Y.move rfl rfl) ?_
  refine TL.val rfl rfl rfl (Y.nilCheck rfl rfl) ?_
  refine TL.val rfl rfl rfl (by first | exact Y.fieldAddrJ rfl fo46_2 rfl nqq | exact Y.fieldAddr rfl fo46_2 rfl nqq) ?_
  refine TL.val rfl rfl rfl (Y.load rfl sc24 rfl celD) ?_
  refine TL.as (.slice a162 (n.ab.l.eraseIdx k).length c162) (by rfl) ?_
  refine TL.val rfl rfl rfl (Y.len rfl Try.underlying24 rfl) ?_
  refine TL.val rfl rfl rfl (Y.bin rfl rfl rfl (br_gtN (n := 200))) ?_
  refine TL.is false (by (simp; have := List.length_eraseIdx_le n.ab.l k; omega)) ?_
  refine TL.nil ?_
  refine TQ.next ?_
  refine TC.cond_f rfl ?_
  refine TC.skip ?_
  refine TQ.next ?_
  refine TC.seq ?_
  refine TC.region ?_
  refine TL.val rfl rfl rfl (Y.move rfl rfl) ?_
  refine TL.val rfl rfl rfl (Y.nilCheck rfl rfl) ?_
  refine TL.val rfl rfl rfl (by first | exact Y.fieldAddrJ rfl fo46_3 rfl nqq | exact Y.fieldAddr rfl fo46_3 rfl nqq) ?_
  refine TL.val rfl rfl rfl (Y.load rfl sc24 rfl celD) ?_
  refine TL.as (.slice a188 (n.ba.l ++ o.l).length c188) (by rfl) ?_
  refine TL.val rfl rfl rfl (Y.len rfl Try.underlying24 rfl) ?_
  refine TL.val rfl rfl rfl (Y.bin rfl rfl rfl (br_gtN (n := 200))) ?_
  refine TL.is false (by (simp; omega)) ?_
  refine TL.nil ?_
  refine TQ.next ?_
  refine TC.cond_f rfl ?_
  refine TC.skip ?_
  refine TQ.endE (res0 rfl) (⟨{ n with ab := ⟨a162, c162, n.ab.l.eraseIdx k⟩, ba := ⟨a188, c188, n.ba.l ++ o.l⟩, gB := ⟨a198, c198, n.gB.l ++ g2.l⟩ }, rfl, rfl, rfl, rfl, rfl, rfl, rfl, by rw [List.map_append, ho], by rw [List.map_append, hg2], rfl⟩) ?_
  exact ett
end ac
end Go.Proofs.Ytomplpdeeomehaa

/- assoc: the net's step of the fourth kind, walked. -/
namespace Go.Proofs.Ytomplpdeeomehaa
set_option linter.unusedVariables false
set_option linter.unusedSimpArgs false
open Go.RowKit
namespace ac
open wr (be16 be32)
open rd (num)
namespace FxAsNet4
set_option maxRecDepth 100000
theorem el24 : Elt Try.prog 24 23 1 24 (.slice none 0 0) := ⟨Try.underlying24, by kernel_rfl, rfl, by decide, by simp [Value.cells, Value.oneCell']⟩
theorem el44 : Elt Try.prog 44 77 3 32 (.agg #[.int .u16 0, .int .u32 0, .slice none 0 0]) := ⟨Try.underlying44, by kernel_rfl, rfl, by decide, by simp [Value.cells, Value.oneCell']⟩
theorem fo42_0 : Program.fieldOff Try.prog 42 0 = some 0 := by kernel_rfl
theorem fo42_1 : Program.fieldOff Try.prog 42 1 = some 1 := by kernel_rfl
theorem fo42_2 : Program.fieldOff Try.prog 42 2 = some 2 := by kernel_rfl
theorem fo46_0 : Program.fieldOff Try.prog 46 0 = some 0 := by kernel_rfl
theorem fo46_2 : Program.fieldOff Try.prog 46 2 = some 2 := by kernel_rfl
theorem fo46_3 : Program.fieldOff Try.prog 46 3 = some 3 := by kernel_rfl
theorem fo46_7 : Program.fieldOff Try.prog 46 7 = some 7 := by kernel_rfl
theorem fo46_8 : Program.fieldOff Try.prog 46 8 = some 8 := by kernel_rfl
theorem sc2 : Program.isSc Try.prog 2 = true := by kernel_rfl
theorem sc23 : Program.isSc Try.prog 23 = true := by kernel_rfl
theorem sc24 : Program.isSc Try.prog 24 = true := by kernel_rfl
theorem sc26 : Program.isSc Try.prog 26 = true := by kernel_rfl
theorem sc3 : Program.isSc Try.prog 3 = true := by kernel_rfl
theorem sc4 : Program.isSc Try.prog 4 = true := by kernel_rfl
theorem sc44 : Program.isSc Try.prog 44 = true := by kernel_rfl
theorem sl24 : Program.slI Try.prog 24 = some 1 := by kernel_rfl
theorem sz23 : (Try.prog.info? 23).map (·.size) = some 1 := by kernel_rfl
end FxAsNet4
open FxAsNet4
set_option maxHeartbeats 4000000 in
theorem step4_fn (nb : Nat) (n : NP) (B : PS) (hB : InvA B) (N : Int) (d : Value) (nw : UInt16) (k : Nat) (x : Bs) (hk : k = idxN N n.ba.l.length) (hx : n.ba.l[k]? = some x) (hxl : x.l.length ≤ 140737488351232) (h200 : n.ba.l.length ≤ 200)
    (hba : n.ab.l.length + (B.handle n.now x.l).2.1.length ≤ 200) (hgl : n.gA.l.length + (B.handle n.now x.l).2.2.1.length ≤ 1000000) (L : List SA) :
    Fn Try.prog 16 [pt nb 0, .agg (netArg 4 N false d nw)] (nB nb n :: SD n.a B :: oP n.ba :: rP n.ba :: oP n.ab :: rP n.ab :: oM n.gA :: rMs n.gA :: L)
      (fun _ L' => ∃ n' : NP, n'.a = n.a ∧ n'.b = n.b ∧ n'.sent = n.sent ∧ n'.back = n.back ∧ n'.gB = n.gB ∧ n'.now = n.now ∧ n'.ba.l = n.ba.l.eraseIdx k ∧ n'.ab.l.map (·.l) = n.ab.l.map (·.l) ++ (B.handle n.now x.l).2.1 ∧ n'.gA.l.map pm = n.gA.l.map pm ++ (B.handle n.now x.l).2.2.1 ∧
        L' = nB nb n' :: SD n'.a (B.handle n.now x.l).1 :: oP n'.ba :: rP n'.ba :: oP n'.ab :: rP n'.ab :: oM n'.gA :: rMs n'.gA :: L) := by
  have hkl := (List.getElem?_eq_some_iff.1 hx).1
  refine Fn.of (N := 367) Try.func16 rfl rfl ?_
  intro Xh
  refine TC.seq ?_
  refine TC.region ?_
  refine TL.eff rfl rfl rfl (X.box (cs := netArg 4 N false d nw) rfl rfl rfl) ?_
  rintro _ _ ⟨b3, rfl, rfl⟩
  refine TL.nil ?_
  refine TQ.next ?_
  refine TC.seq ?_
  refine TC.seq ?_
  refine TC.region ?_
  refine TL.val rfl rfl rfl (by first | exact Y.fieldAddrJ rfl fo42_0 rfl nqq | exact Y.fieldAddr rfl fo42_0 rfl nqq) ?_
  refine TL.val rfl rfl rfl (Y.load rfl sc3 rfl celN) ?_
  refine TL.as (vI 4) (by rfl) ?_
  refine TL.nil ?_
  refine TQ.next ?_
  refine TC.block ?_
  refine TC.seq ?_
  refine TC.seq ?_
  refine TC.region ?_
  refine TL.val rfl rfl rfl (Y.bin rfl rfl rfl (br_eqN (n := 1))) ?_
  refine TL.is false (by first | rfl | (simp only [decide_eq_true_eq, decide_eq_false_iff_not, Bool.not_eq_true', Bool.not_eq_false', Bool.not_eq_eq_eq_not, Bool.not_true, Bool.not_false, Nat.not_lt, Nat.not_le]; omega) | (simp [*]; done) | (simp; omega)) ?_
  refine TL.val rfl rfl rfl (Y.assign rfl rfl) ?_
  refine TL.nil ?_
  refine TQ.next ?_
  refine TC.cond_f rfl ?_
  refine TC.region ?_
  refine TL.val rfl rfl rfl (Y.bin rfl rfl rfl (br_eqN (n := 2))) ?_
  refine TL.is false (by first | rfl | (simp only [decide_eq_true_eq, decide_eq_false_iff_not, Bool.not_eq_true', Bool.not_eq_false', Bool.not_eq_eq_eq_not, Bool.not_true, Bool.not_false, Nat.not_lt, Nat.not_le]; omega) | (simp [*]; done) | (simp; omega)) ?_
  refine TL.val rfl rfl rfl (Y.assign rfl rfl) ?_
  refine TL.nil ?_
  refine TQ.next ?_
  refine TC.cond_f rfl ?_
  refine TC.seq ?_
  refine TC.seq ?_
  refine TC.region ?_
  refine TL.val rfl rfl rfl (Y.bin rfl rfl rfl (br_eqN (n := 3))) ?_
  refine TL.is false (by first | rfl | (simp only [decide_eq_true_eq, decide_eq_false_iff_not, Bool.not_eq_true', Bool.not_eq_false', Bool.not_eq_eq_eq_not, Bool.not_true, Bool.not_false, Nat.not_lt, Nat.not_le]; omega) | (simp [*]; done) | (simp; omega)) ?_
  refine TL.val rfl rfl rfl (Y.assign rfl rfl) ?_
  refine TL.nil ?_
  refine TQ.next ?_
  refine TC.cond_f rfl ?_
  refine TC.region ?_
  refine TL.val rfl rfl rfl (Y.bin rfl rfl rfl (br_eqN (n := 5))) ?_
  refine TL.is false (by first | rfl | (simp only [decide_eq_true_eq, decide_eq_false_iff_not, Bool.not_eq_true', Bool.not_eq_false', Bool.not_eq_eq_eq_not, Bool.not_true, Bool.not_false, Nat.not_lt, Nat.not_le]; omega) | (simp [*]; done) | (simp; omega)) ?_
  refine TL.val rfl rfl rfl (Y.assign rfl rfl) ?_
  refine TL.nil ?_
  refine TQ.next ?_
  refine TC.cond_f rfl ?_
  refine TC.seq ?_
  refine TC.seq ?_
  refine TC.region ?_
  refine TL.val rfl rfl rfl (Y.bin rfl rfl rfl (br_eqN (n := 4))) ?_
  refine TL.is true (by first | rfl | (simp only [decide_eq_true_eq, decide_eq_false_iff_not, Bool.not_eq_true', Bool.not_eq_false', Bool.not_eq_eq_eq_not, Bool.not_true, Bool.not_false, Nat.not_lt, Nat.not_le]; omega) | (simp [*]; done) | (simp; omega)) ?_
  refine TL.val rfl rfl rfl (Y.assign rfl rfl) ?_
  refine TL.nil ?_
  refine TQ.next ?_
  refine TC.cond_t rfl ?_
  refine TC.skip ?_
  refine TQ.next ?_
  refine TC.cond_t rfl ?_
  refine TC.seq ?_
  refine TC.seq ?_
  refine TC.region ?_
  refine TL.val rfl rfl rfl (Y.move rfl rfl) ?_
  refine TL.val rfl rfl rfl (Y.nilCheck rfl rfl) ?_
  refine TL.val rfl rfl rfl (by first | exact Y.fieldAddrJ rfl fo46_3 rfl nqq | exact Y.fieldAddr rfl fo46_3 rfl nqq) ?_
  refine TL.val rfl rfl rfl (Y.load rfl sc24 rfl celD) ?_
  refine TL.as (.slice n.ba.a n.ba.l.length n.ba.cap) (by rfl) ?_
  refine TL.val rfl rfl rfl (Y.len rfl Try.underlying24 rfl) ?_
  refine TL.val rfl rfl rfl (Y.bin rfl rfl rfl (br_eqN (n := 0))) ?_
  refine TL.is false (by (simp; intro h; rw [h] at hkl; simp at hkl)) ?_
  refine TL.nil ?_
  refine TQ.next ?_
  refine TC.cond_f rfl ?_
  refine TC.skip ?_
  refine TQ.next ?_
  refine TC.seq ?_
  refine TC.draws 12 _ (by kernel_rfl) (by kernel_rfl) (fun _ h => h) ?_
  refine TA.take 0 rfl rfl rfl rfl (by kernel_rfl) (by kernel_rfl) (by kernel_rfl) rfl (by kernel_rfl) (by kernel_rfl) (fun _ _ _ h => h) (by first | exact Y.fieldAddrJ rfl fo42_1 rfl nqq | exact Y.fieldAddr rfl fo42_1 rfl nqq) ?_
  refine TA.take 1 rfl rfl rfl rfl (by kernel_rfl) (by kernel_rfl) (by kernel_rfl) rfl (by kernel_rfl) (by kernel_rfl) (fun _ _ _ h => h) (Y.load rfl sc3 rfl celN) ?_
  refine TA.as (vI N) (by rfl) ?_
  refine TA.take 2 rfl rfl rfl rfl (by kernel_rfl) (by kernel_rfl) (by kernel_rfl) rfl (by kernel_rfl) (by kernel_rfl) (fun _ _ _ h => h) (Y.conv (m := (((N % 18446744073709551616).toNat : Nat) : Int)) rfl Try.underlying3 Try.underlying56 rfl (by rw [wrap_u64]; omega)) ?_
  refine TA.take 3 rfl rfl rfl rfl (by kernel_rfl) (by kernel_rfl) (by kernel_rfl) rfl (by kernel_rfl) (by kernel_rfl) (fun _ _ _ h => h) (Y.move rfl rfl) ?_
  refine TA.take 4 rfl rfl rfl rfl (by kernel_rfl) (by kernel_rfl) (by kernel_rfl) rfl (by kernel_rfl) (by kernel_rfl) (fun _ _ _ h => h) (Y.nilCheck rfl rfl) ?_
  refine TA.take 5 rfl rfl rfl rfl (by kernel_rfl) (by kernel_rfl) (by kernel_rfl) rfl (by kernel_rfl) (by kernel_rfl) (fun _ _ _ h => h) (by first | exact Y.fieldAddrJ rfl fo46_3 rfl nqq | exact Y.fieldAddr rfl fo46_3 rfl nqq) ?_
  refine TA.take 6 rfl rfl rfl rfl (by kernel_rfl) (by kernel_rfl) (by kernel_rfl) rfl (by kernel_rfl) (by kernel_rfl) (fun _ _ _ h => h) (Y.load rfl sc24 rfl celD) ?_
  refine TA.as (.slice n.ba.a n.ba.l.length n.ba.cap) (by rfl) ?_
  refine TA.take 7 rfl rfl rfl rfl (by kernel_rfl) (by kernel_rfl) (by kernel_rfl) rfl (by kernel_rfl) (by kernel_rfl) (fun _ _ _ h => h) (Y.len rfl Try.underlying24 rfl) ?_
  refine TA.take 8 rfl rfl rfl rfl (by kernel_rfl) (by kernel_rfl) (by kernel_rfl) rfl (by kernel_rfl) (by kernel_rfl) (fun _ _ _ h => h) (Y.conv rfl Try.underlying3 Try.underlying56 rfl (cv_N_64n (by omega))) ?_
  refine TA.take 9 rfl rfl rfl rfl (by kernel_rfl) (by kernel_rfl) (by kernel_rfl) rfl (by kernel_rfl) (by kernel_rfl) (fun _ _ _ h => h) (Y.bin rfl rfl rfl (br_remU (by omega))) ?_
  refine TA.as (.int .u64 ((k : Nat) : Int)) (by (rw [hk]; rfl)) ?_
  refine TA.take 10 rfl rfl rfl rfl (by kernel_rfl) (by kernel_rfl) (by kernel_rfl) rfl (by kernel_rfl) (by kernel_rfl) (fun _ _ _ h => h) (Y.conv rfl Try.underlying56 Try.underlying3 rfl (cv_64n_N (by omega))) ?_
  refine TA.take 11 rfl rfl rfl rfl (by kernel_rfl) (by kernel_rfl) (by kernel_rfl) rfl (by kernel_rfl) (by kernel_rfl) (fun _ _ _ h => h) (Y.assign rfl rfl) ?_
  refine TA.done (by kernel_rfl) ?_
  refine TQ.next ?_
  refine TC.seq ?_
  refine TC.know (reads_cap Reads.owns (a := n.ba.a) (n := n.ba.l.length) (cap := n.ba.cap) (cs := Dat.cs n.ba.l) inn) ?_
  rintro ⟨hcap, -, -, -⟩
  refine TC.know (owns_some (a := n.ba.a) (n := n.ba.l.length) inn (by omega)) ?_
  rintro ⟨g, off, hqa⟩
  refine TC.region ?_
  refine TL.val rfl rfl rfl (Y.move rfl rfl) ?_
  refine TL.val rfl rfl rfl (Y.nilCheck rfl rfl) ?_
  refine TL.val rfl rfl rfl (by first | exact Y.fieldAddrJ rfl fo46_3 rfl nqq | exact Y.fieldAddr rfl fo46_3 rfl nqq) ?_
  refine TL.val rfl rfl rfl (Y.load rfl sc24 rfl celD) ?_
  refine TL.as (.slice (some ⟨g, off, none⟩) n.ba.l.length n.ba.cap) (by (rw [← hqa]; rfl)) ?_
  refine TL.val rfl rfl rfl (Y.move rfl rfl) ?_
  refine TL.val rfl rfl rfl (by first | exact Y.indexSlB rfl sl24 rfl rfl (by omega) nqq | exact Y.indexSl rfl sl24 rfl rfl (by omega) nqq) ?_
  refine TL.val rfl rfl rfl (Y.load rfl sc23 rfl (Cel.atS (A := SA.owns 23 1 (.slice (some ⟨g, off, none⟩) n.ba.l.length n.ba.cap) n.ba.l.length (Dat.cs n.ba.l)) Reads.owns (by rw [← hqa]; exact inn) hx rfl)) ?_
  refine TL.as (.slice x.a x.l.length x.cap) (by rfl) ?_
  refine TL.val rfl rfl rfl (Y.assign rfl rfl) ?_
  refine TL.nil ?_
  refine TQ.next ?_
  refine TC.seq ?_
  refine TC.seq ?_
  refine TC.region ?_
  refine TL.val rfl rfl rfl (by first | exact Y.fieldAddrJ rfl fo42_2 rfl nqq | exact Y.fieldAddr rfl fo42_2 rfl nqq) ?_
  refine TL.val rfl rfl rfl (Y.load rfl sc4 rfl celD) ?_
  refine TL.as (.bool false) (by rfl) ?_
  refine TL.val rfl rfl rfl (Y.not rfl rfl) ?_
  refine TL.is true (by first | rfl | (simp only [decide_eq_true_eq, decide_eq_false_iff_not, Bool.not_eq_true', Bool.not_eq_false', Bool.not_eq_eq_eq_not, Bool.not_true, Bool.not_false, Nat.not_lt, Nat.not_le]; omega) | (simp [*]; done) | (simp; omega)) ?_
  refine TL.val rfl rfl rfl (Y.move rfl rfl) ?_
  refine TL.not rfl rfl rfl ?_
  refine TL.not rfl rfl rfl ?_
  refine TL.not rfl rfl rfl ?_
  refine TL.val rfl rfl rfl (Y.pick_t rfl rfl rfl) ?_
  refine TL.nil ?_
  refine TQ.next ?_
  refine TC.cond_t rfl ?_
  refine TC.draws 19 [nB nb n, oP n.ba] (by kernel_rfl) (by kernel_rfl) (by repeat first | exact holds_nil | refine holds_cons inn ?_) ?_
  refine TA.take 0 rfl rfl rfl rfl (by kernel_rfl) (by kernel_rfl) (by kernel_rfl) rfl (by kernel_rfl) (by kernel_rfl) (fun _ _ _ h => h) (Y.move rfl rfl) ?_
  refine TA.take 2 rfl rfl rfl rfl (by kernel_rfl) (by kernel_rfl) (by kernel_rfl) rfl (by kernel_rfl) (by kernel_rfl) (fun _ _ _ h => h) (Y.move rfl rfl) ?_
  refine TA.take 3 rfl rfl rfl rfl (by kernel_rfl) (by kernel_rfl) (by kernel_rfl) rfl (by kernel_rfl) (by kernel_rfl) (fun _ _ _ h => h) (Y.nilCheck rfl rfl) ?_
  refine TA.take 4 rfl rfl rfl rfl (by kernel_rfl) (by kernel_rfl) (by kernel_rfl) rfl (by kernel_rfl) (by kernel_rfl) (fun _ _ _ h => h) (by first | exact Y.fieldAddrJ rfl fo46_3 rfl nqq | exact Y.fieldAddr rfl fo46_3 rfl nqq) ?_
  refine TA.take 5 rfl rfl rfl rfl (by kernel_rfl) (by kernel_rfl) (by kernel_rfl) rfl (by kernel_rfl) (by kernel_rfl) (fun _ _ _ h => h) (Y.load rfl sc24 rfl celD) ?_
  refine TA.as (.slice n.ba.a n.ba.l.length n.ba.cap) (by rfl) ?_
  refine TA.take 6 rfl rfl rfl rfl (by kernel_rfl) (by kernel_rfl) (by kernel_rfl) rfl (by kernel_rfl) (by kernel_rfl) (fun _ _ _ h => h) (Y.move rfl rfl) ?_
  refine TA.take 7 rfl rfl rfl rfl (by kernel_rfl) (by kernel_rfl) (by kernel_rfl) rfl (by kernel_rfl) (by kernel_rfl) (fun _ _ _ h => h) (Y.sliceHi2 (sz := 1) rfl Try.underlying24 (by kernel_rfl) rfl rfl (by omega)) ?_
  refine TA.take 9 rfl rfl rfl rfl (by kernel_rfl) (by kernel_rfl) (by kernel_rfl) rfl (by kernel_rfl) (by kernel_rfl) (fun _ _ _ h => h) (Y.move rfl rfl) ?_
  refine TA.take 10 rfl rfl rfl rfl (by kernel_rfl) (by kernel_rfl) (by kernel_rfl) rfl (by kernel_rfl) (by kernel_rfl) (fun _ _ _ h => h) (Y.nilCheck rfl rfl) ?_
  refine TA.take 11 rfl rfl rfl rfl (by kernel_rfl) (by kernel_rfl) (by kernel_rfl) rfl (by kernel_rfl) (by kernel_rfl) (fun _ _ _ h => h) (by first | exact Y.fieldAddrJ rfl fo46_3 rfl nqq | exact Y.fieldAddr rfl fo46_3 rfl nqq) ?_
  refine TA.take 12 rfl rfl rfl rfl (by kernel_rfl) (by kernel_rfl) (by kernel_rfl) rfl (by kernel_rfl) (by kernel_rfl) (fun _ _ _ h => h) (Y.load rfl sc24 rfl celD) ?_
  refine TA.as (.slice n.ba.a n.ba.l.length n.ba.cap) (by rfl) ?_
  refine TA.take 13 rfl rfl rfl rfl (by kernel_rfl) (by kernel_rfl) (by kernel_rfl) rfl (by kernel_rfl) (by kernel_rfl) (fun _ _ _ h => h) (Y.move rfl rfl) ?_
  refine TA.take 14 rfl rfl rfl rfl (by kernel_rfl) (by kernel_rfl) (by kernel_rfl) rfl (by kernel_rfl) (by kernel_rfl) (fun _ _ _ h => h) (Y.bin rfl rfl rfl (br_addN (n := 1) (by omega))) ?_
  refine TA.take 15 rfl rfl rfl rfl (by kernel_rfl) (by kernel_rfl) (by kernel_rfl) rfl (by kernel_rfl) (by kernel_rfl) (fun _ _ _ h => h) (Y.sliceLo rfl Try.underlying24 sz23 rfl rfl (by omega)) ?_
  refine TA.one 1 (by kernel_rfl) rfl rfl rfl rfl (X.lit rfl el24 rfl rfl rfl (by decide) rfl) ?_
  rintro _ _ ⟨g237, rfl, rfl⟩
  refine ⟨(Or.inr (by repeat first | exact holds_nil | refine holds_cons inn ?_)), ?_⟩
  refine TA.one 8 (by kernel_rfl) rfl rfl rfl rfl (X.appendS rfl el24 rfl pul rfl (Src.reads (Reads.head (A := oP n.ba) (k := k) (n := n.ba.l.length) (cs := Dat.cs n.ba.l) Reads.owns (by omega)) Try.underlying24 inn) (by simp only [maxLen]; omega) (by omega)) ?_
  rintro _ _ ⟨a244, c244, rfl, rfl⟩
  rw [show ([] : List Value) ++ (Dat.cs n.ba.l).take (k * 1) = Dat.cs (n.ba.l.take k) by rw [Dat.cs_take]; rfl, Nat.zero_add]
  refine ⟨(Or.inr (by repeat first | exact holds_nil | refine holds_cons inn ?_)), ?_⟩
  refine TA.one 16 (by kernel_rfl) rfl rfl rfl rfl (X.appendS rfl el24 rfl pul rfl (Src.cut Reads.owns Try.underlying24 inn (by omega) (by omega)) (by simp only [maxLen]; omega) (by omega)) ?_
  rintro _ _ ⟨a252, c252, rfl, rfl⟩
  rw [cs_erase _ _ hkl, show k + (n.ba.l.length - (k + 1)) = (n.ba.l.eraseIdx k).length by rw [List.length_eraseIdx, if_pos hkl]; omega]
  refine ⟨(Or.inr (by repeat first | exact holds_nil | refine holds_cons inn ?_)), ?_⟩
  refine TA.takeP 17 rfl rfl rfl rfl (by kernel_rfl) (by kernel_rfl) (by kernel_rfl) rfl (fun _ _ _ h => h) (Y.nilCheck rfl rfl) ?_
  refine TA.take 18 rfl rfl rfl rfl (by kernel_rfl) (by kernel_rfl) (by kernel_rfl) rfl (by kernel_rfl) (by kernel_rfl) (fun _ _ _ h => h) (by first | exact Y.fieldAddrJ rfl fo46_3 rfl nqq | exact Y.fieldAddr rfl fo46_3 rfl nqq) ?_
  refine TA.one0 19 (by kernel_rfl) rfl rfl rfl (X.store (cs' := netC { n with ba := ⟨a252, c252, n.ba.l.eraseIdx k⟩ }) rfl (by kernel_rfl) rfl rfl rfl pul (by show 3 < 9; decide) rfl) ?_
  rintro _ _ rfl
  refine ⟨(Or.inl (by kernel_rfl)), ?_⟩
  refine TA.done (by kernel_rfl) ?_
  refine TQ.next ?_
  refine TC.seq ?_
  refine TC.to (Ent.elP (List.mem_of_getElem? hx) pul) ?_
  refine TC.to (Ent.rdssDrop (gs := n.ba.l.flatMap Dat.g) (hs := (n.ba.l.eraseIdx k).flatMap Dat.g) pul (fun q hq => by obtain ⟨z, hz, hq⟩ := List.mem_flatMap.1 hq; exact List.mem_flatMap.2 ⟨z, List.mem_of_mem_eraseIdx hz, hq⟩)) ?_
  refine TC.region ?_
  refine TL.val rfl rfl rfl (by first | exact Y.fieldAddrJ rfl fo42_0 rfl nqq | exact Y.fieldAddr rfl fo42_0 rfl nqq) ?_
  refine TL.val rfl rfl rfl (Y.load rfl sc3 rfl celN) ?_
  refine TL.as (vI 4) (by rfl) ?_
  refine TL.val rfl rfl rfl (Y.bin rfl rfl rfl (br_eqN (n := 4))) ?_
  refine TL.is true (by first | rfl | (simp only [decide_eq_true_eq, decide_eq_false_iff_not, Bool.not_eq_true', Bool.not_eq_false', Bool.not_eq_eq_eq_not, Bool.not_true, Bool.not_false, Nat.not_lt, Nat.not_le]; omega) | (simp [*]; done) | (simp; omega)) ?_
  refine TL.nil ?_
  refine TQ.next ?_
  refine TC.cond_t rfl ?_
  refine TC.seq ?_
  refine TC.draws 9 [nB nb { n with ba := ⟨a252, c252, n.ba.l.eraseIdx k⟩ }] (by kernel_rfl) (by kernel_rfl) (by repeat first | exact holds_nil | refine holds_cons inn ?_) ?_
  refine TA.takeP 0 rfl rfl rfl rfl (by kernel_rfl) (by kernel_rfl) (by kernel_rfl) rfl (fun _ _ _ h => h) (Y.move rfl rfl) ?_
  refine TA.takeP 1 rfl rfl rfl rfl (by kernel_rfl) (by kernel_rfl) (by kernel_rfl) rfl (fun _ _ _ h => h) (Y.nilCheck rfl rfl) ?_
  refine TA.takeP 2 rfl rfl rfl rfl (by kernel_rfl) (by kernel_rfl) (by kernel_rfl) rfl (fun _ _ _ h => h) (by first | exact Y.fieldAddrJ rfl fo46_0 rfl nqq | exact Y.fieldAddr rfl fo46_0 rfl nqq) ?_
  refine TA.take 3 rfl rfl rfl rfl (by kernel_rfl) (by kernel_rfl) (by kernel_rfl) rfl (by kernel_rfl) (by kernel_rfl) (fun _ _ _ h => h) (Y.load rfl sc26 rfl celD) ?_
  refine TA.as (pt n.a 0) (by rfl) ?_
  refine TA.take 4 rfl rfl rfl rfl (by kernel_rfl) (by kernel_rfl) (by kernel_rfl) rfl (by kernel_rfl) (by kernel_rfl) (fun _ _ _ h => h) (Y.move rfl rfl) ?_
  refine TA.takeP 5 rfl rfl rfl rfl (by kernel_rfl) (by kernel_rfl) (by kernel_rfl) rfl (fun _ _ _ h => h) (Y.move rfl rfl) ?_
  refine TA.takeP 6 rfl rfl rfl rfl (by kernel_rfl) (by kernel_rfl) (by kernel_rfl) rfl (fun _ _ _ h => h) (Y.nilCheck rfl rfl) ?_
  refine TA.takeP 7 rfl rfl rfl rfl (by kernel_rfl) (by kernel_rfl) (by kernel_rfl) rfl (fun _ _ _ h => h) (by first | exact Y.fieldAddrJ rfl fo46_8 rfl nqq | exact Y.fieldAddr rfl fo46_8 rfl nqq) ?_
  refine TA.take 8 rfl rfl rfl rfl (by kernel_rfl) (by kernel_rfl) (by kernel_rfl) rfl (by kernel_rfl) (by kernel_rfl) (fun _ _ _ h => h) (Y.load rfl sc2 rfl celN) ?_
  refine TA.as (vI n.now) (by rfl) ?_
  refine TA.one 9 (by kernel_rfl) rfl rfl rfl rfl (X.call rfl Try.func12 (by kernel_rfl) rfl rfl (Fn.preE (by repeat first | (with_reducible apply Ent.refl) | (apply Ent.cons; case h => first | (with_reducible (repeat first | apply Pull.here | apply Pull.there); done) | (repeat first | apply Pull.here | apply Pull.there))) (Handle_fn n.a B hB.toInvP x.a x.l.length x.cap x.l rfl hxl n.now _))) ?_
  rintro _ _ ⟨o, g2, rfl, ho, hg2, rfl⟩
  have hol : o.l.length = (B.handle n.now x.l).2.1.length := by have := congrArg List.length ho; simpa using this
  have hgl2 : g2.l.length = (B.handle n.now x.l).2.2.1.length := by have := congrArg List.length hg2; simpa using this
  refine ⟨(Or.inl (by kernel_rfl)), ?_⟩
  refine TA.takeP 10 rfl rfl rfl rfl (by kernel_rfl) (by kernel_rfl) (by kernel_rfl) rfl (fun _ _ _ h => h) (Y.move rfl rfl) ?_
  refine TA.takeP 11 rfl rfl rfl rfl (by kernel_rfl) (by kernel_rfl) (by kernel_rfl) rfl (fun _ _ _ h => h) (Y.extract rfl rfl rfl) ?_
  refine TA.as (.slice o.a o.l.length o.cap) (by rfl) ?_
  refine TA.takeP 12 rfl rfl rfl rfl (by kernel_rfl) (by kernel_rfl) (by kernel_rfl) rfl (fun _ _ _ h => h) (Y.extract rfl rfl rfl) ?_
  refine TA.as (.slice g2.a g2.l.length g2.cap) (by rfl) ?_
  refine TA.takeP 13 rfl rfl rfl rfl (by kernel_rfl) (by kernel_rfl) (by kernel_rfl) rfl (fun _ _ _ h => h) (Y.extract rfl rfl rfl) ?_
  refine TA.takeP 14 rfl rfl rfl rfl (by kernel_rfl) (by kernel_rfl) (by kernel_rfl) rfl (fun _ _ _ h => h) (Y.assign rfl rfl) ?_
  refine TA.takeP 15 rfl rfl rfl rfl (by kernel_rfl) (by kernel_rfl) (by kernel_rfl) rfl (fun _ _ _ h => h) (Y.assign rfl rfl) ?_
  refine TA.takeP 16 rfl rfl rfl rfl (by kernel_rfl) (by kernel_rfl) (by kernel_rfl) rfl (fun _ _ _ h => h) (Y.assign rfl rfl) ?_
  refine TA.done (by kernel_rfl) ?_
  refine TQ.next ?_
  refine TC.seq ?_
  refine TC.region ?_
  refine TL.val rfl rfl rfl (Y.move rfl rfl) ?_
  refine TL.val rfl rfl rfl (Y.move rfl rfl) ?_
  refine TL.val rfl rfl rfl (Y.nilCheck rfl rfl) ?_
  refine TL.val rfl rfl rfl (by first | exact Y.fieldAddrJ rfl fo46_2 rfl nqq | exact Y.fieldAddr rfl fo46_2 rfl nqq) ?_
  refine TL.val rfl rfl rfl (Y.load rfl sc24 rfl celD) ?_
  refine TL.as (.slice n.ab.a n.ab.l.length n.ab.cap) (by rfl) ?_
  refine TL.val rfl rfl rfl (Y.move rfl rfl) ?_
  refine TL.eff rfl rfl rfl (X.appendS rfl el24 rfl pul rfl (Src.reads (Reads.dat (s := o)) Try.underlying24 inn) (by simp only [maxLen]; omega) (by omega)) ?_
  rintro _ _ ⟨a278, c278, rfl, rfl⟩
  rw [show Dat.cs n.ab.l ++ Dat.cs o.l = Dat.cs (n.ab.l ++ o.l) from (Dat.cs_app _ _).symm, ← List.length_append]
  refine TL.val rfl rfl rfl (Y.nilCheck rfl rfl) ?_
  refine TL.val rfl rfl rfl (by first | exact Y.fieldAddrJ rfl fo46_2 rfl nqq | exact Y.fieldAddr rfl fo46_2 rfl nqq) ?_
  refine TL.eff0 rfl rfl (X.store (cs' := netC { n with ba := ⟨a252, c252, n.ba.l.eraseIdx k⟩, ab := ⟨a278, c278, n.ab.l ++ o.l⟩ }) rfl (by kernel_rfl) rfl rfl rfl pul (by show 2 < 9; decide) rfl) ?_
  rintro _ _ rfl
  refine TL.nil ?_
  refine TQ.next ?_
  refine TC.to (Ent.addAll (o := o) (ys := n.ab.l) pul pul) ?_
  refine TC.draws 10 [nB nb { n with ba := ⟨a252, c252, n.ba.l.eraseIdx k⟩, ab := ⟨a278, c278, n.ab.l ++ o.l⟩ }] (by kernel_rfl) (by kernel_rfl) (by repeat first | exact holds_nil | refine holds_cons inn ?_) ?_
  refine TA.take 0 rfl rfl rfl rfl (by kernel_rfl) (by kernel_rfl) (by kernel_rfl) rfl (by kernel_rfl) (by kernel_rfl) (fun _ _ _ h => h) (Y.move rfl rfl) ?_
  refine TA.take 1 rfl rfl rfl rfl (by kernel_rfl) (by kernel_rfl) (by kernel_rfl) rfl (by kernel_rfl) (by kernel_rfl) (fun _ _ _ h => h) (Y.move rfl rfl) ?_
  refine TA.take 2 rfl rfl rfl rfl (by kernel_rfl) (by kernel_rfl) (by kernel_rfl) rfl (by kernel_rfl) (by kernel_rfl) (fun _ _ _ h => h) (Y.nilCheck rfl rfl) ?_
  refine TA.take 3 rfl rfl rfl rfl (by kernel_rfl) (by kernel_rfl) (by kernel_rfl) rfl (by kernel_rfl) (by kernel_rfl) (fun _ _ _ h => h) (by first | exact Y.fieldAddrJ rfl fo46_7 rfl nqq | exact Y.fieldAddr rfl fo46_7 rfl nqq) ?_
  refine TA.take 4 rfl rfl rfl rfl (by kernel_rfl) (by kernel_rfl) (by kernel_rfl) rfl (by kernel_rfl) (by kernel_rfl) (fun _ _ _ h => h) (Y.load rfl sc44 rfl celD) ?_
  refine TA.as (.slice n.gA.a n.gA.l.length n.gA.cap) (by rfl) ?_
  refine TA.take 5 rfl rfl rfl rfl (by kernel_rfl) (by kernel_rfl) (by kernel_rfl) rfl (by kernel_rfl) (by kernel_rfl) (fun _ _ _ h => h) (Y.move rfl rfl) ?_
  refine TA.one 6 (by kernel_rfl) rfl rfl rfl rfl (X.call rfl Try.func40 (by kernel_rfl) rfl rfl (Fn.preE (by repeat first | (with_reducible apply Ent.refl) | (apply Ent.cons; case h => first | (with_reducible (repeat first | apply Pull.here | apply Pull.there); done) | (repeat first | apply Pull.here | apply Pull.there))) (ours_fn g2.a g2.cap g2.l (by omega) _))) ?_
  rintro _ _ ⟨oa, oc, rfl, rfl⟩
  refine ⟨(Or.inr (by repeat first | exact holds_nil | refine holds_cons inn ?_)), ?_⟩
  refine TA.one 7 (by kernel_rfl) rfl rfl rfl rfl (X.appendS rfl el44 rfl pul rfl (Src.reads (Reads.datM (a := oa) (cap := oc) (l := g2.l)) Try.underlying44 inn) (by simp only [maxLen]; omega) (by omega)) ?_
  rintro _ _ ⟨a288, c288, rfl, rfl⟩
  rw [show Dat.cs n.gA.l ++ Dat.cs g2.l = Dat.cs (n.gA.l ++ g2.l) from (Dat.cs_app _ _).symm, ← List.length_append]
  refine ⟨(Or.inr (by repeat first | exact holds_nil | refine holds_cons inn ?_)), ?_⟩
  refine TA.takeP 8 rfl rfl rfl rfl (by kernel_rfl) (by kernel_rfl) (by kernel_rfl) rfl (fun _ _ _ h => h) (Y.nilCheck rfl rfl) ?_
  refine TA.take 9 rfl rfl rfl rfl (by kernel_rfl) (by kernel_rfl) (by kernel_rfl) rfl (by kernel_rfl) (by kernel_rfl) (fun _ _ _ h => h) (by first | exact Y.fieldAddrJ rfl fo46_7 rfl nqq | exact Y.fieldAddr rfl fo46_7 rfl nqq) ?_
  refine TA.one0 10 (by kernel_rfl) rfl rfl rfl (X.store (cs' := netC { n with ba := ⟨a252, c252, n.ba.l.eraseIdx k⟩, ab := ⟨a278, c278, n.ab.l ++ o.l⟩, gA := ⟨a288, c288, n.gA.l ++ g2.l⟩ }) rfl (by kernel_rfl) rfl rfl rfl pul (by show 7 < 9; decide) rfl) ?_
  rintro _ _ rfl
  refine ⟨(Or.inl (by kernel_rfl)), ?_⟩
  refine TA.done (by kernel_rfl) ?_
  refine TQ.block_normal ?_
  refine TQ.next ?_
  refine TC.seq ?_
  refine TC.seq ?_
  refine TC.to (Ent.addAll (o := ⟨oa, oc, g2.l⟩) (ys := n.gA.l) pul pul) ?_
  refine TC.region ?_
  refine TL.val rfl rfl rfl (Y.move rfl rfl) ?_
  refine TL.val rfl rfl rfl (Y.nilCheck rfl rfl) ?_
  refine TL.val rfl rfl rfl (by first | exact Y.fieldAddrJ rfl fo46_2 rfl nqq | exact Y.fieldAddr rfl fo46_2 rfl nqq) ?_
  refine TL.val rfl rfl rfl (Y.load rfl sc24 rfl celD) ?_
  refine TL.as (.slice a278 (n.ab.l ++ o.l).length c278) (by rfl) ?_
  refine TL.val rfl rfl rfl (Y.len rfl Try.underlying24 rfl) ?_
  refine TL.val rfl rfl rfl (Y.bin rfl rfl rfl (br_gtN (n := 200))) ?_
  refine TL.is false (by (simp; omega)) ?_
  refine TL.nil ?_
  refine TQ.next ?_
  refine TC.cond_f rfl ?_
  refine TC.skip ?_
  refine TQ.next ?_
  refine TC.seq ?_
  refine TC.region ?_
  refine TL.val rfl rfl rfl (Y.move rfl rfl) ?_
  refine TL.val rfl rfl rfl (Y.nilCheck rfl rfl) ?_
  refine TL.val rfl rfl rfl (by first | exact Y.fieldAddrJ rfl fo46_3 rfl nqq | exact Y.fieldAddr rfl fo46_3 rfl nqq) ?_
  refine TL.val rfl rfl rfl (Y.load rfl sc24 rfl celD) ?_
  refine TL.as (.slice a252 (n.ba.l.eraseIdx k).length c252) (by rfl) ?_
  refine TL.val rfl rfl rfl (Y.len rfl Try.underlying24 rfl) ?_
  refine TL.val rfl rfl rfl (Y.bin rfl rfl rfl (br_gtN (n := 200))) ?_
  refine TL.is false (by (simp; have := List.length_eraseIdx_le n.ba.l k; omega)) ?_
  refine TL.nil ?_
  refine TQ.next ?_
  refine TC.cond_f rfl ?_
  refine TC.skip ?_
  refine TQ.endE (res0 rfl) (⟨{ n with ba := ⟨a252, c252, n.ba.l.eraseIdx k⟩, ab := ⟨a278, c278, n.ab.l ++ o.l⟩, gA := ⟨a288, c288, n.gA.l ++ g2.l⟩ }, rfl, rfl, rfl, rfl, rfl, rfl, rfl, by rw [List.map_append, ho], by rw [List.map_append, hg2], rfl⟩) ?_
  exact ett
end ac
end Go.Proofs.Ytomplpdeeomehaa

/- assoc: steps of the net where nothing is under way; begun, walked. -/
namespace Go.Proofs.Ytomplpdeeomehaa
set_option linter.unusedVariables false
set_option linter.unusedSimpArgs false
open Go.RowKit
namespace ac
open wr (be16 be32)
open rd (num)
namespace FxAsNet0
set_option maxRecDepth 100000
theorem fo42_0 : Program.fieldOff Try.prog 42 0 = some 0 := by kernel_rfl
theorem fo46_2 : Program.fieldOff Try.prog 46 2 = some 2 := by kernel_rfl
theorem fo46_3 : Program.fieldOff Try.prog 46 3 = some 3 := by kernel_rfl
theorem sc24 : Program.isSc Try.prog 24 = true := by kernel_rfl
theorem sc3 : Program.isSc Try.prog 3 = true := by kernel_rfl
end FxAsNet0
open FxAsNet0
theorem step3_nil (nb : Nat) (n : NP) (N : Int) (kp : Bool) (d : Value) (hd : d.oneCell' = true) (nw : UInt16) (h : n.ab.l = []) (L : List SA) : Fn Try.prog 16 [pt nb 0, .agg (netArg 3 N kp d nw)] (nB nb n :: L) (fun _ L' => L' = nB nb n :: L) := by
  refine Fn.of (N := 367) Try.func16 rfl rfl ?_
  intro Xh
  refine TC.seq ?_
  refine TC.region ?_
  refine TL.eff rfl rfl rfl (X.box (cs := netArg 3 N kp d nw) rfl rfl rfl) ?_
  rintro _ _ ⟨b3, rfl, rfl⟩
  refine TL.nil ?_
  refine TQ.next ?_
  refine TC.seq ?_
  refine TC.seq ?_
  refine TC.region ?_
  refine TL.val rfl rfl rfl (by first | exact Y.fieldAddrJ rfl fo42_0 rfl nqq | exact Y.fieldAddr rfl fo42_0 rfl nqq) ?_
  refine TL.val rfl rfl rfl (Y.load rfl sc3 rfl celN) ?_
  refine TL.as (vI 3) (by rfl) ?_
  refine TL.nil ?_
  refine TQ.next ?_
  refine TC.block ?_
  refine TC.seq ?_
  refine TC.seq ?_
  refine TC.region ?_
  refine TL.val rfl rfl rfl (Y.bin rfl rfl rfl (br_eqN (n := 1))) ?_
  refine TL.is false (by first | rfl | (simp only [decide_eq_true_eq, decide_eq_false_iff_not, Bool.not_eq_true', Bool.not_eq_false', Bool.not_eq_eq_eq_not, Bool.not_true, Bool.not_false, Nat.not_lt, Nat.not_le]; omega) | (simp [*]; done) | (simp; omega)) ?_
  refine TL.val rfl rfl rfl (Y.assign rfl rfl) ?_
  refine TL.nil ?_
  refine TQ.next ?_
  refine TC.cond_f rfl ?_
  refine TC.region ?_
  refine TL.val rfl rfl rfl (Y.bin rfl rfl rfl (br_eqN (n := 2))) ?_
  refine TL.is false (by first | rfl | (simp only [decide_eq_true_eq, decide_eq_false_iff_not, Bool.not_eq_true', Bool.not_eq_false', Bool.not_eq_eq_eq_not, Bool.not_true, Bool.not_false, Nat.not_lt, Nat.not_le]; omega) | (simp [*]; done) | (simp; omega)) ?_
  refine TL.val rfl rfl rfl (Y.assign rfl rfl) ?_
  refine TL.nil ?_
  refine TQ.next ?_
  refine TC.cond_f rfl ?_
  refine TC.seq ?_
  refine TC.seq ?_
  refine TC.region ?_
  refine TL.val rfl rfl rfl (Y.bin rfl rfl rfl (br_eqN (n := 3))) ?_
  refine TL.is true (by first | rfl | (simp only [decide_eq_true_eq, decide_eq_false_iff_not, Bool.not_eq_true', Bool.not_eq_false', Bool.not_eq_eq_eq_not, Bool.not_true, Bool.not_false, Nat.not_lt, Nat.not_le]; omega) | (simp [*]; done) | (simp; omega)) ?_
  refine TL.val rfl rfl rfl (Y.assign rfl rfl) ?_
  refine TL.nil ?_
  refine TQ.next ?_
  refine TC.cond_t rfl ?_
  refine TC.skip ?_
  refine TQ.next ?_
  refine TC.cond_t rfl ?_
  refine TC.seq ?_
  refine TC.seq ?_
  refine TC.region ?_
  refine TL.val rfl rfl rfl (Y.move rfl rfl) ?_
  refine TL.val rfl rfl rfl (Y.nilCheck rfl rfl) ?_
  refine TL.val rfl rfl rfl (by first | exact Y.fieldAddrJ rfl fo46_2 rfl nqq | exact Y.fieldAddr rfl fo46_2 rfl nqq) ?_
  refine TL.val rfl rfl rfl (Y.load rfl sc24 rfl celD) ?_
  refine TL.as (.slice n.ab.a n.ab.l.length n.ab.cap) (by rfl) ?_
  refine TL.val rfl rfl rfl (Y.len rfl Try.underlying24 rfl) ?_
  refine TL.val rfl rfl rfl (Y.bin rfl rfl rfl (br_eqN (n := 0))) ?_
  refine TL.is true (by (rw [h]; rfl)) ?_
  refine TL.nil ?_
  refine TQ.next ?_
  refine TC.cond_t rfl ?_
  refine TC.ret ?_
  refine TQ.then_ret ?_
  refine TQ.block_ret ?_
  refine TQ.then_ret ?_
  refine TQ.retE (res0 rfl) (rfl) ?_
  exact ett
theorem step4_nil (nb : Nat) (n : NP) (N : Int) (kp : Bool) (d : Value) (hd : d.oneCell' = true) (nw : UInt16) (h : n.ba.l = []) (L : List SA) : Fn Try.prog 16 [pt nb 0, .agg (netArg 4 N kp d nw)] (nB nb n :: L) (fun _ L' => L' = nB nb n :: L) := by
  refine Fn.of (N := 367) Try.func16 rfl rfl ?_
  intro Xh
  refine TC.seq ?_
  refine TC.region ?_
  refine TL.eff rfl rfl rfl (X.box (cs := netArg 4 N kp d nw) rfl rfl rfl) ?_
  rintro _ _ ⟨b3, rfl, rfl⟩
  refine TL.nil ?_
  refine TQ.next ?_
  refine TC.seq ?_
  refine TC.seq ?_
  refine TC.region ?_
  refine TL.val rfl rfl rfl (by first | exact Y.fieldAddrJ rfl fo42_0 rfl nqq | exact Y.fieldAddr rfl fo42_0 rfl nqq) ?_
  refine TL.val rfl rfl rfl (Y.load rfl sc3 rfl celN) ?_
  refine TL.as (vI 4) (by rfl) ?_
  refine TL.nil ?_
  refine TQ.next ?_
  refine TC.block ?_
  refine TC.seq ?_
  refine TC.seq ?_
  refine TC.region ?_
  refine TL.val rfl rfl rfl (Y.bin rfl rfl rfl (br_eqN (n := 1))) ?_
  refine TL.is false (by first | rfl | (simp only [decide_eq_true_eq, decide_eq_false_iff_not, Bool.not_eq_true', Bool.not_eq_false', Bool.not_eq_eq_eq_not, Bool.not_true, Bool.not_false, Nat.not_lt, Nat.not_le]; omega) | (simp [*]; done) | (simp; omega)) ?_
  refine TL.val rfl rfl rfl (Y.assign rfl rfl) ?_
  refine TL.nil ?_
  refine TQ.next ?_
  refine TC.cond_f rfl ?_
  refine TC.region ?_
  refine TL.val rfl rfl rfl (Y.bin rfl rfl rfl (br_eqN (n := 2))) ?_
  refine TL.is false (by first | rfl | (simp only [decide_eq_true_eq, decide_eq_false_iff_not, Bool.not_eq_true', Bool.not_eq_false', Bool.not_eq_eq_eq_not, Bool.not_true, Bool.not_false, Nat.not_lt, Nat.not_le]; omega) | (simp [*]; done) | (simp; omega)) ?_
  refine TL.val rfl rfl rfl (Y.assign rfl rfl) ?_
  refine TL.nil ?_
  refine TQ.next ?_
  refine TC.cond_f rfl ?_
  refine TC.seq ?_
  refine TC.seq ?_
  refine TC.region ?_
  refine TL.val rfl rfl rfl (Y.bin rfl rfl rfl (br_eqN (n := 3))) ?_
  refine TL.is false (by first | rfl | (simp only [decide_eq_true_eq, decide_eq_false_iff_not, Bool.not_eq_true', Bool.not_eq_false', Bool.not_eq_eq_eq_not, Bool.not_true, Bool.not_false, Nat.not_lt, Nat.not_le]; omega) | (simp [*]; done) | (simp; omega)) ?_
  refine TL.val rfl rfl rfl (Y.assign rfl rfl) ?_
  refine TL.nil ?_
  refine TQ.next ?_
  refine TC.cond_f rfl ?_
  refine TC.region ?_
  refine TL.val rfl rfl rfl (Y.bin rfl rfl rfl (br_eqN (n := 5))) ?_
  refine TL.is false (by first | rfl | (simp only [decide_eq_true_eq, decide_eq_false_iff_not, Bool.not_eq_true', Bool.not_eq_false', Bool.not_eq_eq_eq_not, Bool.not_true, Bool.not_false, Nat.not_lt, Nat.not_le]; omega) | (simp [*]; done) | (simp; omega)) ?_
  refine TL.val rfl rfl rfl (Y.assign rfl rfl) ?_
  refine TL.nil ?_
  refine TQ.next ?_
  refine TC.cond_f rfl ?_
  refine TC.seq ?_
  refine TC.seq ?_
  refine TC.region ?_
  refine TL.val rfl rfl rfl (Y.bin rfl rfl rfl (br_eqN (n := 4))) ?_
  refine TL.is true (by first | rfl | (simp only [decide_eq_true_eq, decide_eq_false_iff_not, Bool.not_eq_true', Bool.not_eq_false', Bool.not_eq_eq_eq_not, Bool.not_true, Bool.not_false, Nat.not_lt, Nat.not_le]; omega) | (simp [*]; done) | (simp; omega)) ?_
  refine TL.val rfl rfl rfl (Y.assign rfl rfl) ?_
  refine TL.nil ?_
  refine TQ.next ?_
  refine TC.cond_t rfl ?_
  refine TC.skip ?_
  refine TQ.next ?_
  refine TC.cond_t rfl ?_
  refine TC.seq ?_
  refine TC.seq ?_
  refine TC.region ?_
  refine TL.val rfl rfl rfl (Y.move rfl rfl) ?_
  refine TL.val rfl rfl rfl (Y.nilCheck rfl rfl) ?_
  refine TL.val rfl rfl rfl (by first | exact Y.fieldAddrJ rfl fo46_3 rfl nqq | exact Y.fieldAddr rfl fo46_3 rfl nqq) ?_
  refine TL.val rfl rfl rfl (Y.load rfl sc24 rfl celD) ?_
  refine TL.as (.slice n.ba.a n.ba.l.length n.ba.cap) (by rfl) ?_
  refine TL.val rfl rfl rfl (Y.len rfl Try.underlying24 rfl) ?_
  refine TL.val rfl rfl rfl (Y.bin rfl rfl rfl (br_eqN (n := 0))) ?_
  refine TL.is true (by (rw [h]; rfl)) ?_
  refine TL.nil ?_
  refine TQ.next ?_
  refine TC.cond_t rfl ?_
  refine TC.ret ?_
  refine TQ.then_ret ?_
  refine TQ.block_ret ?_
  refine TQ.then_ret ?_
  refine TQ.retE (res0 rfl) (rfl) ?_
  exact ett
/-- a side that has just begun, as one atom -/
theorem Ent.newS {b : Nat} {p : AP} {tag tsn : UInt32} {s : List UInt8} {L : List SA} : Ent (aB b p (newS tag tsn s) :: aS p (newS tag tsn s) :: aM p (newS tag tsn s) :: aQ p (newS tag tsn s) :: aD (newS tag tsn s) :: aH p (newS tag tsn s) :: L) (ac.SD b (abs (newS tag tsn s)) :: L) := Ent.SD rfl
theorem Start_fn (b : Nat) (S : PS) (now : Int) (h : S.state = 0) (L : List SA) : Fn Try.prog 23 [pt b 0, vI now] (SD b S :: L)
    (fun v L' => ∃ a c, v = .tuple #[.slice a 16 c, vN 0] ∧ L' = SA.owns 5 1 (.slice a 16 c) 16 ((initB S).map v8) :: SD b (S.started now) :: L) := by
  refine Fn.SD fun p T hT => ?_
  subst hT
  refine (Start_yes b p T now h _).mono ?_
  rintro v L' ⟨a, c, ha, hc, rfl, rfl⟩
  refine ⟨_, Ent.under _ (Ent.trans ?_ (Ent.SD (p := { p with ha := ha, hc := hc }) (T := T.started now) (S := (abs T).started now) rfl)), a, c, rfl, rfl⟩
  exact Ent.trans (show Ent (aB b { p with ha := ha, hc := hc } (T.started now) :: aH { p with ha := ha, hc := hc } (T.started now) :: aS p T :: aM p T :: aQ p T :: aD T :: aH p T :: L) (aH p T :: aB b { p with ha := ha, hc := hc } (T.started now) :: aS p T :: aM p T :: aQ p T :: aD T :: aH { p with ha := ha, hc := hc } (T.started now) :: L) by generalize aB b { p with ha := ha, hc := hc } (T.started now) = A; generalize aH { p with ha := ha, hc := hc } (T.started now) = H'; exact ett) Ent.drop
theorem inv_new (tag tsn : UInt32) {s : List UInt8} (hs : s.length ≤ 140737488351232) : InvA (abs (newS tag tsn s)) :=
  ⟨⟨Nat.le_refl _, Nat.zero_le _, Nat.zero_le _, win_none (fun _ => rfl) 32, hs, Nat.zero_le _, Nat.zero_le _, (by show (0 : Int) ≤ 0 ∧ (0 : Int) ≤ 8000; decide), fun x hx => by cases hx⟩, fun _ _ => rfl⟩
theorem inv_started {S : PS} (h : InvA S) (hs : S.state = 0) (now : Int) : InvA (S.started now) :=
  inv_starts ⟨⟨h.sent, h.s16, h.q32, h.near, h.secret, by show (initB S).length ≤ 1000; show 16 ≤ 1000; decide, h.fires, h.delay, h.short⟩, fun _ => h.none (by omega)⟩
end ac
end Go.Proofs.Ytomplpdeeomehaa

/- assoc: begun, walked. -/
namespace Go.Proofs.Ytomplpdeeomehaa
set_option linter.unusedVariables false
set_option linter.unusedSimpArgs false
open Go.RowKit
namespace ac
open wr (be16 be32)
open rd (num)
namespace FxAsBeg
set_option maxRecDepth 100000
theorem el23 : Elt Try.prog 23 5 1 1 (.int .u8 0) := ⟨Try.underlying23, by kernel_rfl, rfl, by decide, by simp [Value.cells, Value.oneCell']⟩
theorem el24 : Elt Try.prog 24 23 1 24 (.slice none 0 0) := ⟨Try.underlying24, by kernel_rfl, rfl, by decide, by simp [Value.cells, Value.oneCell']⟩
theorem fo46_0 : Program.fieldOff Try.prog 46 0 = some 0 := by kernel_rfl
theorem fo46_2 : Program.fieldOff Try.prog 46 2 = some 2 := by kernel_rfl
theorem pl46 : Program.places Try.prog 46 = some [(0, 1), (1, 1), (2, 1), (3, 1), (4, 1), (5, 1), (6, 1), (7, 1), (8, 1)] := by kernel_rfl
theorem sc24 : Program.isSc Try.prog 24 = true := by kernel_rfl
theorem sc26 : Program.isSc Try.prog 26 = true := by kernel_rfl
theorem zc46 : Program.zeroC Try.prog 46 = some #[.pointer none, .pointer none, .slice none 0 0, .slice none 0 0, .slice none 0 0, .slice none 0 0, .slice none 0 0, .slice none 0 0, .int .i64 0] := by kernel_rfl
end FxAsBeg
open FxAsBeg
def begA (tag tsn : UInt32) : PS := (abs (newS tag tsn [97])).started 0
def begB (other first : UInt32) : PS := abs (newS other first [98])
set_option maxHeartbeats 2000000 in
theorem begun_fn (tag tsn other first : UInt32) (L : List SA) : Fn Try.prog 15 [v32 tag, v32 tsn, v32 other, v32 first] L
    (fun v L' => ∃ (nb : Nat) (n : NP) (a : Option Addr) (c : Nat), v = pt nb 0 ∧ n.ab.l = [⟨a, c, initB (abs (newS tag tsn [97]))⟩] ∧ n.ba.l = [] ∧ n.sent.l = [] ∧ n.back.l = [] ∧ n.gB.l = [] ∧ n.gA.l = [] ∧ n.now = 0 ∧
      L' = nB nb n :: SD n.a (begA tag tsn) :: SD n.b (begB other first) :: oP n.ab :: rP n.ab :: oP n.ba :: rP n.ba :: oM n.sent :: rMs n.sent :: oM n.back :: rMs n.back :: oM n.gB :: rMs n.gB :: oM n.gA :: rMs n.gA :: L) := by
  refine Fn.of (N := 43) Try.func15 rfl rfl ?_
  intro Xh
  refine TC.seq ?_
  refine TC.region ?_
  refine TL.val rfl rfl rfl (Y.assign rfl rfl) ?_
  refine TL.nil ?_
  refine TQ.next ?_
  refine TC.seq ?_
  refine TC.region ?_
  refine TL.val rfl rfl rfl (Y.move rfl rfl) ?_
  refine TL.val rfl rfl rfl (Y.move rfl rfl) ?_
  refine TL.eff rfl rfl rfl (X.lit rfl el23 rfl rfl rfl (by decide) rfl) ?_
  rintro _ _ ⟨g14, rfl, rfl⟩
  refine TL.eff rfl rfl rfl (X.mark rfl Try.underlying23 Try.underlying5 rfl pul) ?_
  rintro _ _ ⟨rfl, rfl⟩
  refine TL.eff rfl rfl rfl (X.call rfl Try.func11 (by kernel_rfl) rfl rfl (Fn.preE (by repeat first | (with_reducible apply Ent.refl) | (apply Ent.cons; case h => first | (with_reducible (repeat first | apply Pull.here | apply Pull.there); done) | (repeat first | apply Pull.here | apply Pull.there))) (New_fn tag tsn (some ⟨g14, 0, none⟩) 1 1 [97] rfl (by decide) _))) ?_
  rintro _ _ ⟨b16, p16, rfl, rfl⟩
  refine TL.to Ent.newS ?_
  refine TL.val rfl rfl rfl (Y.move rfl rfl) ?_
  refine TL.val rfl rfl rfl (Y.move rfl rfl) ?_
  refine TL.eff rfl rfl rfl (X.lit rfl el23 rfl rfl rfl (by decide) rfl) ?_
  rintro _ _ ⟨g19, rfl, rfl⟩
  refine TL.eff rfl rfl rfl (X.mark rfl Try.underlying23 Try.underlying5 rfl pul) ?_
  rintro _ _ ⟨rfl, rfl⟩
  refine TL.eff rfl rfl rfl (X.call rfl Try.func11 (by kernel_rfl) rfl rfl (Fn.preE (by repeat first | (with_reducible apply Ent.refl) | (apply Ent.cons; case h => first | (with_reducible (repeat first | apply Pull.here | apply Pull.there); done) | (repeat first | apply Pull.here | apply Pull.there))) (New_fn other first (some ⟨g19, 0, none⟩) 1 1 [98] rfl (by decide) _))) ?_
  rintro _ _ ⟨b21, p21, rfl, rfl⟩
  refine TL.to Ent.newS ?_
  refine TL.val rfl rfl rfl (Y.buildS (cells := netC ⟨b16, b21, ⟨none, 0, []⟩, ⟨none, 0, []⟩, ⟨none, 0, []⟩, ⟨none, 0, []⟩, ⟨none, 0, []⟩, ⟨none, 0, []⟩, 0⟩) rfl rfl pl46 zc46 (by kernel_rfl)) ?_
  refine TL.eff rfl rfl rfl (X.boxA rfl rfl) ?_
  rintro _ _ ⟨b23, rfl, rfl⟩
  refine TL.val rfl rfl rfl (Y.assign rfl rfl) ?_
  refine TL.nil ?_
  refine TQ.next ?_
  refine TC.seq ?_
  refine TC.region ?_
  refine TL.val rfl rfl rfl (Y.move rfl rfl) ?_
  refine TL.val rfl rfl rfl (Y.nilCheck rfl rfl) ?_
  refine TL.val rfl rfl rfl (by first | exact Y.fieldAddrJ rfl fo46_0 rfl nqq | exact Y.fieldAddr rfl fo46_0 rfl nqq) ?_
  refine TL.val rfl rfl rfl (Y.load rfl sc26 rfl celD) ?_
  refine TL.as (pt b16 0) (by rfl) ?_
  refine TL.eff rfl rfl rfl (X.call rfl Try.func23 (by kernel_rfl) rfl rfl (Fn.preE (by repeat first | (with_reducible apply Ent.refl) | (apply Ent.cons; case h => first | (with_reducible (repeat first | apply Pull.here | apply Pull.there); done) | (repeat first | apply Pull.here | apply Pull.there))) (Start_fn b16 (abs (newS tag tsn [97])) 0 rfl _))) ?_
  rintro _ _ ⟨sa, sc, rfl, rfl⟩
  refine TL.val rfl rfl rfl (Y.move rfl rfl) ?_
  refine TL.val rfl rfl rfl (Y.extract rfl rfl rfl) ?_
  refine TL.as (.slice sa 16 sc) (by rfl) ?_
  refine TL.val rfl rfl rfl (Y.extract rfl rfl rfl) ?_
  refine TL.val rfl rfl rfl (Y.assign rfl rfl) ?_
  refine TL.val rfl rfl rfl (Y.assign rfl rfl) ?_
  refine TL.nil ?_
  refine TQ.next ?_
  refine TC.seq ?_
  refine TC.to (Ent.trans (Ent.nilOwn 23 1) Ent.rdss0) ?_
  refine TC.region ?_
  refine TL.val rfl rfl rfl (Y.move rfl rfl) ?_
  refine TL.val rfl rfl rfl (Y.move rfl rfl) ?_
  refine TL.val rfl rfl rfl (Y.nilCheck rfl rfl) ?_
  refine TL.val rfl rfl rfl (by first | exact Y.fieldAddrJ rfl fo46_2 rfl nqq | exact Y.fieldAddr rfl fo46_2 rfl nqq) ?_
  refine TL.val rfl rfl rfl (Y.load rfl sc24 rfl celD) ?_
  refine TL.as (.slice none 0 0) (by rfl) ?_
  refine TL.val rfl rfl rfl (Y.move rfl rfl) ?_
  refine TL.eff rfl rfl rfl (X.lit rfl el24 rfl rfl rfl (by decide) rfl) ?_
  rintro _ _ ⟨g38, rfl, rfl⟩
  refine TL.eff rfl rfl rfl (X.appendS rfl el24 rfl pul rfl (by first | exact Src.owns Try.underlying24 inn | exact Src.rds Try.underlying24 inn | exact Src.reads (by assumption) Try.underlying24 inn) (by simp only [maxLen]; omega) (by omega)) ?_
  rintro _ _ ⟨a39, c39, rfl, rfl⟩
  simp only [List.nil_append, Nat.zero_add]
  refine TL.val rfl rfl rfl (Y.nilCheck rfl rfl) ?_
  refine TL.val rfl rfl rfl (by first | exact Y.fieldAddrJ rfl fo46_2 rfl nqq | exact Y.fieldAddr rfl fo46_2 rfl nqq) ?_
  refine TL.eff0 rfl rfl (X.store (cs' := netC ⟨b16, b21, ⟨a39, c39, [⟨sa, sc, initB (abs (newS tag tsn [97]))⟩]⟩, ⟨none, 0, []⟩, ⟨none, 0, []⟩, ⟨none, 0, []⟩, ⟨none, 0, []⟩, ⟨none, 0, []⟩, 0⟩) rfl (by kernel_rfl) rfl rfl rfl pul (by show 2 < 9; decide) rfl) ?_
  rintro _ _ rfl
  refine TL.nil ?_
  refine TQ.next ?_
  refine TC.seq ?_
  refine TC.to ((Pull.ent (A := SA.owns 5 1 (.slice sa 16 sc) 16 ((initB (abs (newS tag tsn [97]))).map v8)) pul).trans (Ent.freeze.trans (Ent.mkBytes rfl))) ?_
  refine TC.to (Ent.addEl (ys := ([] : List Bs)) (x := (⟨sa, sc, initB (abs (newS tag tsn [97]))⟩ : Bs)) pul pul) ?_
  refine TC.to (Ent.trans (Ent.nilOwn 23 1) Ent.rdss0) ?_
  refine TC.to (Ent.trans (Ent.nilOwn rmT 3) Ent.rdss0) ?_
  refine TC.to (Ent.trans (Ent.nilOwn rmT 3) Ent.rdss0) ?_
  refine TC.to (Ent.trans (Ent.nilOwn rmT 3) Ent.rdss0) ?_
  refine TC.to (Ent.trans (Ent.nilOwn rmT 3) Ent.rdss0) ?_
  refine TC.region ?_
  refine TL.val rfl rfl rfl (Y.move rfl rfl) ?_
  refine TL.val rfl rfl rfl (Y.assign rfl rfl) ?_
  refine TL.nil ?_
  refine TQ.next ?_
  refine TC.ret ?_
  refine TQ.retE (res1 rfl rfl) (⟨b23, ⟨b16, b21, ⟨a39, c39, [⟨sa, sc, initB (abs (newS tag tsn [97]))⟩]⟩, ⟨none, 0, []⟩, ⟨none, 0, []⟩, ⟨none, 0, []⟩, ⟨none, 0, []⟩, ⟨none, 0, []⟩, 0⟩, sa, sc, rfl, rfl, rfl, rfl, rfl, rfl, rfl, rfl, rfl⟩) ?_
  exact ett
end ac
end Go.Proofs.Ytomplpdeeomehaa

/- assoc: the handshake, as a law. -/
namespace Go.Proofs.Ytomplpdeeomehaa
set_option linter.unusedVariables false
set_option linter.unusedSimpArgs false
open Go.RowKit
namespace ac
open wr (be16 be32)
open rd (num)
theorem num_be32 (x : UInt32) : num (be32 x) = x := by
  apply UInt32.toNat_inj.1
  have hx := x.toNat_lt
  unfold be32
  rw [num4]
  simp only [shr32, UInt32.toNat_toUInt8]
  rw [UInt32.toNat_ofNat_of_lt' (by show _ < 4294967296; omega), UInt32.toNat_ofNat_of_lt' (by show _ < 4294967296; omega), UInt32.toNat_ofNat_of_lt' (by show _ < 4294967296; omega)]
  omega
theorem n32_at (p q : List UInt8) (x : UInt32) (k : Nat) (hp : p.length = k) : n32 (p ++ (be32 x ++ q)) k = x := by
  subst hp
  unfold n32
  rw [List.drop_left, show (be32 x ++ q).take 4 = be32 x from rfl, num_be32]
theorem n32_end (p : List UInt8) (x : UInt32) (k : Nat) (hp : p.length = k) : n32 (p ++ be32 x) k = x := by
  have := n32_at p [] x k hp
  rwa [List.append_nil] at this
theorem pkt_tag (t : UInt32) (k : UInt8) (q : List UInt8) : n32 (pkt t k ++ q) 0 = t := by
  have := n32_at [] (be32 (shl32 k.toUInt32 24) ++ q) t 0 rfl
  rw [List.nil_append] at this
  unfold pkt; rw [List.append_assoc]; exact this
theorem pkt_kind (t : UInt32) (k : UInt8) (q : List UInt8) : n32 (pkt t k ++ q) 4 = shl32 k.toUInt32 24 := by
  unfold pkt; rw [List.append_assoc]; exact n32_at (be32 t) q _ 4 rfl
theorem formed_pkt {t : UInt32} {k : UInt8} {q l : List UInt8} {kd : UInt32} (he : l = pkt t k ++ q) (hl : shl32 k.toUInt32 24 &&& 16777215 = 0) (hk : shr32 (shl32 k.toUInt32 24) 24 = kd) (h8 : kd.toUInt8 = k) (hf : fitsB k q.length = true) (ht : decide (t = 0) = decide (kd = 1)) : Formed l kd := by
  have h0 : n32 l 0 = t := by rw [he, pkt_tag]
  have h4 : n32 l 4 = shl32 k.toUInt32 24 := by rw [he, pkt_kind]
  have hlen : l.length = q.length + 8 := by rw [he, List.length_append, pkt_len, Nat.add_comm]
  clear he
  constructor
  · omega
  · rw [h4]; exact hl
  · rw [h4]; exact hk
  · rw [h8, hlen, Nat.add_sub_cancel]; exact hf
  · rw [h0]; exact ht
theorem tagOf_nz (t : UInt32) : tagOf t ≠ 0 := by unfold tagOf; split <;> simp_all
theorem drop8 (t : UInt32) (k : UInt8) (q : List UInt8) : (pkt t k ++ q).drop 8 = q := rfl
section
variable (tag tsn other first : UInt32)
theorem hs1 : (begB other first).handle 0 (initB (abs (newS tag tsn [97]))) = (begB other first, [(begB other first).initAckB (tagOf tag) tsn], [], 0) := by
  have e : initB (abs (newS tag tsn [97])) = pkt 0 1 ++ (be32 (tagOf tag) ++ be32 tsn) := by unfold initB; rw [List.append_assoc]; rfl
  rw [e]
  have hF : Formed (pkt 0 1 ++ (be32 (tagOf tag) ++ be32 tsn)) 1 := formed_pkt (k := 1) rfl (by decide) (by decide) (by decide) rfl (by decide)
  have n8 : n32 (pkt 0 1 ++ (be32 (tagOf tag) ++ be32 tsn)) 8 = tagOf tag := n32_at (pkt 0 1) (be32 tsn) _ 8 rfl
  have n12 : n32 (pkt 0 1 ++ (be32 (tagOf tag) ++ be32 tsn)) 12 = tsn := by
    rw [← List.append_assoc]; exact n32_end (pkt 0 1 ++ be32 (tagOf tag)) tsn 12 rfl
  rw [handle_ok hF, handle2_1y (by rw [n8]; exact tagOf_nz tag) (.inl rfl), n8, n12]
  rfl
def ck (tag tsn other first : UInt32) : List UInt8 := cookieB (begB other first) (tagOf tag) tsn
theorem ck_len : (ck tag tsn other first).length = 36 := cookieB_len _ _ _
def opA2 (tag tsn other first : UInt32) : PS := (begA tag tsn).echo (tagOf other) first (ck tag tsn other first)
theorem hs2 : (begA tag tsn).handle 0 ((begB other first).initAckB (tagOf tag) tsn) = (opA2 tag tsn other first, [echoB (tagOf other) (ck tag tsn other first)], [], 0) := by
  have e : (begB other first).initAckB (tagOf tag) tsn = pkt (tagOf tag) 2 ++ (be32 (tagOf other) ++ (be32 first ++ ck tag tsn other first)) := by
    unfold AS.initAckB; rw [List.append_assoc, List.append_assoc]; rfl
  rw [e]
  have hF : Formed (pkt (tagOf tag) 2 ++ (be32 (tagOf other) ++ (be32 first ++ ck tag tsn other first))) 2 := formed_pkt (k := 2) rfl (by decide) (by decide) (by decide) (by
    have h : (be32 (tagOf other) ++ (be32 first ++ ck tag tsn other first)).length = 44 := by rw [List.length_append, List.length_append, ck_len]; rfl
    rw [h]; rfl) (by simp [tagOf_nz])
  have n8 : n32 (pkt (tagOf tag) 2 ++ (be32 (tagOf other) ++ (be32 first ++ ck tag tsn other first))) 8 = tagOf other := n32_at (pkt (tagOf tag) 2) _ _ 8 rfl
  have n12 : n32 (pkt (tagOf tag) 2 ++ (be32 (tagOf other) ++ (be32 first ++ ck tag tsn other first))) 12 = first := by
    rw [← List.append_assoc]; exact n32_at (pkt (tagOf tag) 2 ++ be32 (tagOf other)) _ first 12 rfl
  have d16 : (pkt (tagOf tag) 2 ++ (be32 (tagOf other) ++ (be32 first ++ ck tag tsn other first))).drop 16 = ck tag tsn other first := rfl
  rw [handle_ok hF, handle2_2 (S := (begA tag tsn).clocked 0) (by rw [n8]; exact tagOf_nz other) (pkt_tag (tagOf tag) 2 _), if_neg (fun h => h rfl), n8, n12, d16]
  rfl
def opB (tag tsn other first : UInt32) : PS := (begB other first).opened (tagOf tag) tsn
theorem hs3 : (begB other first).handle 0 (echoB (tagOf other) (ck tag tsn other first)) = (opB tag tsn other first, [pkt (tagOf tag) 4], [], 0) := by
  have e : echoB (tagOf other) (ck tag tsn other first) = pkt (tagOf other) 3 ++ ck tag tsn other first := rfl
  rw [e]
  have hF : Formed (pkt (tagOf other) 3 ++ ck tag tsn other first) 3 := formed_pkt (k := 3) rfl (by decide) (by decide) (by decide) (by rw [ck_len]; rfl) (by simp [tagOf_nz])
  have e2 : ck tag tsn other first = be32 (tagOf tag) ++ (be32 tsn ++ (be32 (tagOf other) ++ be32 first ++ sha.mac [98] (ckB (begB other first) (tagOf tag) tsn))) := by
    unfold ck cookieB ckB; simp only [List.append_assoc]; rfl
  have n8 : n32 (pkt (tagOf other) 3 ++ ck tag tsn other first) 8 = tagOf tag := by rw [e2]; exact n32_at (pkt (tagOf other) 3) _ _ 8 rfl
  have n12 : n32 (pkt (tagOf other) 3 ++ ck tag tsn other first) 12 = tsn := by
    rw [e2, ← List.append_assoc]; exact n32_at (pkt (tagOf other) 3 ++ be32 (tagOf tag)) _ tsn 12 rfl
  rw [handle_ok hF, handle2_3 (S := (begB other first).clocked 0) (pkt_tag (tagOf other) 3 _), n8, n12, drop8, if_neg (fun h => h rfl), if_pos (show ((begB other first).clocked 0).state = 0 from rfl)]
  rfl
def opA (tag tsn other first : UInt32) : PS := { opA2 tag tsn other first with state := 3, tset := false }
theorem hs4 : (opA2 tag tsn other first).handle 0 (pkt (tagOf tag) 4) = (opA tag tsn other first, [], [], 0) := by
  rw [show pkt (tagOf tag) 4 = pkt (tagOf tag) 4 ++ [] from (List.append_nil _).symm]
  have hF : Formed (pkt (tagOf tag) 4 ++ []) 4 := formed_pkt (k := 4) rfl (by decide) (by decide) (by decide) rfl (by simp [tagOf_nz])
  rw [handle_ok hF, handle2_4 (S := (opA2 tag tsn other first).clocked 0) (pkt_tag (tagOf tag) 4 _), if_pos (show ((opA2 tag tsn other first).clocked 0).state = 2 from rfl)]
  rfl
end
end ac
end Go.Proofs.Ytomplpdeeomehaa

/- assoc: opened, walked. -/
namespace Go.Proofs.Ytomplpdeeomehaa
set_option linter.unusedVariables false
set_option linter.unusedSimpArgs false
open Go.RowKit
namespace ac
open wr (be16 be32)
open rd (num)
--FACTS
/-- what is under way, first to last -/
def outs (s : Sl Bs) : List (List UInt8) := s.l.map (·.l)
/-- the fields of a net that a step to the second side leaves -/
structure Left3 (n n' : NP) : Prop where
  a : n'.a = n.a
  b : n'.b = n.b
  sent : n'.sent = n.sent
  back : n'.back = n.back
  gA : n'.gA = n.gA
  now : n'.now = n.now
structure Left4 (n n' : NP) : Prop where
  a : n'.a = n.a
  b : n'.b = n.b
  sent : n'.sent = n.sent
  back : n'.back = n.back
  gB : n'.gB = n.gB
  now : n'.now = n.now
def take3 (B : PS) (now : Int) : List (List UInt8) → PS × List (List UInt8) × List PM
  | [] => (B, [], [])
  | p :: _ => ((B.handle now p).1, (B.handle now p).2.1, (B.handle now p).2.2.1)
theorem step3_0 (nb : Nat) (n : NP) (B : PS) (hB : InvA B) (hx : ∀ p ∈ outs n.ab, p.length ≤ 140737488351232) (h200 : n.ab.l.length ≤ 200) (hba : n.ba.l.length + (take3 B n.now (outs n.ab)).2.1.length ≤ 200) (hgl : n.gB.l.length + (take3 B n.now (outs n.ab)).2.2.length ≤ 1000000) (L : List SA) :
    Fn Try.prog 16 [pt nb 0, .agg (netArg 3 0 false (.slice none 0 0) 0)] (nB nb n :: SD n.b B :: oP n.ab :: rP n.ab :: oP n.ba :: rP n.ba :: oM n.gB :: rMs n.gB :: L)
      (fun _ L' => ∃ n' : NP, Left3 n n' ∧ outs n'.ab = (outs n.ab).tail ∧ outs n'.ba = outs n.ba ++ (take3 B n.now (outs n.ab)).2.1 ∧ n'.gB.l.map pm = n.gB.l.map pm ++ (take3 B n.now (outs n.ab)).2.2 ∧
        L' = nB nb n' :: SD n'.b (take3 B n.now (outs n.ab)).1 :: oP n'.ab :: rP n'.ab :: oP n'.ba :: rP n'.ba :: oM n'.gB :: rMs n'.gB :: L) := by
  rcases hl : n.ab.l with _ | ⟨x, r⟩
  · have ho : outs n.ab = [] := by unfold outs; rw [hl]; rfl
    rw [ho]
    refine (step3_nil nb n 0 false (.slice none 0 0) rfl 0 hl _).mono ?_
    rintro v L' rfl
    exact ⟨_, Ent.refl, n, ⟨rfl, rfl, rfl, rfl, rfl, rfl⟩, by rw [ho]; rfl, (List.append_nil _).symm, (List.append_nil _).symm, rfl⟩
  · have ho : outs n.ab = x.l :: r.map (·.l) := by unfold outs; rw [hl]; rfl
    rw [ho] at hba hgl hx ⊢
    refine (step3_fn nb n B hB 0 (.slice none 0 0) 0 0 x (by rw [idxN]; simp) (by rw [hl]; rfl) (hx _ (List.mem_cons_self ..)) h200 hba hgl L).mono ?_
    rintro v L' ⟨n', e1, e2, e3, e4, e5, e6, e7, e8, e9, rfl⟩
    exact ⟨_, Ent.refl, n', ⟨e1, e2, e3, e4, e5, e6⟩, by unfold outs; rw [e7, hl]; rfl, e8, e9, rfl⟩
theorem step4_0 (nb : Nat) (n : NP) (A : PS) (hA : InvA A) (hx : ∀ p ∈ outs n.ba, p.length ≤ 140737488351232) (h200 : n.ba.l.length ≤ 200) (hab : n.ab.l.length + (take3 A n.now (outs n.ba)).2.1.length ≤ 200) (hgl : n.gA.l.length + (take3 A n.now (outs n.ba)).2.2.length ≤ 1000000) (L : List SA) :
    Fn Try.prog 16 [pt nb 0, .agg (netArg 4 0 false (.slice none 0 0) 0)] (nB nb n :: SD n.a A :: oP n.ba :: rP n.ba :: oP n.ab :: rP n.ab :: oM n.gA :: rMs n.gA :: L)
      (fun _ L' => ∃ n' : NP, Left4 n n' ∧ outs n'.ba = (outs n.ba).tail ∧ outs n'.ab = outs n.ab ++ (take3 A n.now (outs n.ba)).2.1 ∧ n'.gA.l.map pm = n.gA.l.map pm ++ (take3 A n.now (outs n.ba)).2.2 ∧
        L' = nB nb n' :: SD n'.a (take3 A n.now (outs n.ba)).1 :: oP n'.ba :: rP n'.ba :: oP n'.ab :: rP n'.ab :: oM n'.gA :: rMs n'.gA :: L) := by
  rcases hl : n.ba.l with _ | ⟨x, r⟩
  · have ho : outs n.ba = [] := by unfold outs; rw [hl]; rfl
    rw [ho]
    refine (step4_nil nb n 0 false (.slice none 0 0) rfl 0 hl _).mono ?_
    rintro v L' rfl
    exact ⟨_, Ent.refl, n, ⟨rfl, rfl, rfl, rfl, rfl, rfl⟩, by rw [ho]; rfl, (List.append_nil _).symm, (List.append_nil _).symm, rfl⟩
  · have ho : outs n.ba = x.l :: r.map (·.l) := by unfold outs; rw [hl]; rfl
    rw [ho] at hab hgl hx ⊢
    refine (step4_fn nb n A hA 0 (.slice none 0 0) 0 0 x (by rw [idxN]; simp) (by rw [hl]; rfl) (hx _ (List.mem_cons_self ..)) h200 hab hgl L).mono ?_
    rintro v L' ⟨n', e1, e2, e3, e4, e5, e6, e7, e8, e9, rfl⟩
    exact ⟨_, Ent.refl, n', ⟨e1, e2, e3, e4, e5, e6⟩, by unfold outs; rw [e7, hl]; rfl, e8, e9, rfl⟩
section
variable (tag tsn other first : UInt32)
def rA (k : Nat) : PS := if k = 0 then begA tag tsn else if k = 1 then opA2 tag tsn other first else opA tag tsn other first
def rB' (k : Nat) : PS := if k ≤ 1 then begB other first else opB tag tsn other first
def rab (k : Nat) : List (List UInt8) := if k = 0 then [initB (abs (newS tag tsn [97]))] else if k = 1 then [echoB (tagOf other) (ck tag tsn other first)] else []
def mid (k : Nat) : List (List UInt8) := if k = 0 then [(begB other first).initAckB (tagOf tag) tsn] else if k = 1 then [pkt (tagOf tag) 4] else []
theorem r3 (k : Nat) : take3 (rB' tag tsn other first k) 0 (rab tag tsn other first k) = (rB' tag tsn other first (k + 1), mid tag tsn other first k, []) := by
  rcases k with _ | _ | k
  · show (((begB other first).handle 0 (initB (abs (newS tag tsn [97])))).1, ((begB other first).handle 0 (initB (abs (newS tag tsn [97])))).2.1, ((begB other first).handle 0 (initB (abs (newS tag tsn [97])))).2.2.1) = (begB other first, [(begB other first).initAckB (tagOf tag) tsn], [])
    rw [hs1]
  · show (((begB other first).handle 0 (echoB (tagOf other) (ck tag tsn other first))).1, ((begB other first).handle 0 (echoB (tagOf other) (ck tag tsn other first))).2.1, ((begB other first).handle 0 (echoB (tagOf other) (ck tag tsn other first))).2.2.1) = (opB tag tsn other first, [pkt (tagOf tag) 4], [])
    rw [hs3]
  · rfl
theorem r4 (k : Nat) : take3 (rA tag tsn other first k) 0 (mid tag tsn other first k) = (rA tag tsn other first (k + 1), rab tag tsn other first (k + 1), []) := by
  rcases k with _ | _ | k
  · show (((begA tag tsn).handle 0 ((begB other first).initAckB (tagOf tag) tsn)).1, ((begA tag tsn).handle 0 ((begB other first).initAckB (tagOf tag) tsn)).2.1, ((begA tag tsn).handle 0 ((begB other first).initAckB (tagOf tag) tsn)).2.2.1) = (opA2 tag tsn other first, [echoB (tagOf other) (ck tag tsn other first)], [])
    rw [hs2]
  · show (((opA2 tag tsn other first).handle 0 (pkt (tagOf tag) 4)).1, ((opA2 tag tsn other first).handle 0 (pkt (tagOf tag) 4)).2.1, ((opA2 tag tsn other first).handle 0 (pkt (tagOf tag) 4)).2.2.1) = (opA tag tsn other first, [], [])
    rw [hs4]
  · rfl
theorem rab_len (k : Nat) : ∀ p ∈ rab tag tsn other first k, p.length ≤ 140737488351232 := by
  intro p hp
  unfold rab at hp
  split at hp
  · rw [List.mem_singleton.1 hp]; show 16 ≤ _; decide
  split at hp
  · rw [List.mem_singleton.1 hp, echoB, List.length_append, pkt_len, ck_len]; decide
  · cases hp
theorem mid_len (k : Nat) : ∀ p ∈ mid tag tsn other first k, p.length ≤ 140737488351232 := by
  intro p hp
  unfold mid at hp
  split at hp
  · rw [List.mem_singleton.1 hp]; unfold AS.initAckB; rw [List.length_append, List.length_append, List.length_append, pkt_len, cookieB_len]; show 8 + 4 + 4 + 36 ≤ _; decide
  split at hp
  · rw [List.mem_singleton.1 hp, pkt_len]; decide
  · cases hp
theorem rab_n (k : Nat) : (rab tag tsn other first k).length ≤ 1 := by unfold rab; split; exact Nat.le_refl _; split; exact Nat.le_refl _; exact Nat.zero_le _
theorem mid_n (k : Nat) : (mid tag tsn other first k).length ≤ 1 := by unfold mid; split; exact Nat.le_refl _; split; exact Nat.le_refl _; exact Nat.zero_le _
theorem inv_begB : InvA (begB other first) := inv_new other first (by show 1 ≤ _; decide)
theorem inv_begA : InvA (begA tag tsn) := inv_started (inv_new tag tsn (by show 1 ≤ _; decide)) rfl 0
theorem inv_opA2 : InvA (opA2 tag tsn other first) := inv_echo (inv_begA tag tsn) (by show 1 < 3; decide) _ _ (by rw [ck_len]; decide)
theorem inv_rA (k : Nat) : InvA (rA tag tsn other first k) := by
  unfold rA; split
  · exact inv_begA tag tsn
  split
  · exact inv_opA2 tag tsn other first
  · exact inv_state (inv_opA2 tag tsn other first) 3 false (by decide)
theorem inv_rB (k : Nat) : InvA (rB' tag tsn other first k) := by
  unfold rB'; split
  · exact inv_begB other first
  · exact inv_opened (inv_begB other first) (by show 0 < 3; decide) _ _
end
end ac
end Go.Proofs.Ytomplpdeeomehaa

/- assoc: opened, walked. -/
namespace Go.Proofs.Ytomplpdeeomehaa
set_option linter.unusedVariables false
set_option linter.unusedSimpArgs false
open Go.RowKit
namespace ac
open wr (be16 be32)
open rd (num)
namespace FxAsOq
set_option maxRecDepth 100000
theorem fo46_0 : Program.fieldOff Try.prog 46 0 = some 0 := by kernel_rfl
theorem fo46_1 : Program.fieldOff Try.prog 46 1 = some 1 := by kernel_rfl
theorem pl42 : Program.places Try.prog 42 = some [(0, 1), (1, 1), (2, 1), (3, 1), (4, 1)] := by kernel_rfl
theorem sc26 : Program.isSc Try.prog 26 = true := by kernel_rfl
theorem zc42 : Program.zeroC Try.prog 42 = some #[.int .i64 0, .int .i64 0, .bool false, .slice none 0 0, .int .u16 0] := by kernel_rfl
end FxAsOq
open FxAsOq
theorem StateSD (b : Nat) (S : PS) (L : List SA) : Fn Try.prog 14 [pt b 0] (SD b S :: L) (fun v L' => v = vN S.state ∧ L' = SD b S :: L) := by
  refine Fn.SD fun p T hT => ?_
  subst hT
  refine (State_fn b p T _).mono ?_
  rintro v L' ⟨rfl, rfl⟩
  exact ⟨_, Ent.SD rfl, rfl, rfl⟩
section
variable (tag tsn other first : UInt32)
set_option maxHeartbeats 4000000 in
theorem opened_fn (nb : Nat) (n : NP) (hab : outs n.ab = rab tag tsn other first 0) (hba : outs n.ba = []) (hgB : n.gB.l = []) (hgA : n.gA.l = []) (hnow : n.now = 0) (L : List SA) :
    Fn Try.prog 18 [pt nb 0] (nB nb n :: SD n.a (begA tag tsn) :: SD n.b (begB other first) :: oP n.ab :: rP n.ab :: oP n.ba :: rP n.ba :: oM n.gB :: rMs n.gB :: oM n.gA :: rMs n.gA :: L)
      (fun v L' => ∃ n' : NP, v = .bool true ∧ n'.sent = n.sent ∧ n'.back = n.back ∧ outs n'.ab = [] ∧ outs n'.ba = [] ∧ n'.gB.l = [] ∧ n'.gA.l = [] ∧ n'.now = 0 ∧
        L' = nB nb n' :: SD n'.a (opA tag tsn other first) :: SD n'.b (opB tag tsn other first) :: oP n'.ab :: rP n'.ab :: oP n'.ba :: rP n'.ba :: oM n'.gB :: rMs n'.gB :: oM n'.gA :: rMs n'.gA :: L) := by
  rw [show begA tag tsn = rA tag tsn other first 0 from rfl, show begB other first = rB' tag tsn other first 0 from rfl]
  refine Fn.of (N := 26) Try.func18 rfl rfl ?_
  intro Xh
  refine TC.seq ?_
  refine TC.region ?_
  refine TL.val rfl rfl rfl (Y.assign rfl rfl) ?_
  refine TL.nil ?_
  refine TQ.next ?_
  refine TC.seq ?_
  refine TC.seq ?_
  refine TC.region ?_
  refine TL.val rfl rfl rfl (Y.move rfl rfl) ?_
  refine TL.nil ?_
  refine TQ.next ?_
  refine TC.block ?_
  refine TC.loopF (ι := Nat × NP) [] (fun i => i.1 ≤ 4 ∧ i.2.sent = n.sent ∧ i.2.back = n.back ∧ outs i.2.ab = rab tag tsn other first i.1 ∧ outs i.2.ba = [] ∧ i.2.gB.l = [] ∧ i.2.gA.l = [] ∧ i.2.now = 0) (fun i => [(3, some (vN i.1))]) (fun i => [nB nb i.2, SD i.2.a (rA tag tsn other first i.1), SD i.2.b (rB' tag tsn other first i.1), oP i.2.ab, rP i.2.ab, oP i.2.ba, rP i.2.ba, oM i.2.gB, rMs i.2.gB, oM i.2.gA, rMs i.2.gA]) (fun i => 4 - i.1) ((0, n)) (⟨Nat.zero_le 4, rfl, rfl, hab, hba, hgB, hgA, hnow⟩) ⟨rfl, trivial⟩ (Pulls.cons pul (Pulls.cons pul (Pulls.cons pul (Pulls.cons pul (Pulls.cons pul (Pulls.cons pul (Pulls.cons pul (Pulls.cons pul (Pulls.cons pul (Pulls.cons pul (Pulls.cons pul Pulls.nil))))))))))) ?_
  rintro ⟨k, m⟩ ⟨hk, h1, h2, h3, h4, h5, h6, h7⟩ F' L' rfl hL'
  simp only [List.cons_append, List.nil_append] at hL'
  subst hL'
  simp only at hk h1 h2 h3 h4 h5 h6 h7 ⊢
  have hr3 := r3 tag tsn other first k
  have hr4 := r4 tag tsn other first k
  have l1 : m.ab.l.length ≤ 1 := by have := rab_n tag tsn other first k; rw [← h3] at this; simpa [outs] using this
  have l2 : m.ba.l.length = 0 := by have := congrArg List.length h4; simpa [outs] using this
  refine TC.seq ?_
  refine TC.region ?_
  refine TL.val rfl rfl rfl (Y.bin rfl rfl rfl (br_ltN (n := 4))) ?_
  refine TL.nil ?_
  refine TQ.next ?_
  refine TC.seq ?_
  refine TC.cond rfl (fun c0 => ?_) (fun c0 => ?_)
  · try simp only [decide_eq_true_eq, decide_eq_false_iff_not, Bool.not_eq_true', Bool.not_eq_false', Bool.and_eq_true, Bool.or_eq_true, Nat.not_lt, Nat.not_le, beq_iff_eq, bne_iff_ne] at c0
    refine TC.skip ?_
    refine TQ.next ?_
    refine TC.seq ?_
    refine TC.block ?_
    refine TC.seq ?_
    refine TC.region ?_
    refine TL.val rfl rfl rfl (Y.move rfl rfl) ?_
    refine TL.val rfl rfl rfl (Y.buildS (cells := netArg 3 0 false (.slice none 0 0) 0) rfl rfl pl42 zc42 (by kernel_rfl)) ?_
    refine TL.eff rfl rfl rfl (X.call rfl Try.func16 (by kernel_rfl) rfl rfl (Fn.preE (by repeat first | (with_reducible apply Ent.refl) | (apply Ent.cons; case h => first | (with_reducible (repeat first | apply Pull.here | apply Pull.there); done) | (repeat first | apply Pull.here | apply Pull.there))) (step3_0 nb m (rB' tag tsn other first k) (inv_rB tag tsn other first k) (by rw [h3]; exact rab_len tag tsn other first k) (by omega) (by rw [h3, h7, hr3, l2]; have := mid_n tag tsn other first k; show 0 + (mid tag tsn other first k).length ≤ 200; omega) (by rw [h3, h7, hr3, h5]; show 0 + 0 ≤ 1000000; decide) _))) ?_
    rintro _ _ ⟨m1, q1, o1, o2, o3, rfl⟩
    rw [h3, h7, hr3] at o2 o3
    simp only at o2 o3
    rw [h3, h7, hr3]
    rw [h4, List.nil_append] at o2
    have g5 : m1.gB.l = [] := by rw [h5] at o3; exact List.map_eq_nil_iff.1 o3
    have l3 : m1.ba.l.length ≤ 1 := by have := mid_n tag tsn other first k; rw [← o2] at this; simpa [outs] using this
    have l4 : m1.ab.l.length = 0 := by rw [h3] at o1; have h9 := congrArg List.length o1; have := rab_n tag tsn other first k; rw [List.length_tail] at h9; simp [outs] at h9; omega
    have hn1 : m1.now = 0 := q1.now.trans h7
    rw [← q1.a, ← q1.gA]
    refine TL.nil ?_
    refine TQ.next ?_
    refine TC.region ?_
    refine TL.val rfl rfl rfl (Y.move rfl rfl) ?_
    refine TL.val rfl rfl rfl (Y.buildS (cells := netArg 4 0 false (.slice none 0 0) 0) rfl rfl pl42 zc42 (by kernel_rfl)) ?_
    refine TL.eff rfl rfl rfl (X.call rfl Try.func16 (by kernel_rfl) rfl rfl (Fn.preE (by repeat first | (with_reducible apply Ent.refl) | (apply Ent.cons; case h => first | (with_reducible (repeat first | apply Pull.here | apply Pull.there); done) | (repeat first | apply Pull.here | apply Pull.there))) (step4_0 nb m1 (rA tag tsn other first k) (inv_rA tag tsn other first k) (by rw [o2]; exact mid_len tag tsn other first k) (by omega) (by rw [o2, hn1, hr4, l4]; have := rab_n tag tsn other first (k + 1); show 0 + (rab tag tsn other first (k + 1)).length ≤ 200; omega) (by rw [o2, hn1, hr4, q1.gA, h6]; show 0 + 0 ≤ 1000000; decide) _))) ?_
    rintro _ _ ⟨m2, q2, u1, u2, u3, rfl⟩
    rw [o2, hn1, hr4] at u2 u3
    simp only at u2 u3
    rw [o2, hn1, hr4]
    have w1 : outs m2.ab = rab tag tsn other first (k + 1) := by rw [u2, show outs m1.ab = [] by unfold outs; rw [List.length_eq_zero_iff.1 l4]; rfl]; rfl
    have w2 : outs m2.ba = [] := by rw [u1, o2]; have := mid_n tag tsn other first k; exact List.length_eq_zero_iff.1 (by rw [List.length_tail]; omega)
    have w3 : m2.gA.l = [] := by rw [q1.gA, h6] at u3; exact List.map_eq_nil_iff.1 u3
    simp only
    rw [← q2.b, ← q2.gB]
    refine TL.nil ?_
    refine TQ.block_normal ?_
    refine TQ.next ?_
    refine TC.region ?_
    refine TL.val rfl rfl rfl (Y.bin rfl rfl rfl (br_addN (n := 1) (by omega))) ?_
    refine TL.val rfl rfl rfl (Y.move rfl rfl) ?_
    refine TL.nil ?_
    refine TQ.loopF ((k + 1, m2)) (⟨by show k + 1 ≤ 4; omega, q2.sent.trans (q1.sent.trans h1), q2.back.trans (q1.back.trans h2), w1, w2, by show m2.gB.l = []; rw [q2.gB]; exact g5, w3, q2.now.trans hn1⟩) (by show 4 - (k + 1) < 4 - k; omega) ⟨rfl, trivial⟩ (by (repeat first | apply Grow.refl | apply Grow.step | apply Grow.app)) ?_ ?_ ?_
    · kernel_rfl
    · rfl
    · simp only [List.cons_append, List.nil_append]
      exact ett
  · try simp only [decide_eq_true_eq, decide_eq_false_iff_not, Bool.not_eq_true', Bool.not_eq_false', Bool.and_eq_true, Bool.or_eq_true, Nat.not_lt, Nat.not_le, beq_iff_eq, bne_iff_ne] at c0
    obtain rfl : k = 4 := by omega
    rw [show rA tag tsn other first 4 = opA tag tsn other first from rfl, show rB' tag tsn other first 4 = opB tag tsn other first from rfl]
    refine TC.exit ?_
    refine TQ.then_exit ?_
    refine TQ.then_exit ?_
    refine TQ.block_exit ?_
    refine TQ.next ?_
    refine TC.seq ?_
    refine TC.region ?_
    refine TL.val rfl rfl rfl (Y.move rfl rfl) ?_
    refine TL.val rfl rfl rfl (Y.nilCheck rfl rfl) ?_
    refine TL.val rfl rfl rfl (by first | exact Y.fieldAddrJ rfl fo46_0 rfl nqq | exact Y.fieldAddr rfl fo46_0 rfl nqq) ?_
    refine TL.val rfl rfl rfl (Y.load rfl sc26 rfl celD) ?_
    refine TL.as (pt m.a 0) (by rfl) ?_
    refine TL.eff rfl rfl rfl (X.call rfl Try.func14 (by kernel_rfl) rfl rfl (Fn.preE (by repeat first | (with_reducible apply Ent.refl) | (apply Ent.cons; case h => first | (with_reducible (repeat first | apply Pull.here | apply Pull.there); done) | (repeat first | apply Pull.here | apply Pull.there))) (StateSD m.a (opA tag tsn other first) _))) ?_
    rintro _ _ ⟨rfl, rfl⟩
    refine TL.val rfl rfl rfl (Y.bin rfl rfl rfl (br_eqN (n := 3))) ?_
    refine TL.is true (by first | rfl | (simp only [decide_eq_true_eq, decide_eq_false_iff_not, Bool.not_eq_true', Bool.not_eq_false', Bool.not_eq_eq_eq_not, Bool.not_true, Bool.not_false, Nat.not_lt, Nat.not_le]; omega) | (simp [*]; done) | (simp; omega)) ?_
    refine TL.val rfl rfl rfl (Y.move rfl rfl) ?_
    refine TL.valG rfl rfl rfl (Y.move rfl rfl) ?_
    refine TL.valG rfl rfl rfl (Y.nilCheck rfl rfl) ?_
    refine TL.valG rfl rfl rfl (by first | exact Y.fieldAddrJ rfl fo46_1 rfl nqq | exact Y.fieldAddr rfl fo46_1 rfl nqq) ?_
    refine TL.valG rfl rfl rfl (Y.load rfl sc26 rfl celD) ?_
    refine TL.as (pt m.b 0) (by rfl) ?_
    refine TL.effG rfl rfl rfl (X.call rfl Try.func14 (by kernel_rfl) rfl rfl (Fn.preE (by repeat first | (with_reducible apply Ent.refl) | (apply Ent.cons; case h => first | (with_reducible (repeat first | apply Pull.here | apply Pull.there); done) | (repeat first | apply Pull.here | apply Pull.there))) (StateSD m.b (opB tag tsn other first) _))) ?_
    rintro _ _ ⟨rfl, rfl⟩
    refine TL.valG rfl rfl rfl (Y.bin rfl rfl rfl (br_eqN (n := 3))) ?_
    refine TL.is true (by first | rfl | (simp only [decide_eq_true_eq, decide_eq_false_iff_not, Bool.not_eq_true', Bool.not_eq_false', Bool.not_eq_eq_eq_not, Bool.not_true, Bool.not_false, Nat.not_lt, Nat.not_le]; omega) | (simp [*]; done) | (simp; omega)) ?_
    refine TL.val rfl rfl rfl (Y.pick_t rfl rfl rfl) ?_
    refine TL.val rfl rfl rfl (Y.assign rfl rfl) ?_
    refine TL.nil ?_
    refine TQ.next ?_
    refine TC.ret ?_
    refine TQ.retE (res1 rfl rfl) (⟨m, rfl, h1, h2, h3, h4, h5, h6, h7, rfl⟩) ?_
    exact ett
end
end ac
end Go.Proofs.Ytomplpdeeomehaa

/- assoc: AssocWindow, as a law. -/
namespace Go.Proofs.Ytomplpdeeomehaa
set_option linter.unusedVariables false
set_option linter.unusedSimpArgs false
open Go.RowKit
namespace ac
open wr (be16 be32)
open rd (num)
/-- what Send says and does, in numbers -/
theorem send_nums {S : PS} {k : Nat} (hs : S.state = 3) (hq : S.queue.length = min k 32) (hn : S.sent = min k 16) (m : PM) (hm : m.2.2.length ≤ 1024) (now : Int) :
    (S.sendP m now).1.state = 3 ∧ (S.sendP m now).1.queue.length = min (k + 1) 32 ∧ (S.sendP m now).1.sent = min (k + 1) 16 ∧ (S.sendP m now).2.2 = (if k < 32 then 0 else 6) ∧ (S.sendP m now).2.1.length = (if k < 16 then 1 else 0) := by
  unfold AS.sendP
  rw [if_neg (fun h => h hs), if_neg (by omega)]
  by_cases hk : k < 32
  · rw [if_neg (by omega), if_pos hk]
    obtain ⟨T, hT⟩ : ∃ T, T = S.taken m now := ⟨_, rfl⟩
    have tq : T.queue.length = S.queue.length + 1 := by rw [hT]; show (S.queue ++ [(m, false)]).length = _; rw [List.length_append]; rfl
    have ts : T.sent = S.sent := by rw [hT]; rfl
    have tst : T.state = 3 := by rw [hT]; exact hs
    rw [← hT]
    have h1 : T.more.state = T.state ∧ T.more.sent = max T.sent (min T.queue.length 16) := by unfold AS.more; split <;> exact ⟨rfl, rfl⟩
    have h2 := (more_same T).2.2.2
    refine ⟨h1.1.trans tst, ?_, ?_, rfl, ?_⟩
    · rw [h2, tq, hq]; omega
    · rw [h1.2, ts, tq, hq, hn]; omega
    · unfold AS.moreOut AS.win
      rw [List.length_map, List.length_range', ts, tq, hq, hn]
      split <;> omega
  · rw [if_pos (by omega), if_neg hk, if_neg (by omega)]
    exact ⟨hs, by show S.queue.length = _; omega, by show S.sent = _; omega, rfl, rfl⟩
def sendN (S : PS) (m : PM) : Nat → PS
  | 0 => S
  | k + 1 => ((sendN S m k).sendP m 0).1
theorem sendN_nums {S : PS} (hs : S.state = 3) (hq : S.queue.length = 0) (hn : S.sent = 0) (m : PM) (hm : m.2.2.length ≤ 1024) (k : Nat) : (sendN S m k).state = 3 ∧ (sendN S m k).queue.length = min k 32 ∧ (sendN S m k).sent = min k 16 := by
  induction k with
  | zero => exact ⟨hs, by show S.queue.length = _; omega, by show S.sent = _; omega⟩
  | succ k ih =>
    obtain ⟨h1, h2, h3⟩ := ih
    have h := send_nums h1 h2 h3 m hm 0
    exact ⟨h.1, h.2.1, h.2.2.1⟩
theorem sendN_inv {S : PS} (h : InvA S) (m : PM) (k : Nat) : InvA (sendN S m k) := by
  induction k with
  | zero => exact h
  | succ k ih => exact inv_send ih m 0
end ac
end Go.Proofs.Ytomplpdeeomehaa

/- assoc: AssocWindow, walked. -/
namespace Go.Proofs.Ytomplpdeeomehaa
set_option linter.unusedVariables false
set_option linter.unusedSimpArgs false
open Go.RowKit
namespace ac
open wr (be16 be32)
open rd (num)
namespace FxAsWj
set_option maxRecDepth 100000
theorem el23 : Elt Try.prog 23 5 1 1 (.int .u8 0) := ⟨Try.underlying23, by kernel_rfl, rfl, by decide, by simp [Value.cells, Value.oneCell']⟩
theorem fo46_0 : Program.fieldOff Try.prog 46 0 = some 0 := by kernel_rfl
theorem fo46_1 : Program.fieldOff Try.prog 46 1 = some 1 := by kernel_rfl
theorem pl51 : Program.places Try.prog 51 = some [(0, 1), (1, 1), (2, 1)] := by kernel_rfl
theorem sc26 : Program.isSc Try.prog 26 = true := by kernel_rfl
theorem zc51 : Program.zeroC Try.prog 51 = some #[.int .u16 0, .int .u32 0, .slice none 0 0] := by kernel_rfl
end FxAsWj
open FxAsWj
theorem WaitSD (b : Nat) (S : PS) (L : List SA) : Fn Try.prog 22 [pt b 0] (SD b S :: L) (fun v L' => v = vN S.queue.length ∧ L' = SD b S :: L) := by
  refine Fn.SD fun p T hT => ?_
  subst hT
  refine (Waiting_fn b p T _).mono ?_
  rintro v L' ⟨rfl, rfl⟩
  exact ⟨_, Ent.SD rfl, by rw [InvP.lenT], rfl⟩
abbrev wA : PS := opA 1 5 2 6
abbrev wB : PS := opB 1 5 2 6
abbrev wm : PM := (0, 51, [])
theorem inv_wA : InvA wA := inv_rA 1 5 2 6 2
theorem inv_wB : InvA wB := inv_rB 1 5 2 6 2
theorem sendB (z : Nat) : (wB.sendP (0, 0, List.replicate z 0) 0).2.2 = if 1024 < z then 3 else 0 := by
  unfold AS.sendP
  rw [if_neg (fun h => h rfl)]
  simp only [List.length_replicate]
  by_cases h : 1024 < z
  · rw [if_pos h, if_pos h]
  · rw [if_neg h, if_neg h, if_neg (show ¬ wB.queue.length = 32 by decide)]
set_option maxHeartbeats 4000000 in
theorem window_fn (count : UInt8) (size : Int) (L : List SA) : Fn Try.prog 8 [v8 count, vI size] L (fun v L' => v = .bool true ∧ L' = L) := by
  refine Fn.of (N := 94) Try.func8 rfl rfl ?_
  intro Xh
  refine TC.seq ?_
  refine TC.region ?_
  refine TL.val rfl rfl rfl (Y.assign rfl rfl) ?_
  refine TL.nil ?_
  refine TQ.next ?_
  refine TC.seq ?_
  refine TC.seq ?_
  refine TC.region ?_
  refine TL.eff rfl rfl rfl (X.call rfl Try.func10 (by kernel_rfl) rfl rfl (Fn.preE (by repeat first | (with_reducible apply Ent.refl) | (apply Ent.cons; case h => first | (with_reducible (repeat first | apply Pull.here | apply Pull.there); done) | (repeat first | apply Pull.here | apply Pull.there))) (ac.awake_fn _))) ?_
  rintro _ _ ⟨rfl, rfl⟩
  refine TL.val rfl rfl rfl (Y.not rfl rfl) ?_
  refine TL.nil ?_
  refine TQ.next ?_
  refine TC.cond_f rfl ?_
  refine TC.skip ?_
  refine TQ.next ?_
  refine TC.seq ?_
  refine TC.region ?_
  refine TL.eff rfl rfl rfl (X.call rfl Try.func15 (by kernel_rfl) rfl rfl (Fn.preE (by repeat first | (with_reducible apply Ent.refl) | (apply Ent.cons; case h => first | (with_reducible (repeat first | apply Pull.here | apply Pull.there); done) | (repeat first | apply Pull.here | apply Pull.there))) (begun_fn 1 5 2 6 _))) ?_
  rintro _ _ ⟨nb, n0, wa, wc, rfl, e1, e2, e3, e4, e5, e6, e7, rfl⟩
  refine TL.val rfl rfl rfl (Y.assign rfl rfl) ?_
  refine TL.nil ?_
  refine TQ.next ?_
  refine TC.seq ?_
  refine TC.seq ?_
  refine TC.region ?_
  refine TL.val rfl rfl rfl (Y.move rfl rfl) ?_
  refine TL.eff rfl rfl rfl (X.call rfl Try.func18 (by kernel_rfl) rfl rfl (Fn.preE (by repeat first | (with_reducible apply Ent.refl) | (apply Ent.cons; case h => first | (with_reducible (repeat first | apply Pull.here | apply Pull.there); done) | (repeat first | apply Pull.here | apply Pull.there))) (opened_fn 1 5 2 6 nb n0 (by unfold outs; rw [e1]; rfl) (by unfold outs; rw [e2]; rfl) e5 e6 e7 _))) ?_
  rintro _ _ ⟨n, rfl, f1, f2, f3, f4, f5, f6, f7, rfl⟩
  refine TL.val rfl rfl rfl (Y.not rfl rfl) ?_
  refine TL.nil ?_
  refine TQ.next ?_
  refine TC.cond_f rfl ?_
  refine TC.skip ?_
  refine TQ.next ?_
  refine TC.seq ?_
  refine TC.to ((Ent.nilOwn 0 1).trans Ent.freeze) ?_
  obtain ⟨m, hm⟩ : ∃ m, m = (count % 40).toNat := ⟨_, rfl⟩
  have hm40 : m < 40 := by rw [hm]; simp; omega
  refine TC.region ?_
  refine TL.val rfl rfl rfl (Y.move rfl rfl) ?_
  refine TL.val rfl rfl rfl (Y.bin rfl rfl rfl (br_rem8 (y := 40) (by decide))) ?_
  refine TL.val rfl rfl rfl (Y.conv rfl Try.underlying5 Try.underlying3 rfl (cv_8_N)) ?_
  refine TL.as (vN m) (by (rw [hm])) ?_
  refine TL.val rfl rfl rfl (Y.assign rfl rfl) ?_
  refine TL.nil ?_
  refine TQ.next ?_
  refine TC.seq ?_
  refine TC.seq ?_
  refine TC.region ?_
  refine TL.val rfl rfl rfl (Y.move rfl rfl) ?_
  refine TL.val rfl rfl rfl (Y.move rfl rfl) ?_
  refine TL.nil ?_
  refine TQ.next ?_
  refine TC.block ?_
  refine TC.loopF (ι := Nat) [4] (fun k => k ≤ m) (fun k => [(22, some (vN k))]) (fun k => [SD n.a (sendN wA wm k)]) (fun k => m - k) (0) (by omega) ⟨rfl, trivial⟩ (Pulls.cons pul Pulls.nil) ?_
  rintro k hk F' L' rfl hL'
  simp only [List.cons_append, List.nil_append] at hL'
  subst hL'
  refine TC.seq ?_
  refine TC.region ?_
  refine TL.val rfl rfl rfl (Y.bin rfl rfl rfl (br_ltN)) ?_
  refine TL.nil ?_
  refine TQ.next ?_
  refine TC.seq ?_
  refine TC.cond rfl (fun c2 => ?_) (fun c2 => ?_)
  · try simp only [decide_eq_true_eq, decide_eq_false_iff_not, Bool.not_eq_true', Bool.not_eq_false', Bool.and_eq_true, Bool.or_eq_true, Nat.not_lt, Nat.not_le, beq_iff_eq, bne_iff_ne] at c2
    refine TC.skip ?_
    refine TQ.next ?_
    refine TC.seq ?_
    refine TC.block ?_
    refine TC.seq ?_
    refine TC.region ?_
    refine TL.val rfl rfl rfl (Y.move rfl rfl) ?_
    refine TL.val rfl rfl rfl (Y.assign rfl rfl) ?_
    refine TL.nil ?_
    refine TQ.next ?_
    refine TC.seq ?_
    obtain ⟨s1, s2, s3⟩ := sendN_nums (S := wA) rfl rfl rfl wm (by decide) k
    obtain ⟨u1, u2, u3, u4, u5⟩ := send_nums s1 s2 s3 wm (by decide) 0
    refine TC.region ?_
    refine TL.val rfl rfl rfl (Y.move rfl rfl) ?_
    refine TL.val rfl rfl rfl (Y.nilCheck rfl rfl) ?_
    refine TL.val rfl rfl rfl (by first | exact Y.fieldAddrJ rfl fo46_0 rfl nqq | exact Y.fieldAddr rfl fo46_0 rfl nqq) ?_
    refine TL.val rfl rfl rfl (Y.load rfl sc26 rfl celD) ?_
    refine TL.as (pt n.a 0) (by rfl) ?_
    refine TL.val rfl rfl rfl (Y.buildS (cells := msC 0 51 (.slice none 0 0)) rfl rfl pl51 zc51 (by kernel_rfl)) ?_
    refine TL.eff rfl rfl rfl (X.call rfl Try.func19 (by kernel_rfl) rfl rfl (Fn.preE (by repeat first | (with_reducible apply Ent.refl) | (apply Ent.cons; case h => first | (with_reducible (repeat first | apply Pull.here | apply Pull.there); done) | (repeat first | apply Pull.here | apply Pull.there))) (Send_fn n.a (sendN wA wm k) (sendN_inv inv_wA wm k).toInvP 0 51 none 0 0 [] rfl (by decide) 0 _))) ?_
    rintro _ _ ⟨o, rfl, ho, rfl⟩
    rw [u4, show ((sendN wA wm k).sendP (0, 51, []) 0).1 = sendN wA wm (k + 1) from rfl]
    have hol : o.l.length = if k < 16 then 1 else 0 := by have := congrArg List.length ho; rw [← u5]; simpa using this
    refine TL.val rfl rfl rfl (Y.move rfl rfl) ?_
    refine TL.val rfl rfl rfl (Y.extract rfl rfl rfl) ?_
    refine TL.as (.slice o.a o.l.length o.cap) (by rfl) ?_
    refine TL.val rfl rfl rfl (Y.extract rfl rfl rfl) ?_
    refine TL.as (vN (if k < 32 then 0 else 6)) (by rfl) ?_
    refine TL.val rfl rfl rfl (Y.assign rfl rfl) ?_
    refine TL.val rfl rfl rfl (Y.assign rfl rfl) ?_
    refine TL.nil ?_
    refine TQ.next ?_
    refine TC.seq ?_
    refine TC.region ?_
    refine TL.val rfl rfl rfl (Y.move rfl rfl) ?_
    refine TL.val rfl rfl rfl (Y.bin rfl rfl rfl (br_eqN (n := 0))) ?_
    refine TL.val rfl rfl rfl (Y.move rfl rfl) ?_
    refine TL.val rfl rfl rfl (Y.bin rfl rfl rfl (br_ltN (n := 32))) ?_
    refine TL.val rfl rfl rfl (Y.neBool rfl Try.underlying4 rfl rfl) ?_
    refine TL.is false (by (split <;> simp_all)) ?_
    refine TL.val rfl rfl rfl (Y.move rfl rfl) ?_
    refine TL.valG rfl rfl rfl (Y.move rfl rfl) ?_
    refine TL.valG rfl rfl rfl (Y.bin rfl rfl rfl (br_neN (n := 0))) ?_
    refine TL.valG rfl rfl rfl (Y.move rfl rfl) ?_
    refine TL.case (fun g11_8 => ?_) (fun g11_8 => ?_)
    · try simp only [decide_eq_true_eq, decide_eq_false_iff_not, Bool.not_eq_true', Bool.not_eq_false', Nat.not_lt, Nat.not_le, beq_iff_eq, bne_iff_ne] at g11_8
      refine TL.valG rfl rfl rfl (Y.move rfl rfl) ?_
      refine TL.valG rfl rfl rfl (Y.bin rfl rfl rfl (br_neN (n := 6))) ?_
      refine TL.is false (by (split <;> simp_all)) ?_
      refine TL.valG rfl rfl rfl (Y.pick_t rfl rfl rfl) ?_
      refine TL.val rfl rfl rfl (Y.pick_f rfl rfl rfl) ?_
      refine TL.val rfl rfl rfl (Y.move rfl rfl) ?_
      refine TL.valG rfl rfl rfl (Y.move rfl rfl) ?_
      refine TL.valG rfl rfl rfl (Y.len rfl Try.underlying24 rfl) ?_
      refine TL.valG rfl rfl rfl (Y.bin rfl rfl rfl (br_eqN (n := 1))) ?_
      refine TL.valG rfl rfl rfl (Y.move rfl rfl) ?_
      refine TL.valG rfl rfl rfl (Y.bin rfl rfl rfl (br_ltN (n := 16))) ?_
      refine TL.valG rfl rfl rfl (Y.neBool rfl Try.underlying4 rfl rfl) ?_
      refine TL.is false (by (rw [hol]; split <;> simp_all)) ?_
      refine TL.val rfl rfl rfl (Y.pick_f rfl rfl rfl) ?_
      refine TL.nil ?_
      refine TQ.next ?_
      refine TC.cond_f rfl ?_
      refine TC.skip ?_
      refine TQ.block_normal ?_
      refine TQ.next ?_
      refine TC.region ?_
      refine TL.val rfl rfl rfl (Y.bin rfl rfl rfl (br_addN (n := 1) (by omega))) ?_
      refine TL.val rfl rfl rfl (Y.move rfl rfl) ?_
      refine TL.nil ?_
      refine TQ.loopF (k + 1) (by omega) (by omega) ⟨rfl, trivial⟩ (by (repeat first | apply Grow.refl | apply Grow.step | apply Grow.app)) ?_ ?_ ?_
      · kernel_rfl
      · rfl
      · simp only [List.cons_append, List.nil_append]
        exact ett
    · try simp only [decide_eq_true_eq, decide_eq_false_iff_not, Bool.not_eq_true', Bool.not_eq_false', Nat.not_lt, Nat.not_le, beq_iff_eq, bne_iff_ne] at g11_8
      refine TL.not rfl rfl rfl ?_
      refine TL.not rfl rfl rfl ?_
      refine TL.valG rfl rfl rfl (Y.pick_f rfl rfl rfl) ?_
      refine TL.val rfl rfl rfl (Y.pick_f rfl rfl rfl) ?_
      refine TL.val rfl rfl rfl (Y.move rfl rfl) ?_
      refine TL.valG rfl rfl rfl (Y.move rfl rfl) ?_
      refine TL.valG rfl rfl rfl (Y.len rfl Try.underlying24 rfl) ?_
      refine TL.valG rfl rfl rfl (Y.bin rfl rfl rfl (br_eqN (n := 1))) ?_
      refine TL.valG rfl rfl rfl (Y.move rfl rfl) ?_
      refine TL.valG rfl rfl rfl (Y.bin rfl rfl rfl (br_ltN (n := 16))) ?_
      refine TL.valG rfl rfl rfl (Y.neBool rfl Try.underlying4 rfl rfl) ?_
      refine TL.is false (by (rw [hol]; split <;> simp_all)) ?_
      refine TL.val rfl rfl rfl (Y.pick_f rfl rfl rfl) ?_
      refine TL.nil ?_
      refine TQ.next ?_
      refine TC.cond_f rfl ?_
      refine TC.skip ?_
      refine TQ.block_normal ?_
      refine TQ.next ?_
      refine TC.region ?_
      refine TL.val rfl rfl rfl (Y.bin rfl rfl rfl (br_addN (n := 1) (by omega))) ?_
      refine TL.val rfl rfl rfl (Y.move rfl rfl) ?_
      refine TL.nil ?_
      refine TQ.loopF (k + 1) (by omega) (by omega) ⟨rfl, trivial⟩ (by (repeat first | apply Grow.refl | apply Grow.step | apply Grow.app)) ?_ ?_ ?_
      · kernel_rfl
      · rfl
      · simp only [List.cons_append, List.nil_append]
        exact ett
  · try simp only [decide_eq_true_eq, decide_eq_false_iff_not, Bool.not_eq_true', Bool.not_eq_false', Bool.and_eq_true, Bool.or_eq_true, Nat.not_lt, Nat.not_le, beq_iff_eq, bne_iff_ne] at c2
    obtain rfl : k = m := by omega
    obtain ⟨z, hz⟩ : ∃ z, z = (size % 18446744073709551616).toNat % 3000 := ⟨_, rfl⟩
    have hz3 : z < 3000 := by rw [hz]; omega
    refine TC.exit ?_
    refine TQ.then_exit ?_
    refine TQ.then_exit ?_
    refine TQ.block_exit ?_
    refine TQ.next ?_
    refine TC.seq ?_
    refine TC.region ?_
    refine TL.val rfl rfl rfl (Y.move rfl rfl) ?_
    refine TL.val rfl rfl rfl (Y.conv (m := (((size % 18446744073709551616).toNat : Nat) : Int)) rfl Try.underlying3 Try.underlying56 rfl (by rw [wrap_u64]; omega)) ?_
    refine TL.val rfl rfl rfl (Y.bin rfl rfl rfl (br_remU (n := 3000) (by decide))) ?_
    refine TL.as (.int .u64 ((z : Nat) : Int)) (by (rw [hz])) ?_
    refine TL.val rfl rfl rfl (Y.conv rfl Try.underlying56 Try.underlying3 rfl (cv_64n_N (by omega))) ?_
    refine TL.val rfl rfl rfl (Y.assign rfl rfl) ?_
    refine TL.nil ?_
    refine TQ.next ?_
    refine TC.seq ?_
    refine TC.draws 7 [nB nb n] (by kernel_rfl) (by kernel_rfl) (by repeat first | exact holds_nil | refine holds_cons inn ?_) ?_
    refine TA.takeP 0 rfl rfl rfl rfl (by kernel_rfl) (by kernel_rfl) (by kernel_rfl) rfl (fun _ _ _ h => h) (Y.move rfl rfl) ?_
    refine TA.takeP 1 rfl rfl rfl rfl (by kernel_rfl) (by kernel_rfl) (by kernel_rfl) rfl (fun _ _ _ h => h) (Y.nilCheck rfl rfl) ?_
    refine TA.takeP 2 rfl rfl rfl rfl (by kernel_rfl) (by kernel_rfl) (by kernel_rfl) rfl (fun _ _ _ h => h) (by first | exact Y.fieldAddrJ rfl fo46_1 rfl nqq | exact Y.fieldAddr rfl fo46_1 rfl nqq) ?_
    refine TA.take 3 rfl rfl rfl rfl (by kernel_rfl) (by kernel_rfl) (by kernel_rfl) rfl (by kernel_rfl) (by kernel_rfl) (fun _ _ _ h => h) (Y.load rfl sc26 rfl celD) ?_
    refine TA.as (pt n.b 0) (by rfl) ?_
    refine TA.takeP 4 rfl rfl rfl rfl (by kernel_rfl) (by kernel_rfl) (by kernel_rfl) rfl (fun _ _ _ h => h) (Y.move rfl rfl) ?_
    refine TA.one 5 (by kernel_rfl) rfl rfl rfl rfl (X.makeSlice rfl el23 rfl rfl (by omega) (by omega) (by simp only [maxLen]; omega)) ?_
    rintro _ _ ⟨g66, rfl, rfl⟩
    rw [show (madeCells (Value.int .u8 0).cells (z * 1)).toList = (List.replicate z (0 : UInt8)).map v8 by rw [Nat.mul_one]; simp [Value.cells, madeCells_rep]]
    refine ⟨(Or.inr (by repeat first | exact holds_nil | refine holds_cons inn ?_)), ?_⟩
    refine TA.to ((Pull.ent (A := SA.owns 5 1 (.slice (some ⟨g66, 0, none⟩) z z) z ((List.replicate z (0 : UInt8)).map v8)) pul).trans Ent.freeze) ?_
    refine TA.take 6 rfl rfl rfl rfl (by kernel_rfl) (by kernel_rfl) (by kernel_rfl) rfl (by kernel_rfl) (by kernel_rfl) (fun _ _ _ h => h) (Y.buildS (cells := msC 0 0 (.slice (some ⟨g66, 0, none⟩) z z)) rfl rfl pl51 zc51 (by kernel_rfl)) ?_
    refine TA.one 7 (by kernel_rfl) rfl rfl rfl rfl (X.call rfl Try.func19 (by kernel_rfl) rfl rfl (Fn.preE (by repeat first | (with_reducible apply Ent.refl) | (apply Ent.cons; case h => first | (with_reducible (repeat first | apply Pull.here | apply Pull.there); done) | (repeat first | apply Pull.here | apply Pull.there))) (Send_fn n.b wB inv_wB.toInvP 0 0 (some ⟨g66, 0, none⟩) z z (List.replicate z 0) (by simp) (by omega) 0 _))) ?_
    rintro _ _ ⟨o, rfl, ho, rfl⟩
    rw [show (wB.sendP (0, 0, List.replicate z 0) 0).2.2 = if 1024 < z then 3 else 0 from sendB z]
    refine ⟨(Or.inl (by kernel_rfl)), ?_⟩
    refine TA.takeP 8 rfl rfl rfl rfl (by kernel_rfl) (by kernel_rfl) (by kernel_rfl) rfl (fun _ _ _ h => h) (Y.move rfl rfl) ?_
    refine TA.takeP 9 rfl rfl rfl rfl (by kernel_rfl) (by kernel_rfl) (by kernel_rfl) rfl (fun _ _ _ h => h) (Y.extract rfl rfl rfl) ?_
    refine TA.takeP 10 rfl rfl rfl rfl (by kernel_rfl) (by kernel_rfl) (by kernel_rfl) rfl (fun _ _ _ h => h) (Y.extract rfl rfl rfl) ?_
    refine TA.as (vN (if 1024 < z then 3 else 0)) (by rfl) ?_
    refine TA.takeP 11 rfl rfl rfl rfl (by kernel_rfl) (by kernel_rfl) (by kernel_rfl) rfl (fun _ _ _ h => h) (Y.assign rfl rfl) ?_
    refine TA.takeP 12 rfl rfl rfl rfl (by kernel_rfl) (by kernel_rfl) (by kernel_rfl) rfl (fun _ _ _ h => h) (Y.assign rfl rfl) ?_
    refine TA.done (by kernel_rfl) ?_
    refine TQ.next ?_
    refine TC.seq ?_
    refine TC.region ?_
    refine TL.val rfl rfl rfl (Y.move rfl rfl) ?_
    refine TL.val rfl rfl rfl (Y.nilCheck rfl rfl) ?_
    refine TL.val rfl rfl rfl (by first | exact Y.fieldAddrJ rfl fo46_0 rfl nqq | exact Y.fieldAddr rfl fo46_0 rfl nqq) ?_
    refine TL.val rfl rfl rfl (Y.load rfl sc26 rfl celD) ?_
    refine TL.as (pt n.a 0) (by rfl) ?_
    refine TL.eff rfl rfl rfl (X.call rfl Try.func22 (by kernel_rfl) rfl rfl (Fn.preE (by repeat first | (with_reducible apply Ent.refl) | (apply Ent.cons; case h => first | (with_reducible (repeat first | apply Pull.here | apply Pull.there); done) | (repeat first | apply Pull.here | apply Pull.there))) (WaitSD n.a (sendN wA wm k) _))) ?_
    rintro _ _ ⟨rfl, rfl⟩
    refine TL.val rfl rfl rfl (Y.move rfl rfl) ?_
    refine TL.val rfl rfl rfl (Y.minI (n := 32) rfl rfl rfl) ?_
    refine TL.as (vN (min k 32)) (by (show Value.int .i64 _ = Value.int .i64 _; congr 1; omega)) ?_
    refine TL.val rfl rfl rfl (Y.bin rfl rfl rfl (br_eqN)) ?_
    refine TL.is true (by (rw [(sendN_nums (S := wA) rfl rfl rfl wm (by decide) k).2.1]; simp)) ?_
    refine TL.val rfl rfl rfl (Y.move rfl rfl) ?_
    refine TL.valG rfl rfl rfl (Y.move rfl rfl) ?_
    refine TL.valG rfl rfl rfl (Y.bin rfl rfl rfl (br_eqN (n := 0))) ?_
    refine TL.valG rfl rfl rfl (Y.move rfl rfl) ?_
    refine TL.valG rfl rfl rfl (Y.bin rfl rfl rfl (br_leN (n := 1024))) ?_
    refine TL.valG rfl rfl rfl (Y.eqBool rfl Try.underlying4 rfl rfl) ?_
    refine TL.is true (by (split <;> simp_all)) ?_
    refine TL.val rfl rfl rfl (Y.pick_t rfl rfl rfl) ?_
    refine TL.val rfl rfl rfl (Y.move rfl rfl) ?_
    refine TL.valG rfl rfl rfl (Y.move rfl rfl) ?_
    refine TL.valG rfl rfl rfl (Y.bin rfl rfl rfl (br_eqN (n := 0))) ?_
    refine TL.valG rfl rfl rfl (Y.move rfl rfl) ?_
    refine TL.case (fun g16_18 => ?_) (fun g16_18 => ?_)
    · try simp only [decide_eq_true_eq, decide_eq_false_iff_not, Bool.not_eq_true', Bool.not_eq_false', Nat.not_lt, Nat.not_le, beq_iff_eq, bne_iff_ne] at g16_18
      refine TL.not rfl rfl rfl ?_
      refine TL.not rfl rfl rfl ?_
      refine TL.valG rfl rfl rfl (Y.pick_t rfl rfl rfl) ?_
      refine TL.val rfl rfl rfl (Y.pick_t rfl rfl rfl) ?_
      refine TL.val rfl rfl rfl (Y.assign rfl rfl) ?_
      refine TL.nil ?_
      refine TQ.next ?_
      refine TC.ret ?_
      refine TQ.retE (res1 rfl rfl) (⟨rfl, rfl⟩) ?_
      exact ett
    · try simp only [decide_eq_true_eq, decide_eq_false_iff_not, Bool.not_eq_true', Bool.not_eq_false', Nat.not_lt, Nat.not_le, beq_iff_eq, bne_iff_ne] at g16_18
      refine TL.valG rfl rfl rfl (Y.move rfl rfl) ?_
      refine TL.valG rfl rfl rfl (Y.bin rfl rfl rfl (br_eqN (n := 3))) ?_
      refine TL.is true (by (split <;> simp_all)) ?_
      refine TL.valG rfl rfl rfl (Y.pick_f rfl rfl rfl) ?_
      refine TL.val rfl rfl rfl (Y.pick_t rfl rfl rfl) ?_
      refine TL.val rfl rfl rfl (Y.assign rfl rfl) ?_
      refine TL.nil ?_
      refine TQ.next ?_
      refine TC.ret ?_
      refine TQ.retE (res1 rfl rfl) (⟨rfl, rfl⟩) ?_
      exact ett
end ac
end Go.Proofs.Ytomplpdeeomehaa

/- assoc: AssocWindow, opened. -/
namespace Go.Proofs.Ytomplpdeeomehaa
set_option linter.unusedVariables false
set_option linter.unusedSimpArgs false
open Go.RowKit
namespace ac
variable {W : World}
theorem window_open {a b : Int} (ha : (Lit.int .u8 a).wf = true) : Calls Try.prog 8 #[.int .u8 a, .int .i64 b] W fun e w' => e = .returned (.bool true) ∧ Fr [] W w' := by
  obtain ⟨c, hc⟩ : ∃ c : UInt8, a = (c.toNat : Int) := ⟨_, wf_u8 ha⟩
  clear ha
  subst hc
  exact Fn.topD (args := [v8 c, vI b]) (As := []) (window_fn c b [SA.old W]) (fun A hA => hA.nil_elim)
end ac
end Go.Proofs.Ytomplpdeeomehaa

/- assoc: AssocFires, as a law. -/
namespace Go.Proofs.Ytomplpdeeomehaa
set_option linter.unusedVariables false
set_option linter.unusedSimpArgs false
open Go.RowKit
namespace ac
def delayN : Nat → Int
  | 0 => 1000
  | k + 1 => min (2 * delayN k) 8000
theorem delayN_le (k : Nat) : 1000 ≤ delayN k ∧ delayN k ≤ 8000 := by
  induction k with
  | zero => decide
  | succ k ih => show 1000 ≤ min (2 * delayN k) 8000 ∧ min (2 * delayN k) 8000 ≤ 8000; omega
/-- a side that has fired k times, the last time at a moment -/
structure Fired (S : PS) (k : Nat) (t : Int) : Prop where
  state : S.state = 3
  tset : S.tset = true
  moment : S.moment = t
  clock : S.clock ≤ t + delayN k - 1
  fires : S.fires = k
  delay : S.delay = delayN k
theorem Fired.quiet {S : PS} {k : Nat} {t : Int} (h : Fired S k t) : S.tickP (t + delayN k - 1) = (S.clocked (t + delayN k - 1), []) ∧ Fired (S.clocked (t + delayN k - 1)) k t := by
  have hd := delayN_le k
  have hc : max S.clock (t + delayN k - 1) = t + delayN k - 1 := by have := h.clock; omega
  have hn : ¬ (S.clocked (t + delayN k - 1)).due := by
    rintro ⟨-, h2⟩
    refine h2 ?_
    show (max S.clock (t + delayN k - 1) - S.moment) % 18446744073709551616 < S.delay
    rw [hc, h.moment, h.delay]; omega
  refine ⟨by unfold AS.tickP; rw [if_pos hn], h.state, h.tset, h.moment, ?_, h.fires, h.delay⟩
  show max S.clock (t + delayN k - 1) ≤ _; omega
theorem Fired.due {S : PS} {k : Nat} {t w : Int} (h : Fired S k t) (h0 : 0 ≤ w) (hw : w < 500) : (S.clocked (t + delayN k + w)).due ∧ max S.clock (t + delayN k + w) = t + delayN k + w := by
  have hd := delayN_le k
  have hc : max S.clock (t + delayN k + w) = t + delayN k + w := by have := h.clock; omega
  refine ⟨⟨h.tset, ?_⟩, hc⟩
  show ¬ (max S.clock (t + delayN k + w) - S.moment) % 18446744073709551616 < S.delay
  rw [hc, h.moment, h.delay]; omega
theorem Fired.again {S : PS} {k : Nat} {t w : Int} (h : Fired S k t) (h0 : 0 ≤ w) (hw : w < 500) (hk : k ≠ 8) : (S.tickP (t + delayN k + w)).2 = S.againOut S.sent ∧ Fired (S.tickP (t + delayN k + w)).1 (k + 1) (t + delayN k + w) := by
  obtain ⟨hd, hc⟩ := h.due h0 hw
  have he : S.tickP (t + delayN k + w) = ((S.clocked (t + delayN k + w)).fired, S.againOut S.sent) := by
    unfold AS.tickP; rw [if_neg (fun x => x hd), if_neg (by rw [h.fires]; exact hk), if_neg (fun x => x h.state)]
  have h1 := delayN_le (k + 1)
  rw [he]
  refine ⟨rfl, h.state, rfl, hc, ?_, by show S.fires + 1 = k + 1; rw [h.fires], by show min (2 * S.delay) 8000 = _; rw [h.delay]; rfl⟩
  show max S.clock (t + delayN k + w) ≤ _; rw [hc]; omega
theorem Fired.last {S : PS} {t w : Int} (h : Fired S 8 t) (h0 : 0 ≤ w) (hw : w < 500) : (S.tickP (t + delayN 8 + w)).2 = [] ∧ (S.tickP (t + delayN 8 + w)).1.state = 4 := by
  obtain ⟨hd, hc⟩ := h.due h0 hw
  have he : S.tickP (t + delayN 8 + w) = ((S.clocked (t + delayN 8 + w)).over, []) := by
    unfold AS.tickP; rw [if_neg (fun x => x hd), if_pos h.fires]
  rw [he]; exact ⟨rfl, rfl⟩
/-- nothing of what is sent again is changed by the timer -/
theorem tick_again {S : PS} {k : Nat} {t w : Int} (h : Fired S k t) (h0 : 0 ≤ w) (hw : w < 500) (hk : k ≠ 8) (n : Nat) : (S.tickP (t + delayN k + w)).1.againOut n = S.againOut n ∧ (S.tickP (t + delayN k + w)).1.sent = S.sent := by
  obtain ⟨hd, hc⟩ := h.due h0 hw
  have he : S.tickP (t + delayN k + w) = ((S.clocked (t + delayN k + w)).fired, S.againOut S.sent) := by
    unfold AS.tickP; rw [if_neg (fun x => x hd), if_neg (by rw [h.fires]; exact hk), if_neg (fun x => x h.state)]
  rw [he]; exact ⟨rfl, rfl⟩
/-- one message is sent by an open side with nothing in its queue -/
theorem fires_start {S : PS} (hs : S.state = 3) (hq : S.queue = []) (hn : S.sent = 0) (ht : S.tset = false) (m : PM) (hm : m.2.2.length ≤ 1024) (t : Int) (hc : S.clock ≤ t) :
    (S.sendP m t).2.2 = 0 ∧ (S.sendP m t).2.1 = [dataB S.other (S.base + UInt32.ofNat 0) m] ∧ Fired (S.sendP m t).1 0 t ∧ (S.sendP m t).1.sent = 1 ∧ (S.sendP m t).1.againOut 1 = [dataB S.other (S.base + UInt32.ofNat 0) m] := by
  have he : S.sendP m t = ((S.taken m t).more, (S.taken m t).moreOut, 0) := by
    unfold AS.sendP; rw [if_neg (fun x => x hs), if_neg (by omega), if_neg (by rw [hq]; decide)]
  have hq1 : (S.taken m t).queue = [(m, false)] := by show S.queue ++ [(m, false)] = _; rw [hq]; rfl
  have hn1 : (S.taken m t).sent = 0 := hn
  have hw : (S.taken m t).win = [0] := by unfold AS.win; rw [hq1, hn1]; rfl
  have hmore : (S.taken m t).more = ({ S.taken m t with sent := 1 } : PS).starts := by
    unfold AS.more
    rw [hw, if_pos ⟨by simp, ht⟩, show max (S.taken m t).sent (min (S.taken m t).queue.length 16) = 1 by rw [hq1, hn1]; rfl]
  have hmx : max S.clock t = t := by omega
  rw [he]
  refine ⟨rfl, ?_, ?_, by rw [hmore]; rfl, ?_⟩
  · show (S.taken m t).moreOut = _
    unfold AS.moreOut; rw [hw]
    show [(S.taken m t).dataAt 0] = _
    unfold AS.dataAt; rw [hq1]; rfl
  · show Fired (S.taken m t).more 0 t
    rw [hmore]
    exact ⟨hs, rfl, hmx, (by show max S.clock t ≤ t + 1000 - 1; omega), rfl, rfl⟩
  · show (S.taken m t).more.againOut 1 = _
    rw [hmore]
    unfold AS.againOut AS.dataAt comeAt
    show ((List.range 1).filter fun i => !(((S.taken m t).queue[i]?).map (·.2)).getD false).map (fun i => dataB S.other (S.base + UInt32.ofNat i) ((((S.taken m t).queue[i]?).map (·.1)).getD pdef)) = _
    rw [hq1]; rfl
end ac
end Go.Proofs.Ytomplpdeeomehaa

/- assoc: AssocFires, walked. -/
namespace Go.Proofs.Ytomplpdeeomehaa
set_option linter.unusedVariables false
set_option linter.unusedSimpArgs false
open Go.RowKit
namespace ac
open wr (be16 be32)
open rd (num)
namespace FxAsFj
set_option maxRecDepth 100000
theorem el23 : Elt Try.prog 23 5 1 1 (.int .u8 0) := ⟨Try.underlying23, by kernel_rfl, rfl, by decide, by simp [Value.cells, Value.oneCell']⟩
theorem el52 : Elt Try.prog 52 2 1 8 (.int .i64 0) := ⟨Try.underlying52, by kernel_rfl, rfl, by decide, by simp [Value.cells, Value.oneCell']⟩
theorem fo46_0 : Program.fieldOff Try.prog 46 0 = some 0 := by kernel_rfl
theorem pl51 : Program.places Try.prog 51 = some [(0, 1), (1, 1), (2, 1)] := by kernel_rfl
theorem sc2 : Program.isSc Try.prog 2 = true := by kernel_rfl
theorem sc23 : Program.isSc Try.prog 23 = true := by kernel_rfl
theorem sc26 : Program.isSc Try.prog 26 = true := by kernel_rfl
theorem sl24 : Program.slI Try.prog 24 = some 1 := by kernel_rfl
theorem sl52 : Program.slI Try.prog 52 = some 1 := by kernel_rfl
theorem zc51 : Program.zeroC Try.prog 51 = some #[.int .u16 0, .int .u32 0, .slice none 0 0] := by kernel_rfl
end FxAsFj
open FxAsFj
abbrev fm : PM := (0, 51, [120])
abbrev fD : List UInt8 := dataB wA.other (wA.base + UInt32.ofNat 0) fm
theorem fires_round {S : PS} {k : Nat} {u w : Int} (hI : InvA S) (hF : Fired S k u) (ha : S.againOut 1 = [fD]) (hs : S.sent = 1) (h0 : 0 ≤ w) (hw : w < 500) (hk : k < 9) {S1 : PS} (e1 : S1 = S.clocked (u + delayN k - 1)) :
    S.tickP (u + delayN k - 1) = (S1, []) ∧ S1.state = 3 ∧ InvA S1 ∧ InvA (S1.tickP (u + delayN k + w)).1 ∧
      (k < 8 → (S1.tickP (u + delayN k + w)).2 = [fD] ∧ Fired (S1.tickP (u + delayN k + w)).1 (k + 1) (u + delayN k + w) ∧ (S1.tickP (u + delayN k + w)).1.againOut 1 = [fD] ∧ (S1.tickP (u + delayN k + w)).1.sent = 1) ∧
      (¬ k < 8 → (S1.tickP (u + delayN k + w)).2 = [] ∧ (S1.tickP (u + delayN k + w)).1.state = 4) := by
  subst e1
  obtain ⟨h1, h2⟩ := hF.quiet
  have hi := inv_clocked hI (u + delayN k - 1)
  refine ⟨h1, hF.state, hi, inv_tick hi _, fun h8 => ?_, fun h8 => ?_⟩
  · obtain ⟨g1, g2⟩ := h2.again h0 hw (by omega)
    obtain ⟨g3, g4⟩ := tick_again h2 h0 hw (by omega) 1
    have es : (S.clocked (u + delayN k - 1)).sent = 1 := hs
    have ea : (S.clocked (u + delayN k - 1)).againOut 1 = [fD] := ha
    exact ⟨by rw [g1, es, ea], g2, by rw [g3, ea], by rw [g4, es]⟩
  · obtain rfl : k = 8 := by omega
    exact h2.last h0 hw
theorem Reads.elB {s : Sl Bs} {x : Bs} (hx : x ∈ s.l) : Reads (SA.dat s) 1 (.slice x.a x.l.length x.cap) x.l.length (x.l.map v8) := fun w O R h =>
  (h ⟨1, .slice x.a x.l.length x.cap, x.l.length, x.l.map v8⟩ (List.mem_cons_of_mem _ (List.mem_flatMap.2 ⟨x, hx, List.mem_cons_self⟩))).2
theorem delay_at : ∀ k, k < 9 → ([vI 1000, vI 2000, vI 4000, vI 8000, vI 8000, vI 8000, vI 8000, vI 8000, vI 8000] : List Value)[k]? = some (vI (delayN k))
  | 0, _ => rfl
  | 1, _ => congrArg (fun x => some (vI x)) (by decide : (2000 : Int) = delayN 1)
  | 2, _ => congrArg (fun x => some (vI x)) (by decide : (4000 : Int) = delayN 2)
  | 3, _ => congrArg (fun x => some (vI x)) (by decide : (8000 : Int) = delayN 3)
  | 4, _ => congrArg (fun x => some (vI x)) (by decide : (8000 : Int) = delayN 4)
  | 5, _ => congrArg (fun x => some (vI x)) (by decide : (8000 : Int) = delayN 5)
  | 6, _ => congrArg (fun x => some (vI x)) (by decide : (8000 : Int) = delayN 6)
  | 7, _ => congrArg (fun x => some (vI x)) (by decide : (8000 : Int) = delayN 7)
  | 8, _ => congrArg (fun x => some (vI x)) (by decide : (8000 : Int) = delayN 8)
theorem Cel.ownsZ {As : List SA} {v : Value} {e sz n cap j g : Nat} {cs : List Value} (h : In (SA.owns e sz (.slice (some ⟨g, 0, none⟩) n cap) n cs) As) (hv : cs[j]? = some v) : Cel As ⟨g, j, none⟩ v := by
  have := Cel.owns h hv
  rwa [Nat.zero_add] at this
theorem Cel.dat1 {As : List SA} {s : Sl Bs} {x : Bs} {g off : Nat} (ha : s.a = some ⟨g, off, none⟩) (hl : s.l = [x]) (h : In (SA.dat s) As) : Cel As ⟨g, off, none⟩ (.slice x.a x.l.length x.cap) := by
  obtain ⟨a, cap, l⟩ := s
  simp only at ha hl
  subst ha; subst hl
  have := Cel.datAt0 (i := 0) (sz := 1) (x := x) h rfl (v := .slice x.a x.l.length x.cap) rfl
  rwa [Nat.zero_mul, Nat.add_zero] at this
theorem one_of {o : Sl Bs} {l : List UInt8} (h : o.l.map (·.l) = [l]) : ∃ x : Bs, o.l = [x] ∧ x.l = l := by
  match ho : o.l, h with
  | [], h => cases h
  | [x], h => exact ⟨x, rfl, by simpa using h⟩
  | x :: y :: r, h => cases h
set_option maxHeartbeats 4000000 in
theorem fires_fn (moment : UInt32) (wait : UInt16) (L : List SA) : Fn Try.prog 5 [v32 moment, v16 wait] L (fun v L' => v = .bool true ∧ L' = L) := by
  obtain ⟨t, ht⟩ : ∃ t : Int, t = moment.toNat := ⟨_, rfl⟩
  have ht0 : 0 ≤ t ∧ t < 4294967296 := by have := moment.toNat_lt; omega
  obtain ⟨q1, q2, q3, q4, q5⟩ := fires_start (S := wA) rfl rfl rfl rfl fm (by decide) t (by show (0 : Int) ≤ t; omega)
  obtain ⟨wt, hwt⟩ : ∃ wt : Nat, wt = (wait % 500).toNat := ⟨_, rfl⟩
  have hwt5 : wt < 500 := by rw [hwt, UInt16.toNat_mod]; exact Nat.mod_lt _ (by decide)
  refine Fn.of (N := 114) Try.func5 rfl rfl ?_
  intro Xh
  refine TC.seq ?_
  refine TC.region ?_
  refine TL.val rfl rfl rfl (Y.assign rfl rfl) ?_
  refine TL.nil ?_
  refine TQ.next ?_
  refine TC.seq ?_
  refine TC.seq ?_
  refine TC.region ?_
  refine TL.eff rfl rfl rfl (X.call rfl Try.func10 (by kernel_rfl) rfl rfl (Fn.preE (by repeat first | (with_reducible apply Ent.refl) | (apply Ent.cons; case h => first | (with_reducible (repeat first | apply Pull.here | apply Pull.there); done) | (repeat first | apply Pull.here | apply Pull.there))) (ac.awake_fn _))) ?_
  rintro _ _ ⟨rfl, rfl⟩
  refine TL.val rfl rfl rfl (Y.not rfl rfl) ?_
  refine TL.nil ?_
  refine TQ.next ?_
  refine TC.cond_f rfl ?_
  refine TC.skip ?_
  refine TQ.next ?_
  refine TC.seq ?_
  refine TC.region ?_
  refine TL.eff rfl rfl rfl (X.call rfl Try.func15 (by kernel_rfl) rfl rfl (Fn.preE (by repeat first | (with_reducible apply Ent.refl) | (apply Ent.cons; case h => first | (with_reducible (repeat first | apply Pull.here | apply Pull.there); done) | (repeat first | apply Pull.here | apply Pull.there))) (begun_fn 1 5 2 6 _))) ?_
  rintro _ _ ⟨nb, n0, wa, wc, rfl, e1, e2, e3, e4, e5, e6, e7, rfl⟩
  refine TL.val rfl rfl rfl (Y.assign rfl rfl) ?_
  refine TL.nil ?_
  refine TQ.next ?_
  refine TC.seq ?_
  refine TC.seq ?_
  refine TC.region ?_
  refine TL.val rfl rfl rfl (Y.move rfl rfl) ?_
  refine TL.eff rfl rfl rfl (X.call rfl Try.func18 (by kernel_rfl) rfl rfl (Fn.preE (by repeat first | (with_reducible apply Ent.refl) | (apply Ent.cons; case h => first | (with_reducible (repeat first | apply Pull.here | apply Pull.there); done) | (repeat first | apply Pull.here | apply Pull.there))) (opened_fn 1 5 2 6 nb n0 (by unfold outs; rw [e1]; rfl) (by unfold outs; rw [e2]; rfl) e5 e6 e7 _))) ?_
  rintro _ _ ⟨n, rfl, f1, f2, f3, f4, f5, f6, f7, rfl⟩
  refine TL.val rfl rfl rfl (Y.not rfl rfl) ?_
  refine TL.nil ?_
  refine TQ.next ?_
  refine TC.cond_f rfl ?_
  refine TC.skip ?_
  refine TQ.next ?_
  refine TC.seq ?_
  refine TC.region ?_
  refine TL.val rfl rfl rfl (Y.move rfl rfl) ?_
  refine TL.val rfl rfl rfl (Y.conv rfl Try.underlying22 Try.underlying2 rfl (cv_32_N)) ?_
  refine TL.as (vI t) (by (rw [ht])) ?_
  refine TL.val rfl rfl rfl (Y.assign rfl rfl) ?_
  refine TL.nil ?_
  refine TQ.next ?_
  refine TC.seq ?_
  refine TC.region ?_
  refine TL.val rfl rfl rfl (Y.move rfl rfl) ?_
  refine TL.val rfl rfl rfl (Y.nilCheck rfl rfl) ?_
  refine TL.val rfl rfl rfl (by first | exact Y.fieldAddrJ rfl fo46_0 rfl nqq | exact Y.fieldAddr rfl fo46_0 rfl nqq) ?_
  refine TL.val rfl rfl rfl (Y.load rfl sc26 rfl celD) ?_
  refine TL.as (pt n.a 0) (by rfl) ?_
  refine TL.eff rfl rfl rfl (X.lit rfl el23 rfl rfl rfl (by decide) rfl) ?_
  rintro _ _ ⟨g25, rfl, rfl⟩
  refine TL.eff rfl rfl rfl (X.mark rfl Try.underlying23 Try.underlying5 rfl pul) ?_
  rintro _ _ ⟨rfl, rfl⟩
  refine TL.val rfl rfl rfl (Y.buildS (cells := msC 0 51 (.slice (some ⟨g25, 0, none⟩) 1 1)) rfl rfl pl51 zc51 (by kernel_rfl)) ?_
  refine TL.val rfl rfl rfl (Y.move rfl rfl) ?_
  refine TL.eff rfl rfl rfl (X.call rfl Try.func19 (by kernel_rfl) rfl rfl (Fn.preE (by repeat first | (with_reducible apply Ent.refl) | (apply Ent.cons; case h => first | (with_reducible (repeat first | apply Pull.here | apply Pull.there); done) | (repeat first | apply Pull.here | apply Pull.there))) (Send_fn n.a wA inv_wA.toInvP 0 51 (some ⟨g25, 0, none⟩) 1 1 [120] rfl (by decide) t _))) ?_
  rintro _ _ ⟨o, rfl, ho, rfl⟩
  rw [q1]
  rw [q2] at ho
  obtain ⟨z, hz, hzl⟩ := one_of ho
  have hol : o.l.length = 1 := by rw [hz]; rfl
  refine TL.know (dat_some (a := o.a) (l := o.l) (cap := o.cap) inn (by omega)) ?_
  rintro ⟨zg, zo, hoa⟩
  refine TL.val rfl rfl rfl (Y.move rfl rfl) ?_
  refine TL.val rfl rfl rfl (Y.extract rfl rfl rfl) ?_
  refine TL.as (.slice o.a o.l.length o.cap) (by rfl) ?_
  refine TL.val rfl rfl rfl (Y.extract rfl rfl rfl) ?_
  refine TL.as (vN 0) (by rfl) ?_
  refine TL.val rfl rfl rfl (Y.assign rfl rfl) ?_
  refine TL.val rfl rfl rfl (Y.assign rfl rfl) ?_
  refine TL.nil ?_
  refine TQ.next ?_
  refine TC.seq ?_
  refine TC.seq ?_
  refine TC.region ?_
  refine TL.val rfl rfl rfl (Y.move rfl rfl) ?_
  refine TL.val rfl rfl rfl (Y.bin rfl rfl rfl (br_neN (n := 0))) ?_
  refine TL.is false (by first | rfl | (simp only [decide_eq_true_eq, decide_eq_false_iff_not, Bool.not_eq_true', Bool.not_eq_false', Bool.not_eq_eq_eq_not, Bool.not_true, Bool.not_false, Nat.not_lt, Nat.not_le]; omega) | (simp [*]; done) | (simp; omega)) ?_
  refine TL.val rfl rfl rfl (Y.move rfl rfl) ?_
  refine TL.valG rfl rfl rfl (Y.move rfl rfl) ?_
  refine TL.valG rfl rfl rfl (Y.len rfl Try.underlying24 rfl) ?_
  refine TL.valG rfl rfl rfl (Y.bin rfl rfl rfl (br_neN (n := 1))) ?_
  refine TL.is false (by (rw [hol]; rfl)) ?_
  refine TL.val rfl rfl rfl (Y.pick_f rfl rfl rfl) ?_
  refine TL.nil ?_
  refine TQ.next ?_
  refine TC.cond_f rfl ?_
  refine TC.skip ?_
  refine TQ.next ?_
  refine TC.seq ?_
  refine TC.seq ?_
  refine TC.region ?_
  refine TL.val rfl rfl rfl (Y.move rfl rfl) ?_
  refine TL.nil ?_
  refine TQ.next ?_
  refine TC.block ?_
  refine TC.loopF (ι := Nat × PS × Int) [4] (fun i => i.1 ≤ 9 ∧ InvA i.2.1 ∧ 0 ≤ i.2.2 ∧ i.2.2 ≤ 4294967296 + 9000 * (i.1 : Int) ∧ (i.1 ≤ 8 → Fired i.2.1 i.1 i.2.2 ∧ i.2.1.againOut 1 = [fD] ∧ i.2.1.sent = 1)) (fun i => [(39, some (vN i.1)), (6, some (vI i.2.2))]) (fun i => [SD n.a i.2.1]) (fun i => 9 - i.1) ((0, (wA.sendP (0, 51, [120]) t).1, t)) (⟨Nat.zero_le 9, inv_send inv_wA _ _, ht0.1, by show t ≤ _; omega, fun _ => ⟨q3, q5, q4⟩⟩) ⟨rfl, rfl, trivial⟩ (Pulls.cons pul Pulls.nil) ?_
  rintro ⟨k, S, u⟩ ⟨hk, hI, hu0, hu1, hF⟩ F' L' rfl hL'
  simp only [List.cons_append, List.nil_append] at hL'
  subst hL'
  simp only at hk hI hu0 hu1 hF ⊢
  have hdl := delayN_le k
  refine TC.seq ?_
  refine TC.region ?_
  refine TL.val rfl rfl rfl (Y.bin rfl rfl rfl (br_ltN (n := 9))) ?_
  refine TL.nil ?_
  refine TQ.next ?_
  refine TC.seq ?_
  refine TC.cond rfl (fun c3 => ?_) (fun c3 => ?_)
  · try simp only [decide_eq_true_eq, decide_eq_false_iff_not, Bool.not_eq_true', Bool.not_eq_false', Bool.and_eq_true, Bool.or_eq_true, Nat.not_lt, Nat.not_le, beq_iff_eq, bne_iff_ne] at c3
    obtain ⟨hF, hag, hse⟩ := hF (by omega)
    obtain ⟨S1, hS1⟩ : ∃ S1, S1 = S.clocked (u + delayN k - 1) := ⟨_, rfl⟩
    obtain ⟨r1, r2, r3, r4, r5, r6⟩ := fires_round (w := (wt : Int)) hI hF hag hse (by omega) (by omega) (by omega) hS1
    refine TC.skip ?_
    refine TQ.next ?_
    refine TC.seq ?_
    refine TC.block ?_
    refine TC.seq ?_
    refine TC.region ?_
    refine TL.val rfl rfl rfl (Y.move rfl rfl) ?_
    refine TL.val rfl rfl rfl (Y.assign rfl rfl) ?_
    refine TL.nil ?_
    refine TQ.next ?_
    refine TC.seq ?_
    refine TC.region ?_
    refine TL.eff rfl rfl rfl (X.lit rfl el52 rfl rfl rfl (by decide) rfl) ?_
    rintro _ _ ⟨g42, rfl, rfl⟩
    refine TL.val rfl rfl rfl (Y.move rfl rfl) ?_
    refine TL.val rfl rfl rfl (by first | exact Y.indexSlB rfl sl52 rfl rfl (by omega) nqq | exact Y.indexSl rfl sl52 rfl rfl (by omega) nqq) ?_
    refine TL.val rfl rfl rfl (Y.load rfl sc2 rfl (Cel.ownsZ inn (delay_at k (by omega)))) ?_
    refine TL.as (vI (delayN k)) (by rfl) ?_
    refine TL.val rfl rfl rfl (Y.assign rfl rfl) ?_
    refine TL.nil ?_
    refine TQ.next ?_
    refine TC.seq ?_
    refine TC.seq ?_
    refine TC.region ?_
    refine TL.val rfl rfl rfl (Y.move rfl rfl) ?_
    refine TL.val rfl rfl rfl (Y.nilCheck rfl rfl) ?_
    refine TL.val rfl rfl rfl (by first | exact Y.fieldAddrJ rfl fo46_0 rfl nqq | exact Y.fieldAddr rfl fo46_0 rfl nqq) ?_
    refine TL.val rfl rfl rfl (Y.load rfl sc26 rfl celD) ?_
    refine TL.as (pt n.a 0) (by rfl) ?_
    refine TL.val rfl rfl rfl (Y.move rfl rfl) ?_
    refine TL.val rfl rfl rfl (Y.move rfl rfl) ?_
    refine TL.val rfl rfl rfl (Y.bin rfl rfl rfl (br_addI (by omega) (by omega))) ?_
    refine TL.val rfl rfl rfl (Y.bin rfl rfl rfl (br_subI (n := 1) (by omega) (by omega))) ?_
    refine TL.eff rfl rfl rfl (X.call rfl Try.func20 (by kernel_rfl) rfl rfl (Fn.preE (by repeat first | (with_reducible apply Ent.refl) | (apply Ent.cons; case h => first | (with_reducible (repeat first | apply Pull.here | apply Pull.there); done) | (repeat first | apply Pull.here | apply Pull.there))) (Tick_fn n.a S hI.toInvP (u + delayN k - 1) _))) ?_
    rintro _ _ ⟨o1, rfl, ho1, rfl⟩
    rw [r1] at ho1 ⊢
    have hol1 : o1.l.length = 0 := by have := congrArg List.length ho1; simpa using this
    simp only
    refine TL.val rfl rfl rfl (Y.len rfl Try.underlying24 rfl) ?_
    refine TL.as (vN 0) (by (show Value.int .i64 _ = _; rw [hol1])) ?_
    refine TL.val rfl rfl rfl (Y.bin rfl rfl rfl (br_neN (n := 0))) ?_
    refine TL.is false (by first | rfl | (simp only [decide_eq_true_eq, decide_eq_false_iff_not, Bool.not_eq_true', Bool.not_eq_false', Bool.not_eq_eq_eq_not, Bool.not_true, Bool.not_false, Nat.not_lt, Nat.not_le]; omega) | (simp [*]; done) | (simp; omega)) ?_
    refine TL.val rfl rfl rfl (Y.move rfl rfl) ?_
    refine TL.valG rfl rfl rfl (Y.move rfl rfl) ?_
    refine TL.valG rfl rfl rfl (Y.nilCheck rfl rfl) ?_
    refine TL.valG rfl rfl rfl (by first | exact Y.fieldAddrJ rfl fo46_0 rfl nqq | exact Y.fieldAddr rfl fo46_0 rfl nqq) ?_
    refine TL.valG rfl rfl rfl (Y.load rfl sc26 rfl celD) ?_
    refine TL.as (pt n.a 0) (by rfl) ?_
    refine TL.effG rfl rfl rfl (X.call rfl Try.func14 (by kernel_rfl) rfl rfl (Fn.preE (by repeat first | (with_reducible apply Ent.refl) | (apply Ent.cons; case h => first | (with_reducible (repeat first | apply Pull.here | apply Pull.there); done) | (repeat first | apply Pull.here | apply Pull.there))) (StateSD n.a S1 _))) ?_
    rintro _ _ ⟨rfl, rfl⟩
    refine TL.valG rfl rfl rfl (Y.bin rfl rfl rfl (br_neN (n := 3))) ?_
    refine TL.is false (by (rw [r2]; rfl)) ?_
    refine TL.val rfl rfl rfl (Y.pick_f rfl rfl rfl) ?_
    refine TL.nil ?_
    refine TQ.next ?_
    refine TC.cond_f rfl ?_
    refine TC.skip ?_
    refine TQ.next ?_
    refine TC.seq ?_
    refine TC.region ?_
    refine TL.val rfl rfl rfl (Y.move rfl rfl) ?_
    refine TL.val rfl rfl rfl (Y.move rfl rfl) ?_
    refine TL.val rfl rfl rfl (Y.bin rfl rfl rfl (br_addI (by omega) (by omega))) ?_
    refine TL.val rfl rfl rfl (Y.move rfl rfl) ?_
    refine TL.val rfl rfl rfl (Y.bin rfl rfl rfl (br_rem16 (y := 500) (by decide))) ?_
    refine TL.val rfl rfl rfl (Y.conv rfl Try.underlying40 Try.underlying2 rfl (cv_16_N)) ?_
    refine TL.as (vI (wt : Int)) (by (rw [hwt])) ?_
    refine TL.val rfl rfl rfl (Y.bin rfl rfl rfl (br_addI (by omega) (by omega))) ?_
    refine TL.val rfl rfl rfl (Y.assign rfl rfl) ?_
    refine TL.nil ?_
    refine TQ.next ?_
    refine TC.seq ?_
    refine TC.region ?_
    refine TL.val rfl rfl rfl (Y.move rfl rfl) ?_
    refine TL.val rfl rfl rfl (Y.nilCheck rfl rfl) ?_
    refine TL.val rfl rfl rfl (by first | exact Y.fieldAddrJ rfl fo46_0 rfl nqq | exact Y.fieldAddr rfl fo46_0 rfl nqq) ?_
    refine TL.val rfl rfl rfl (Y.load rfl sc26 rfl celD) ?_
    refine TL.as (pt n.a 0) (by rfl) ?_
    refine TL.val rfl rfl rfl (Y.move rfl rfl) ?_
    refine TL.eff rfl rfl rfl (X.call rfl Try.func20 (by kernel_rfl) rfl rfl (Fn.preE (by repeat first | (with_reducible apply Ent.refl) | (apply Ent.cons; case h => first | (with_reducible (repeat first | apply Pull.here | apply Pull.there); done) | (repeat first | apply Pull.here | apply Pull.there))) (Tick_fn n.a S1 r3.toInvP (u + delayN k + (wt : Int)) _))) ?_
    rintro _ _ ⟨o2, rfl, ho2, rfl⟩
    obtain ⟨S2, hS2⟩ : ∃ S2, S2 = (S1.tickP (u + delayN k + (wt : Int))).1 := ⟨_, rfl⟩
    rw [← hS2] at r4 r5 r6 ⊢
    refine TL.val rfl rfl rfl (Y.assign rfl rfl) ?_
    refine TL.as (.slice o2.a o2.l.length o2.cap) (by rfl) ?_
    refine TL.nil ?_
    refine TQ.next ?_
    refine TC.seq ?_
    have hl8 : ¬ k < 8 → o2.l.length = 0 := fun h => by rw [(r6 h).1] at ho2; have := congrArg List.length ho2; simpa using this
    have hx8 : ∃ x : Bs, k < 8 → o2.l = [x] ∧ x.l = fD := by
      by_cases h : k < 8
      · rw [(r5 h).1] at ho2; obtain ⟨x, hx⟩ := one_of ho2; exact ⟨x, fun _ => hx⟩
      · exact ⟨Dat.dflt, fun h2 => absurd h2 h⟩
    obtain ⟨x, hx⟩ := hx8
    refine TC.know (φ := ∃ g off, k < 8 → o2.a = some ⟨g, off, none⟩) (fun w hw => by by_cases h : k < 8; obtain ⟨g, off, he⟩ := dat_some (a := o2.a) (l := o2.l) (cap := o2.cap) inn (by rw [(hx h).1]; exact Nat.one_pos) w hw; exact ⟨g, off, fun _ => he⟩; exact ⟨0, 0, fun h2 => absurd h2 h⟩) ?_
    rintro ⟨xg, xo, hxa⟩
    refine TC.draws 35 [nB nb n, SD n.a S2, SA.dat o2, SA.dat o] (by kernel_rfl) (by kernel_rfl) (by repeat first | exact holds_nil | refine holds_cons inn ?_) ?_
    refine TA.take 0 rfl rfl rfl rfl (by kernel_rfl) (by kernel_rfl) (by kernel_rfl) rfl (by kernel_rfl) (by kernel_rfl) (fun _ _ _ h => h) (Y.move rfl rfl) ?_
    refine TA.take 1 rfl rfl rfl rfl (by kernel_rfl) (by kernel_rfl) (by kernel_rfl) rfl (by kernel_rfl) (by kernel_rfl) (fun _ _ _ h => h) (Y.bin rfl rfl rfl (br_ltN (n := 8))) ?_
    refine TA.take 2 rfl rfl rfl rfl (by kernel_rfl) (by kernel_rfl) (by kernel_rfl) rfl (by kernel_rfl) (by kernel_rfl) (fun _ _ _ h => h) (Y.move rfl rfl) ?_
    refine TA.case (fun g18_2 => ?_) (fun g18_2 => ?_)
    · try simp only [decide_eq_true_eq, decide_eq_false_iff_not, Bool.not_eq_true', Bool.not_eq_false', Nat.not_lt, Nat.not_le, beq_iff_eq, bne_iff_ne] at g18_2
      refine TA.take 3 rfl rfl rfl rfl (by kernel_rfl) (by kernel_rfl) (by kernel_rfl) rfl (by kernel_rfl) (by kernel_rfl) (fun _ _ _ h => h) (Y.move rfl rfl) ?_
      refine TA.take 4 rfl rfl rfl rfl (by kernel_rfl) (by kernel_rfl) (by kernel_rfl) rfl (by kernel_rfl) (by kernel_rfl) (fun _ _ _ h => h) (Y.len rfl Try.underlying24 rfl) ?_
      refine TA.take 5 rfl rfl rfl rfl (by kernel_rfl) (by kernel_rfl) (by kernel_rfl) rfl (by kernel_rfl) (by kernel_rfl) (fun _ _ _ h => h) (Y.bin rfl rfl rfl (br_neN (n := 1))) ?_
      refine TA.is false (by (rw [(hx g18_2).1]; rfl)) ?_
      refine TA.take 6 rfl rfl rfl rfl (by kernel_rfl) (by kernel_rfl) (by kernel_rfl) rfl (by kernel_rfl) (by kernel_rfl) (fun _ _ _ h => h) (Y.move rfl rfl) ?_
      refine TA.take 7 rfl rfl rfl rfl (by kernel_rfl) (by kernel_rfl) (by kernel_rfl) rfl (by kernel_rfl) (by kernel_rfl) (fun _ _ _ h => h) (Y.move rfl rfl) ?_
      refine TA.as (.slice (some ⟨xg, xo, none⟩) 1 o2.cap) (by (rw [← hxa g18_2, (hx g18_2).1]; rfl)) ?_
      refine TA.take 8 rfl rfl rfl rfl (by kernel_rfl) (by kernel_rfl) (by kernel_rfl) rfl (by kernel_rfl) (by kernel_rfl) (fun _ _ _ h => h) (by first | exact Y.indexSlB (j := 0) rfl sl24 rfl rfl (by omega) nqq | exact Y.indexSl (j := 0) rfl sl24 rfl rfl (by omega) nqq) ?_
      refine TA.take 9 rfl rfl rfl rfl (by kernel_rfl) (by kernel_rfl) (by kernel_rfl) rfl (by kernel_rfl) (by kernel_rfl) (fun _ _ _ h => h) (Y.load rfl sc23 rfl (Cel.dat1 (s := o2) (hxa g18_2) (hx g18_2).1 inn)) ?_
      refine TA.as (.slice x.a x.l.length x.cap) (by rfl) ?_
      refine TA.take 10 rfl rfl rfl rfl (by kernel_rfl) (by kernel_rfl) (by kernel_rfl) rfl (by kernel_rfl) (by kernel_rfl) (fun _ _ _ h => h) (Y.str rfl Try.underlying23 Try.underlying9 Try.underlying5 rfl (Reads.elB (s := o2) (x := x) (by rw [(hx g18_2).1]; exact List.mem_singleton.2 rfl)) inn) ?_
      refine TA.as (vS (bstr fD)) (by (rw [(hx g18_2).2])) ?_
      refine TA.take 11 rfl rfl rfl rfl (by kernel_rfl) (by kernel_rfl) (by kernel_rfl) rfl (by kernel_rfl) (by kernel_rfl) (fun _ _ _ h => h) (Y.move rfl rfl) ?_
      refine TA.as (.slice (some ⟨zg, zo, none⟩) 1 o.cap) (by (rw [← hoa, hz]; rfl)) ?_
      refine TA.take 12 rfl rfl rfl rfl (by kernel_rfl) (by kernel_rfl) (by kernel_rfl) rfl (by kernel_rfl) (by kernel_rfl) (fun _ _ _ h => h) (by first | exact Y.indexSlB (j := 0) rfl sl24 rfl rfl (by omega) nqq | exact Y.indexSl (j := 0) rfl sl24 rfl rfl (by omega) nqq) ?_
      refine TA.take 13 rfl rfl rfl rfl (by kernel_rfl) (by kernel_rfl) (by kernel_rfl) rfl (by kernel_rfl) (by kernel_rfl) (fun _ _ _ h => h) (Y.load rfl sc23 rfl (Cel.dat1 (s := o) hoa hz inn)) ?_
      refine TA.as (.slice z.a z.l.length z.cap) (by rfl) ?_
      refine TA.take 14 rfl rfl rfl rfl (by kernel_rfl) (by kernel_rfl) (by kernel_rfl) rfl (by kernel_rfl) (by kernel_rfl) (fun _ _ _ h => h) (Y.str rfl Try.underlying23 Try.underlying9 Try.underlying5 rfl (Reads.elB (s := o) (x := z) (by rw [hz]; exact List.mem_singleton.2 rfl)) inn) ?_
      refine TA.as (vS (bstr fD)) (by (rw [hzl])) ?_
      refine TA.take 15 rfl rfl rfl rfl (by kernel_rfl) (by kernel_rfl) (by kernel_rfl) rfl (by kernel_rfl) (by kernel_rfl) (fun _ _ _ h => h) (Y.neB rfl rfl rfl) ?_
      refine TA.is false (by simp) ?_
      refine TA.take 16 rfl rfl rfl rfl (by kernel_rfl) (by kernel_rfl) (by kernel_rfl) rfl (by kernel_rfl) (by kernel_rfl) (fun _ _ _ h => h) (Y.pick_f rfl rfl rfl) ?_
      refine TA.take 17 rfl rfl rfl rfl (by kernel_rfl) (by kernel_rfl) (by kernel_rfl) rfl (by kernel_rfl) (by kernel_rfl) (fun _ _ _ h => h) (Y.pick_t rfl rfl rfl) ?_
      refine TA.take 18 rfl rfl rfl rfl (by kernel_rfl) (by kernel_rfl) (by kernel_rfl) rfl (by kernel_rfl) (by kernel_rfl) (fun _ _ _ h => h) (Y.move rfl rfl) ?_
      refine TA.take 19 rfl rfl rfl rfl (by kernel_rfl) (by kernel_rfl) (by kernel_rfl) rfl (by kernel_rfl) (by kernel_rfl) (fun _ _ _ h => h) (Y.move rfl rfl) ?_
      refine TA.take 20 rfl rfl rfl rfl (by kernel_rfl) (by kernel_rfl) (by kernel_rfl) rfl (by kernel_rfl) (by kernel_rfl) (fun _ _ _ h => h) (Y.bin rfl rfl rfl (br_eqN (n := 8))) ?_
      refine TA.is false (by (simp; omega)) ?_
      refine TA.take 21 rfl rfl rfl rfl (by kernel_rfl) (by kernel_rfl) (by kernel_rfl) rfl (by kernel_rfl) (by kernel_rfl) (fun _ _ _ h => h) (Y.move rfl rfl) ?_
      refine TA.not 22 rfl rfl rfl rfl (by kernel_rfl) (by kernel_rfl) (by kernel_rfl) rfl (fun _ _ _ h => h) ?_
      refine TA.not 23 rfl rfl rfl rfl (by kernel_rfl) (by kernel_rfl) (by kernel_rfl) rfl (fun _ _ _ h => h) ?_
      refine TA.not 24 rfl rfl rfl rfl (by kernel_rfl) (by kernel_rfl) (by kernel_rfl) rfl (fun _ _ _ h => h) ?_
      refine TA.not 25 rfl rfl rfl rfl (by kernel_rfl) (by kernel_rfl) (by kernel_rfl) rfl (fun _ _ _ h => h) ?_
      refine TA.not 26 rfl rfl rfl rfl (by kernel_rfl) (by kernel_rfl) (by kernel_rfl) rfl (fun _ _ _ h => h) ?_
      refine TA.not 27 rfl rfl rfl rfl (by kernel_rfl) (by kernel_rfl) (by kernel_rfl) rfl (fun _ _ _ h => h) ?_
      refine TA.not 28 rfl rfl rfl rfl (by kernel_rfl) (by kernel_rfl) (by kernel_rfl) rfl (fun _ _ _ h => h) ?_
      refine TA.not 29 rfl rfl rfl rfl (by kernel_rfl) (by kernel_rfl) (by kernel_rfl) rfl (fun _ _ _ h => h) ?_
      refine TA.not 30 rfl rfl rfl rfl (by kernel_rfl) (by kernel_rfl) (by kernel_rfl) rfl (fun _ _ _ h => h) ?_
      refine TA.not 31 rfl rfl rfl rfl (by kernel_rfl) (by kernel_rfl) (by kernel_rfl) rfl (fun _ _ _ h => h) ?_
      refine TA.not 32 rfl rfl rfl rfl (by kernel_rfl) (by kernel_rfl) (by kernel_rfl) rfl (fun _ _ _ h => h) ?_
      refine TA.take 33 rfl rfl rfl rfl (by kernel_rfl) (by kernel_rfl) (by kernel_rfl) rfl (by kernel_rfl) (by kernel_rfl) (fun _ _ _ h => h) (Y.pick_f rfl rfl rfl) ?_
      refine TA.take 34 rfl rfl rfl rfl (by kernel_rfl) (by kernel_rfl) (by kernel_rfl) rfl (by kernel_rfl) (by kernel_rfl) (fun _ _ _ h => h) (Y.pick_f rfl rfl rfl) ?_
      refine TA.done (by kernel_rfl) ?_
      refine TQ.next ?_
      refine TC.cond_f rfl ?_
      refine TC.skip ?_
      refine TQ.block_normal ?_
      refine TQ.next ?_
      refine TC.region ?_
      refine TL.val rfl rfl rfl (Y.bin rfl rfl rfl (br_addN (n := 1) (by omega))) ?_
      refine TL.val rfl rfl rfl (Y.move rfl rfl) ?_
      refine TL.nil ?_
      refine TQ.loopF ((k + 1, S2, u + delayN k + (wt : Int))) (⟨by show k + 1 ≤ 9; omega, r4, by show 0 ≤ u + delayN k + (wt : Int); omega, by show u + delayN k + (wt : Int) ≤ 4294967296 + 9000 * ((k + 1 : Nat) : Int); omega, fun h => (r5 (by have : k + 1 ≤ 8 := h; omega)).2⟩) (by show 9 - (k + 1) < 9 - k; omega) ⟨rfl, rfl, trivial⟩ (by (repeat first | apply Grow.refl | apply Grow.step | apply Grow.app)) ?_ ?_ ?_
      · kernel_rfl
      · rfl
      · simp only [List.cons_append, List.nil_append]
        exact ett
    · try simp only [decide_eq_true_eq, decide_eq_false_iff_not, Bool.not_eq_true', Bool.not_eq_false', Nat.not_lt, Nat.not_le, beq_iff_eq, bne_iff_ne] at g18_2
      refine TA.not 3 rfl rfl rfl rfl (by kernel_rfl) (by kernel_rfl) (by kernel_rfl) rfl (fun _ _ _ h => h) ?_
      refine TA.not 4 rfl rfl rfl rfl (by kernel_rfl) (by kernel_rfl) (by kernel_rfl) rfl (fun _ _ _ h => h) ?_
      refine TA.not 5 rfl rfl rfl rfl (by kernel_rfl) (by kernel_rfl) (by kernel_rfl) rfl (fun _ _ _ h => h) ?_
      refine TA.not 6 rfl rfl rfl rfl (by kernel_rfl) (by kernel_rfl) (by kernel_rfl) rfl (fun _ _ _ h => h) ?_
      refine TA.not 7 rfl rfl rfl rfl (by kernel_rfl) (by kernel_rfl) (by kernel_rfl) rfl (fun _ _ _ h => h) ?_
      refine TA.not 8 rfl rfl rfl rfl (by kernel_rfl) (by kernel_rfl) (by kernel_rfl) rfl (fun _ _ _ h => h) ?_
      refine TA.not 9 rfl rfl rfl rfl (by kernel_rfl) (by kernel_rfl) (by kernel_rfl) rfl (fun _ _ _ h => h) ?_
      refine TA.not 10 rfl rfl rfl rfl (by kernel_rfl) (by kernel_rfl) (by kernel_rfl) rfl (fun _ _ _ h => h) ?_
      refine TA.not 11 rfl rfl rfl rfl (by kernel_rfl) (by kernel_rfl) (by kernel_rfl) rfl (fun _ _ _ h => h) ?_
      refine TA.not 12 rfl rfl rfl rfl (by kernel_rfl) (by kernel_rfl) (by kernel_rfl) rfl (fun _ _ _ h => h) ?_
      refine TA.not 13 rfl rfl rfl rfl (by kernel_rfl) (by kernel_rfl) (by kernel_rfl) rfl (fun _ _ _ h => h) ?_
      refine TA.not 14 rfl rfl rfl rfl (by kernel_rfl) (by kernel_rfl) (by kernel_rfl) rfl (fun _ _ _ h => h) ?_
      refine TA.not 15 rfl rfl rfl rfl (by kernel_rfl) (by kernel_rfl) (by kernel_rfl) rfl (fun _ _ _ h => h) ?_
      refine TA.not 16 rfl rfl rfl rfl (by kernel_rfl) (by kernel_rfl) (by kernel_rfl) rfl (fun _ _ _ h => h) ?_
      refine TA.take 17 rfl rfl rfl rfl (by kernel_rfl) (by kernel_rfl) (by kernel_rfl) rfl (by kernel_rfl) (by kernel_rfl) (fun _ _ _ h => h) (Y.pick_f rfl rfl rfl) ?_
      refine TA.take 18 rfl rfl rfl rfl (by kernel_rfl) (by kernel_rfl) (by kernel_rfl) rfl (by kernel_rfl) (by kernel_rfl) (fun _ _ _ h => h) (Y.move rfl rfl) ?_
      refine TA.take 19 rfl rfl rfl rfl (by kernel_rfl) (by kernel_rfl) (by kernel_rfl) rfl (by kernel_rfl) (by kernel_rfl) (fun _ _ _ h => h) (Y.move rfl rfl) ?_
      refine TA.take 20 rfl rfl rfl rfl (by kernel_rfl) (by kernel_rfl) (by kernel_rfl) rfl (by kernel_rfl) (by kernel_rfl) (fun _ _ _ h => h) (Y.bin rfl rfl rfl (br_eqN (n := 8))) ?_
      refine TA.is true (by (simp; omega)) ?_
      refine TA.take 21 rfl rfl rfl rfl (by kernel_rfl) (by kernel_rfl) (by kernel_rfl) rfl (by kernel_rfl) (by kernel_rfl) (fun _ _ _ h => h) (Y.move rfl rfl) ?_
      refine TA.take 22 rfl rfl rfl rfl (by kernel_rfl) (by kernel_rfl) (by kernel_rfl) rfl (by kernel_rfl) (by kernel_rfl) (fun _ _ _ h => h) (Y.move rfl rfl) ?_
      refine TA.take 23 rfl rfl rfl rfl (by kernel_rfl) (by kernel_rfl) (by kernel_rfl) rfl (by kernel_rfl) (by kernel_rfl) (fun _ _ _ h => h) (Y.len rfl Try.underlying24 rfl) ?_
      refine TA.take 24 rfl rfl rfl rfl (by kernel_rfl) (by kernel_rfl) (by kernel_rfl) rfl (by kernel_rfl) (by kernel_rfl) (fun _ _ _ h => h) (Y.bin rfl rfl rfl (br_neN (n := 0))) ?_
      refine TA.is false (by (rw [hl8 (by omega)]; rfl)) ?_
      refine TA.take 25 rfl rfl rfl rfl (by kernel_rfl) (by kernel_rfl) (by kernel_rfl) rfl (by kernel_rfl) (by kernel_rfl) (fun _ _ _ h => h) (Y.move rfl rfl) ?_
      refine TA.take 26 rfl rfl rfl rfl (by kernel_rfl) (by kernel_rfl) (by kernel_rfl) rfl (by kernel_rfl) (by kernel_rfl) (fun _ _ _ h => h) (Y.move rfl rfl) ?_
      refine TA.take 27 rfl rfl rfl rfl (by kernel_rfl) (by kernel_rfl) (by kernel_rfl) rfl (by kernel_rfl) (by kernel_rfl) (fun _ _ _ h => h) (Y.nilCheck rfl rfl) ?_
      refine TA.take 28 rfl rfl rfl rfl (by kernel_rfl) (by kernel_rfl) (by kernel_rfl) rfl (by kernel_rfl) (by kernel_rfl) (fun _ _ _ h => h) (by first | exact Y.fieldAddrJ rfl fo46_0 rfl nqq | exact Y.fieldAddr rfl fo46_0 rfl nqq) ?_
      refine TA.take 29 rfl rfl rfl rfl (by kernel_rfl) (by kernel_rfl) (by kernel_rfl) rfl (by kernel_rfl) (by kernel_rfl) (fun _ _ _ h => h) (Y.load rfl sc26 rfl celD) ?_
      refine TA.as (pt n.a 0) (by rfl) ?_
      refine TA.one 30 (by kernel_rfl) rfl rfl rfl rfl (X.call rfl Try.func14 (by kernel_rfl) rfl rfl (Fn.preE (by repeat first | (with_reducible apply Ent.refl) | (apply Ent.cons; case h => first | (with_reducible (repeat first | apply Pull.here | apply Pull.there); done) | (repeat first | apply Pull.here | apply Pull.there))) (StateSD n.a S2 _))) ?_
      rintro _ _ ⟨rfl, rfl⟩
      refine ⟨(Or.inr (by repeat first | exact holds_nil | refine holds_cons inn ?_)), ?_⟩
      refine TA.take 31 rfl rfl rfl rfl (by kernel_rfl) (by kernel_rfl) (by kernel_rfl) rfl (by kernel_rfl) (by kernel_rfl) (fun _ _ _ h => h) (Y.bin rfl rfl rfl (br_neN (n := 4))) ?_
      refine TA.is false (by (rw [(r6 (by omega)).2]; rfl)) ?_
      refine TA.take 32 rfl rfl rfl rfl (by kernel_rfl) (by kernel_rfl) (by kernel_rfl) rfl (by kernel_rfl) (by kernel_rfl) (fun _ _ _ h => h) (Y.pick_f rfl rfl rfl) ?_
      refine TA.take 33 rfl rfl rfl rfl (by kernel_rfl) (by kernel_rfl) (by kernel_rfl) rfl (by kernel_rfl) (by kernel_rfl) (fun _ _ _ h => h) (Y.pick_t rfl rfl rfl) ?_
      refine TA.take 34 rfl rfl rfl rfl (by kernel_rfl) (by kernel_rfl) (by kernel_rfl) rfl (by kernel_rfl) (by kernel_rfl) (fun _ _ _ h => h) (Y.pick_f rfl rfl rfl) ?_
      refine TA.done (by kernel_rfl) ?_
      refine TQ.next ?_
      refine TC.cond_f rfl ?_
      refine TC.skip ?_
      refine TQ.block_normal ?_
      refine TQ.next ?_
      refine TC.region ?_
      refine TL.val rfl rfl rfl (Y.bin rfl rfl rfl (br_addN (n := 1) (by omega))) ?_
      refine TL.val rfl rfl rfl (Y.move rfl rfl) ?_
      refine TL.nil ?_
      refine TQ.loopF ((k + 1, S2, u + delayN k + (wt : Int))) (⟨by show k + 1 ≤ 9; omega, r4, by show 0 ≤ u + delayN k + (wt : Int); omega, by show u + delayN k + (wt : Int) ≤ 4294967296 + 9000 * ((k + 1 : Nat) : Int); omega, fun h => (r5 (by have : k + 1 ≤ 8 := h; omega)).2⟩) (by show 9 - (k + 1) < 9 - k; omega) ⟨rfl, rfl, trivial⟩ (by (repeat first | apply Grow.refl | apply Grow.step | apply Grow.app)) ?_ ?_ ?_
      · kernel_rfl
      · rfl
      · simp only [List.cons_append, List.nil_append]
        exact ett
  · try simp only [decide_eq_true_eq, decide_eq_false_iff_not, Bool.not_eq_true', Bool.not_eq_false', Bool.and_eq_true, Bool.or_eq_true, Nat.not_lt, Nat.not_le, beq_iff_eq, bne_iff_ne] at c3
    obtain rfl : k = 9 := by omega
    refine TC.exit ?_
    refine TQ.then_exit ?_
    refine TQ.then_exit ?_
    refine TQ.block_exit ?_
    refine TQ.next ?_
    refine TC.seq ?_
    refine TC.region ?_
    refine TL.val rfl rfl rfl (Y.assign rfl rfl) ?_
    refine TL.nil ?_
    refine TQ.next ?_
    refine TC.ret ?_
    refine TQ.retE (res1 rfl rfl) (⟨rfl, rfl⟩) ?_
    exact ett
end ac
end Go.Proofs.Ytomplpdeeomehaa

/- assoc: AssocFires, opened. -/
namespace Go.Proofs.Ytomplpdeeomehaa
set_option linter.unusedVariables false
set_option linter.unusedSimpArgs false
open Go.RowKit
namespace ac
variable {W : World}
theorem fires_open {a b : Int} (ha : (Lit.int .u32 a).wf = true) (hb : (Lit.int .u16 b).wf = true) : Calls Try.prog 5 #[.int .u32 a, .int .u16 b] W fun e w' => e = .returned (.bool true) ∧ Fr [] W w' := by
  obtain ⟨c, hc⟩ : ∃ c : UInt32, a = (c.toNat : Int) := ⟨_, wf_u32 ha⟩
  obtain ⟨d, hd⟩ : ∃ d : UInt16, b = (d.toNat : Int) := ⟨_, wf_u16 hb⟩
  clear ha hb
  subst hc
  subst hd
  exact Fn.topD (args := [v32 c, v16 d]) (As := []) (fires_fn c d [SA.old W]) (fun A hA => hA.nil_elim)
end ac
end Go.Proofs.Ytomplpdeeomehaa
