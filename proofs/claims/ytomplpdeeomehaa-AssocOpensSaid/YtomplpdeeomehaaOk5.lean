/- The logic and the walks, in one text with others: part 5 of 6. -/
import Derived.Test.YtomplpdeeomehaaOk4
/- assoc: the net's steps of the kinds 3 to 6, walked. -/
namespace Go.Proofs.Ytomplpdeeomehaa
set_option linter.unusedVariables false
set_option linter.unusedSimpArgs false
open Go.RowKit
namespace ac
open wr (be16 be32)
open rd (num)
open Go.Proofs.Ytomplpdeeomehaa.sha.FxShaMac Go.Proofs.Ytomplpdeeomehaa.ac.FxAsO Go.Proofs.Ytomplpdeeomehaa.ac.FxAsNet Go.Proofs.Ytomplpdeeomehaa.ac.FxAsNet4 Go.Proofs.Ytomplpdeeomehaa.ac.FxAsA Go.Proofs.Ytomplpdeeomehaa.rd.FxWireR Go.Proofs.Ytomplpdeeomehaa.ac.FxAsS Go.Proofs.Ytomplpdeeomehaa.sha.FxShaSum
theorem absN_eq {n : NP} {A B : PS} {X : PN} (h1 : A = X.A) (h2 : B = X.B) (h3 : outs n.ab = X.ab) (h4 : outs n.ba = X.ba) (h5 : n.sent.l.map pm = X.sent) (h6 : n.back.l.map pm = X.back) (h7 : n.gB.l.map pm = X.gB) (h8 : n.gA.l.map pm = X.gA) (h9 : n.now = X.now) : absN n A B = X := by
  cases X; simp only at h1 h2 h3 h4 h5 h6 h7 h8 h9
  subst h1 h2 h3 h4 h5 h6 h7 h8 h9; rfl
theorem outs_app (a : Option Addr) (c : Nat) (l m : List Bs) : outs ⟨a, c, l ++ m⟩ = l.map (·.l) ++ m.map (·.l) := List.map_append
theorem outs_erase (a : Option Addr) (c : Nat) (l : List Bs) (k : Nat) : outs ⟨a, c, l.eraseIdx k⟩ = (l.map (·.l)).eraseIdx k := by
  show (l.eraseIdx k).map (·.l) = _
  rw [List.eraseIdx_eq_take_drop_succ, List.eraseIdx_eq_take_drop_succ, List.map_append, List.map_take, List.map_drop]
theorem outs_get {s : Sl Bs} {k : Nat} {x : Bs} (h : s.l[k]? = some x) : (outs s).getD k [] = x.l := by
  unfold outs; rw [List.getD_eq_getElem?_getD, List.getElem?_map, h]; rfl
theorem handle_out (S : PS) (hS : InvA S) (now : Int) (p : List UInt8) : (S.handle now p).2.1.length ≤ 16 ∧ (S.handle now p).2.2.1.length ≤ 33 := by
  have hd : ∀ (f : Nat) (S : PS), (S.deliver f).1.length ≤ f := by
    intro f
    induction f with
    | zero => intro S; exact Nat.le_refl _
    | succ f ih =>
      intro S
      rw [AS.deliver]
      cases S.kept (S.top + 1) with
      | none => exact Nat.zero_le _
      | some m => exact Nat.succ_le_succ (ih _)
  have hm : ∀ S : PS, S.moreOut.length ≤ 16 := fun S => by unfold AS.moreOut AS.win; rw [List.length_map, List.length_range']; omega
  by_cases h8 : 8 ≤ p.length
  · rcases formed_or p h8 with hb | hF
    · rw [handle_bad (.inr hb)]; exact ⟨Nat.zero_le _, Nat.zero_le _⟩
    · rw [handle_ok hF]
      generalize S.clocked now = T
      unfold AS.handle2
      split
      · exact ⟨Nat.zero_le _, Nat.zero_le _⟩
      split
      · split
        · exact ⟨Nat.zero_le _, Nat.zero_le _⟩
        · exact ⟨by show 1 ≤ 16; decide, Nat.zero_le _⟩
      split
      · exact ⟨Nat.zero_le _, Nat.zero_le _⟩
      split
      · split
        · exact ⟨Nat.zero_le _, Nat.zero_le _⟩
        · exact ⟨by show 1 ≤ 16; decide, Nat.zero_le _⟩
      split
      · split
        · exact ⟨Nat.zero_le _, Nat.zero_le _⟩
        split
        · exact ⟨by show 1 ≤ 16; decide, Nat.zero_le _⟩
        split
        · exact ⟨Nat.zero_le _, Nat.zero_le _⟩
        · exact ⟨by show 1 ≤ 16; decide, Nat.zero_le _⟩
      split
      · split
        · exact ⟨Nat.zero_le _, Nat.zero_le _⟩
        split <;> exact ⟨Nat.zero_le _, Nat.zero_le _⟩
      split
      · exact ⟨Nat.zero_le _, Nat.zero_le _⟩
      split
      · exact ⟨Nat.zero_le _, Nat.zero_le _⟩
      split
      · exact ⟨by show 1 ≤ 16; decide, hd 33 _⟩
      · exact ⟨hm _, Nat.zero_le _⟩
  · rw [handle_bad (.inl (by omega))]; exact ⟨Nat.zero_le _, Nat.zero_le _⟩
set_option maxHeartbeats 4000000 in
theorem stp3_fn (nb : Nat) (n : NP) (A B : PS) (hF : Fits (absN n A B)) (N : Int) (k : Nat) (x : Bs) (hk : k = idxN N n.ab.l.length) (hx : n.ab.l[k]? = some x) (hxl : x.l.length ≤ 140737488351232) (d : Value) (hd1 : d.oneCell' = true) (nw : UInt16) (L : List SA) :
    Fn Try.prog 16 [pt nb 0, .agg (netArg 3 N false d nw)] (NAt nb n A B ++ L) (StepR nb (((absN n A B).pop3 k).hand3 x.l).clip (L)) := by
  obtain ⟨hn1, hn2, hn3, hn4, hn5, hn6⟩ := hF.lens
  have hnow : 0 ≤ n.now ∧ n.now ≤ 1000000000000 := hF.now
  simp only [NAt, List.cons_append, List.nil_append]
  have hkl := (List.getElem?_eq_some_iff.1 hx).1
  refine Fn.of (N := 367) Try.func16 rfl rfl ?_
  intro Xh
  refine TC.seq (TC.region ?_)
  refine TL.eff rfl rfl rfl (X.box (cs := netArg 3 N false d nw) rfl rfl rfl) ?_
  rintro _ _ ⟨b3, rfl, rfl⟩
  refine TL.nil (TQ.next ?_)
  refine TC.cutF (ι := NP × PS × PS) [] (fun i => absN i.1 i.2.1 i.2.2 = ((absN n A B).pop3 k).hand3 x.l) (fun i => []) (fun i => [nB nb i.1, SD i.1.a i.2.1, SD i.1.b i.2.2, oP i.1.ab, rP i.1.ab, oP i.1.ba, rP i.1.ba, oM i.1.sent, rMs i.1.sent, oM i.1.back, rMs i.1.back, oM i.1.gB, rMs i.1.gB, oM i.1.gA, rMs i.1.gA]) (Ao := [nB nb n, SD n.a A, SD n.b B, oP n.ab, rP n.ab, oP n.ba, rP n.ba, oM n.sent, rMs n.sent, oM n.back, rMs n.back, oM n.gB, rMs n.gB, oM n.gA, rMs n.gA]) (Pulls.cons pul (Pulls.cons pul (Pulls.cons pul (Pulls.cons pul (Pulls.cons pul (Pulls.cons pul (Pulls.cons pul (Pulls.cons pul (Pulls.cons pul (Pulls.cons pul (Pulls.cons pul (Pulls.cons pul (Pulls.cons pul (Pulls.cons pul (Pulls.cons pul Pulls.nil))))))))))))))) ?_ ?_
  · rintro L' hL'
    simp only [List.cons_append, List.nil_append] at hL'
    subst hL'
    refine TC.seq (TC.region ?_)
    refine TL.val rfl rfl rfl (by first | exact Y.fieldAddrJ rfl fo42_0 rfl nqq | exact Y.fieldAddr rfl fo42_0 rfl nqq) ?_
    refine TL.val rfl rfl rfl (Y.load rfl sc3 rfl celN) ?_
    refine TL.as (vI 3) (by rfl) ?_
    refine TL.nil (TQ.next (TC.block (TC.seq (TC.seq (TC.region ?_)))))
    refine TL.val rfl rfl rfl (Y.bin rfl rfl rfl (br_eqN (n := 1))) ?_
    refine TL.is false isf ?_
    refine TL.sg ?_
    refine TL.nil (TQ.next ?_)
    refine TC.cond_f rfl ?_
    refine TC.region ?_
    refine TL.val rfl rfl rfl (Y.bin rfl rfl rfl (br_eqN (n := 2))) ?_
    refine TL.is false isf ?_
    refine TL.sg ?_
    refine TL.nil (TQ.next ?_)
    refine TC.cond_f rfl ?_
    refine TC.seq (TC.seq (TC.region ?_))
    refine TL.val rfl rfl rfl (Y.bin rfl rfl rfl (br_eqN (n := 3))) ?_
    refine TL.is true isf ?_
    refine TL.sg ?_
    refine TL.nil (TQ.next ?_)
    refine TC.cond_t rfl ?_
    refine TC.skip (TQ.next ?_)
    refine TC.cond_t rfl ?_
    refine TC.seq (TC.seq (TC.region ?_))
    refine TL.mv ?_
    refine TL.nc ?_
    refine TL.val rfl rfl rfl (by first | exact Y.fieldAddrJ rfl fo46_2 rfl nqq | exact Y.fieldAddr rfl fo46_2 rfl nqq) ?_
    refine TL.val rfl rfl rfl (Y.load rfl sc24 rfl celD) ?_
    refine TL.as (.slice n.ab.a n.ab.l.length n.ab.cap) (by rfl) ?_
    refine TL.val rfl rfl rfl (Y.len rfl Try.underlying24 rfl) ?_
    refine TL.val rfl rfl rfl (Y.bin rfl rfl rfl (br_eqN (n := 0))) ?_
    refine TL.is false (by (simp; intro h; rw [h] at hkl; simp at hkl)) ?_
    refine TL.nil (TQ.next ?_)
    refine TC.cond_f rfl ?_
    refine TC.skip (TQ.next (TC.seq ?_))
    refine TC.draws 12 _ (by kernel_rfl) (by kernel_rfl) (fun _ h => h) ?_
    refine TA.tk 0 rfl rfl (by first | exact Y.fieldAddrJ rfl fo42_1 rfl nqq | exact Y.fieldAddr rfl fo42_1 rfl nqq) ?_
    refine TA.tk 1 rfl rfl (Y.load rfl sc3 rfl celN) ?_
    refine TA.as (vI N) (by rfl) ?_
    refine TA.tk 2 rfl rfl (Y.conv (m := (((N % 18446744073709551616).toNat : Nat) : Int)) rfl Try.underlying3 Try.underlying56 rfl (by rw [wrap_u64]; omega)) ?_
    refine TA.tk 3 rfl rfl (Y.move rfl rfl) ?_
    refine TA.tk 4 rfl rfl (Y.nilCheck rfl rfl) ?_
    refine TA.tk 5 rfl rfl (by first | exact Y.fieldAddrJ rfl fo46_2 rfl nqq | exact Y.fieldAddr rfl fo46_2 rfl nqq) ?_
    refine TA.tk 6 rfl rfl (Y.load rfl sc24 rfl celD) ?_
    refine TA.as (.slice n.ab.a n.ab.l.length n.ab.cap) (by rfl) ?_
    refine TA.tk 7 rfl rfl (Y.len rfl Try.underlying24 rfl) ?_
    refine TA.tk 8 rfl rfl (Y.conv rfl Try.underlying3 Try.underlying56 rfl (cv_N_64n (by omega))) ?_
    refine TA.tk 9 rfl rfl (Y.bin rfl rfl rfl (br_remU (by omega))) ?_
    refine TA.as (.int .u64 ((k : Nat) : Int)) (by (rw [hk]; rfl)) ?_
    refine TA.tk 10 rfl rfl (Y.conv rfl Try.underlying56 Try.underlying3 rfl (cv_64n_N (by omega))) ?_
    refine TA.tk 11 rfl rfl (Y.assign rfl rfl) ?_
    refine TA.done (by kernel_rfl) ?_
    refine TQ.next (TC.seq ?_)
    refine TC.know (reads_cap Reads.owns (a := n.ab.a) (n := n.ab.l.length) (cap := n.ab.cap) (cs := Dat.cs n.ab.l) inn) ?_
    rintro ⟨hcap0, -, -, -⟩
    refine TC.know (owns_some (a := n.ab.a) (n := n.ab.l.length) inn (by omega)) ?_
    rintro ⟨g, off, hqa⟩
    refine TC.region ?_
    refine TL.mv ?_
    refine TL.nc ?_
    refine TL.val rfl rfl rfl (by first | exact Y.fieldAddrJ rfl fo46_2 rfl nqq | exact Y.fieldAddr rfl fo46_2 rfl nqq) ?_
    refine TL.val rfl rfl rfl (Y.load rfl sc24 rfl celD) ?_
    refine TL.as (.slice (some ⟨g, off, none⟩) n.ab.l.length n.ab.cap) (by (rw [← hqa]; rfl)) ?_
    refine TL.mv ?_
    refine TL.val rfl rfl rfl (by first | exact Y.indexSlB rfl sl24 rfl rfl (by omega) nqq | exact Y.indexSl rfl sl24 rfl rfl (by omega) nqq) ?_
    refine TL.val rfl rfl rfl (Y.load rfl sc23 rfl (Cel.atS (A := SA.owns 23 1 (.slice (some ⟨g, off, none⟩) n.ab.l.length n.ab.cap) n.ab.l.length (Dat.cs n.ab.l)) Reads.owns (by rw [← hqa]; exact inn) hx rfl)) ?_
    refine TL.as (.slice x.a x.l.length x.cap) (by rfl) ?_
    refine TL.sg ?_
    refine TL.nil (TQ.next (TC.seq (TC.seq (TC.region ?_))))
    refine TL.val rfl rfl rfl (by first | exact Y.fieldAddrJ rfl fo42_2 rfl nqq | exact Y.fieldAddr rfl fo42_2 rfl nqq) ?_
    refine TL.val rfl rfl rfl (Y.load rfl sc4 rfl celD) ?_
    refine TL.as (.bool false) (by rfl) ?_
    refine TL.val rfl rfl rfl (Y.not rfl rfl) ?_
    refine TL.is true isf ?_
    refine TL.mv ?_
    refine TL.not rfl rfl rfl ?_
    refine TL.not rfl rfl rfl ?_
    refine TL.not rfl rfl rfl ?_
    refine TL.val rfl rfl rfl (Y.pick_t rfl rfl rfl) ?_
    refine TL.nil (TQ.next ?_)
    refine TC.cond_t rfl ?_
    refine TC.draws 19 [nB nb n, oP n.ab] (by kernel_rfl) (by kernel_rfl) hld ?_
    refine TA.tk 0 rfl rfl (Y.move rfl rfl) ?_
    refine TA.tk 2 rfl rfl (Y.move rfl rfl) ?_
    refine TA.tk 3 rfl rfl (Y.nilCheck rfl rfl) ?_
    refine TA.tk 4 rfl rfl (by first | exact Y.fieldAddrJ rfl fo46_2 rfl nqq | exact Y.fieldAddr rfl fo46_2 rfl nqq) ?_
    refine TA.tk 5 rfl rfl (Y.load rfl sc24 rfl celD) ?_
    refine TA.as (.slice n.ab.a n.ab.l.length n.ab.cap) (by rfl) ?_
    refine TA.tk 6 rfl rfl (Y.move rfl rfl) ?_
    refine TA.tk 7 rfl rfl (Y.sliceHi2 (sz := 1) rfl Try.underlying24 (by kernel_rfl) rfl rfl (by omega)) ?_
    refine TA.tk 9 rfl rfl (Y.move rfl rfl) ?_
    refine TA.tk 10 rfl rfl (Y.nilCheck rfl rfl) ?_
    refine TA.tk 11 rfl rfl (by first | exact Y.fieldAddrJ rfl fo46_2 rfl nqq | exact Y.fieldAddr rfl fo46_2 rfl nqq) ?_
    refine TA.tk 12 rfl rfl (Y.load rfl sc24 rfl celD) ?_
    refine TA.as (.slice n.ab.a n.ab.l.length n.ab.cap) (by rfl) ?_
    refine TA.tk 13 rfl rfl (Y.move rfl rfl) ?_
    refine TA.tk 14 rfl rfl (Y.bin rfl rfl rfl (br_addN (n := 1) (by omega))) ?_
    refine TA.tk 15 rfl rfl (Y.sliceLo rfl Try.underlying24 sz23 rfl rfl (by omega)) ?_
    refine TA.one 1 (by kernel_rfl) rfl rfl rfl rfl (X.lit rfl el24 rfl rfl rfl (by decide) rfl) ?_
    rintro _ _ ⟨g147, rfl, rfl⟩
    refine ⟨(Or.inr hld), ?_⟩
    refine TA.one 8 (by kernel_rfl) rfl rfl rfl rfl (X.appendS rfl el24 rfl pul rfl (Src.reads (Reads.head (A := oP n.ab) (k := k) (n := n.ab.l.length) (cs := Dat.cs n.ab.l) Reads.owns (by omega)) Try.underlying24 inn) (by simp only [maxLen]; omega) (by omega)) ?_
    rintro _ _ ⟨a154, c154, rfl, rfl⟩
    rw [show ([] : List Value) ++ (Dat.cs n.ab.l).take (k * 1) = Dat.cs (n.ab.l.take k) by rw [Dat.cs_take]; rfl, Nat.zero_add]
    refine ⟨(Or.inr hld), ?_⟩
    refine TA.one 16 (by kernel_rfl) rfl rfl rfl rfl (X.appendS rfl el24 rfl pul rfl (Src.cut Reads.owns Try.underlying24 inn (by omega) (by omega)) (by simp only [maxLen]; omega) (by omega)) ?_
    rintro _ _ ⟨a162, c162, rfl, rfl⟩
    rw [cs_erase _ _ hkl, show k + (n.ab.l.length - (k + 1)) = (n.ab.l.eraseIdx k).length by rw [List.length_eraseIdx, if_pos hkl]; omega]
    refine ⟨(Or.inr hld), ?_⟩
    refine TA.tp 17 rfl rfl (Y.nilCheck rfl rfl) ?_
    refine TA.tk 18 rfl rfl (by first | exact Y.fieldAddrJ rfl fo46_2 rfl nqq | exact Y.fieldAddr rfl fo46_2 rfl nqq) ?_
    refine TA.one0 19 (by kernel_rfl) rfl rfl rfl (X.store (cs' := netC { n with ab := ⟨a162, c162, n.ab.l.eraseIdx k⟩ }) rfl (by kernel_rfl) rfl rfl rfl pul (by show 2 < 9; decide) rfl) ?_
    rintro _ _ rfl
    refine ⟨(Or.inl (by kernel_rfl)), ?_⟩
    refine TA.done (by kernel_rfl) ?_
    refine TQ.next (TC.seq ?_)
    refine TC.to (Ent.elP (List.mem_of_getElem? hx) pul) ?_
    refine TC.to (Ent.rdssDrop (gs := n.ab.l.flatMap Dat.g) (hs := (n.ab.l.eraseIdx k).flatMap Dat.g) pul (fun q hq => by obtain ⟨z, hz, hq⟩ := List.mem_flatMap.1 hq; exact List.mem_flatMap.2 ⟨z, List.mem_of_mem_eraseIdx hz, hq⟩)) ?_
    refine TC.region ?_
    refine TL.val rfl rfl rfl (by first | exact Y.fieldAddrJ rfl fo42_0 rfl nqq | exact Y.fieldAddr rfl fo42_0 rfl nqq) ?_
    refine TL.val rfl rfl rfl (Y.load rfl sc3 rfl celN) ?_
    refine TL.as (vI 3) (by rfl) ?_
    refine TL.val rfl rfl rfl (Y.bin rfl rfl rfl (br_eqN (n := 3))) ?_
    refine TL.is true isf ?_
    refine TL.nil (TQ.next ?_)
    refine TC.cond_t rfl ?_
    refine TC.seq ?_
    refine TC.draws 9 [nB nb { n with ab := ⟨a162, c162, n.ab.l.eraseIdx k⟩ }] (by kernel_rfl) (by kernel_rfl) hld ?_
    refine TA.tp 0 rfl rfl (Y.move rfl rfl) ?_
    refine TA.tp 1 rfl rfl (Y.nilCheck rfl rfl) ?_
    refine TA.tp 2 rfl rfl (by first | exact Y.fieldAddrJ rfl fo46_1 rfl nqq | exact Y.fieldAddr rfl fo46_1 rfl nqq) ?_
    refine TA.tk 3 rfl rfl (Y.load rfl sc26 rfl celD) ?_
    refine TA.as (pt n.b 0) (by rfl) ?_
    refine TA.tk 4 rfl rfl (Y.move rfl rfl) ?_
    refine TA.tp 5 rfl rfl (Y.move rfl rfl) ?_
    refine TA.tp 6 rfl rfl (Y.nilCheck rfl rfl) ?_
    refine TA.tp 7 rfl rfl (by first | exact Y.fieldAddrJ rfl fo46_8 rfl nqq | exact Y.fieldAddr rfl fo46_8 rfl nqq) ?_
    refine TA.tk 8 rfl rfl (Y.load rfl sc2 rfl celN) ?_
    refine TA.as (vI n.now) (by rfl) ?_
    refine TA.one 9 (by kernel_rfl) rfl rfl rfl rfl (X.cl rfl Try.func12 rfl (h := (Handle_fn n.b B hF.b.toInvP x.a x.l.length x.cap x.l rfl hxl n.now _))) ?_
    rintro _ _ ⟨o, g2, rfl, ho, hg2, rfl⟩
    obtain ⟨hz1, hz2⟩ := handle_out B hF.b n.now x.l
    have hol : o.l.length ≤ 16 := by have := congrArg List.length ho; rw [List.length_map] at this; omega
    have hgl2 : g2.l.length ≤ 33 := by have := congrArg List.length hg2; rw [List.length_map] at this; omega
    refine ⟨(Or.inl (by kernel_rfl)), ?_⟩
    refine TA.tp 10 rfl rfl (Y.move rfl rfl) ?_
    refine TA.tp 11 rfl rfl (Y.extract rfl rfl rfl) ?_
    refine TA.as (.slice o.a o.l.length o.cap) (by rfl) ?_
    refine TA.tp 12 rfl rfl (Y.extract rfl rfl rfl) ?_
    refine TA.as (.slice g2.a g2.l.length g2.cap) (by rfl) ?_
    refine TA.tp 13 rfl rfl (Y.extract rfl rfl rfl) ?_
    refine TA.tp 14 rfl rfl (Y.assign rfl rfl) ?_
    refine TA.tp 15 rfl rfl (Y.assign rfl rfl) ?_
    refine TA.tp 16 rfl rfl (Y.assign rfl rfl) ?_
    refine TA.done (by kernel_rfl) ?_
    refine TQ.next (TC.seq (TC.region ?_))
    refine TL.mv ?_
    refine TL.mv ?_
    refine TL.nc ?_
    refine TL.val rfl rfl rfl (by first | exact Y.fieldAddrJ rfl fo46_3 rfl nqq | exact Y.fieldAddr rfl fo46_3 rfl nqq) ?_
    refine TL.val rfl rfl rfl (Y.load rfl sc24 rfl celD) ?_
    refine TL.as (.slice n.ba.a n.ba.l.length n.ba.cap) (by rfl) ?_
    refine TL.mv ?_
    refine TL.eff rfl rfl rfl (X.appendS rfl el24 rfl pul rfl (Src.reads (Reads.dat (s := o)) Try.underlying24 inn) (by simp only [maxLen]; omega) (by omega)) ?_
    rintro _ _ ⟨a188, c188, rfl, rfl⟩
    rw [show Dat.cs n.ba.l ++ Dat.cs o.l = Dat.cs (n.ba.l ++ o.l) from (Dat.cs_app _ _).symm, ← List.length_append]
    refine TL.nc ?_
    refine TL.val rfl rfl rfl (by first | exact Y.fieldAddrJ rfl fo46_3 rfl nqq | exact Y.fieldAddr rfl fo46_3 rfl nqq) ?_
    refine TL.eff0 rfl rfl (X.store (cs' := netC { n with ab := ⟨a162, c162, n.ab.l.eraseIdx k⟩, ba := ⟨a188, c188, n.ba.l ++ o.l⟩ }) rfl (by kernel_rfl) rfl rfl rfl pul (by show 3 < 9; decide) rfl) ?_
    rintro _ _ rfl
    refine TL.nil (TQ.next ?_)
    refine TC.to (Ent.addAll (o := o) (ys := n.ba.l) pul pul) ?_
    refine TC.draws 10 [nB nb { n with ab := ⟨a162, c162, n.ab.l.eraseIdx k⟩, ba := ⟨a188, c188, n.ba.l ++ o.l⟩ }] (by kernel_rfl) (by kernel_rfl) hld ?_
    refine TA.tk 0 rfl rfl (Y.move rfl rfl) ?_
    refine TA.tk 1 rfl rfl (Y.move rfl rfl) ?_
    refine TA.tk 2 rfl rfl (Y.nilCheck rfl rfl) ?_
    refine TA.tk 3 rfl rfl (by first | exact Y.fieldAddrJ rfl fo46_6 rfl nqq | exact Y.fieldAddr rfl fo46_6 rfl nqq) ?_
    refine TA.tk 4 rfl rfl (Y.load rfl sc44 rfl celD) ?_
    refine TA.as (.slice n.gB.a n.gB.l.length n.gB.cap) (by rfl) ?_
    refine TA.tk 5 rfl rfl (Y.move rfl rfl) ?_
    refine TA.one 6 (by kernel_rfl) rfl rfl rfl rfl (X.cl rfl Try.func40 rfl (h := (ours_fn g2.a g2.cap g2.l (by omega) _))) ?_
    rintro _ _ ⟨oa, oc, rfl, rfl⟩
    refine ⟨(Or.inr hld), ?_⟩
    refine TA.one 7 (by kernel_rfl) rfl rfl rfl rfl (X.appendS rfl el44 rfl pul rfl (Src.reads (Reads.datM (a := oa) (cap := oc) (l := g2.l)) Try.underlying44 inn) (by simp only [maxLen]; omega) (by omega)) ?_
    rintro _ _ ⟨a198, c198, rfl, rfl⟩
    rw [show Dat.cs n.gB.l ++ Dat.cs g2.l = Dat.cs (n.gB.l ++ g2.l) from (Dat.cs_app _ _).symm, ← List.length_append]
    refine ⟨(Or.inr hld), ?_⟩
    refine TA.tp 8 rfl rfl (Y.nilCheck rfl rfl) ?_
    refine TA.tk 9 rfl rfl (by first | exact Y.fieldAddrJ rfl fo46_6 rfl nqq | exact Y.fieldAddr rfl fo46_6 rfl nqq) ?_
    refine TA.one0 10 (by kernel_rfl) rfl rfl rfl (X.store (cs' := netC { n with ab := ⟨a162, c162, n.ab.l.eraseIdx k⟩, ba := ⟨a188, c188, n.ba.l ++ o.l⟩, gB := ⟨a198, c198, n.gB.l ++ g2.l⟩ }) rfl (by kernel_rfl) rfl rfl rfl pul (by show 6 < 9; decide) rfl) ?_
    rintro _ _ rfl
    refine ⟨(Or.inl (by kernel_rfl)), ?_⟩
    refine TA.done (by kernel_rfl) ?_
    refine TQ.block_normal ?_
    refine TQ.to (Ent.addAll (o := ⟨oa, oc, g2.l⟩) (ys := n.gB.l) pul pul) ?_
    refine TQ.meetF (ι := NP × PS × PS) (I := fun i => absN i.1 i.2.1 i.2.2 = ((absN n A B).pop3 k).hand3 x.l) (C := fun (_ : NP × PS × PS) => []) (U := []) (({ n with ab := ⟨a162, c162, n.ab.l.eraseIdx k⟩, ba := ⟨a188, c188, n.ba.l ++ o.l⟩, gB := ⟨a198, c198, n.gB.l ++ g2.l⟩ }, A, (B.handle n.now x.l).1)) (absN_eq rfl rfl (outs_erase _ _ _ _) ((outs_app _ _ _ _).trans (congrArg _ ho)) rfl rfl ((List.map_append).trans (congrArg _ hg2)) rfl rfl) trivial grw ?_ ?_
    · kernel_rfl
    · simp only [List.cons_append, List.nil_append]
      exact ett
  · rintro ⟨n1, A1, B1⟩ hX1 F' L' rfl hL'
    simp only [List.cons_append, List.nil_append] at hL'
    subst hL'
    simp only at hX1 ⊢
    refine TC.cutF (ι := Unit) [] (fun _ => True) (fun _ => []) (fun _ => [nB nb { n1 with ab := clipS n1.ab }, oP (clipS n1.ab), rP (clipS n1.ab)]) (Ao := [nB nb n1, oP n1.ab, rP n1.ab]) (Pulls.cons pul (Pulls.cons pul (Pulls.cons pul Pulls.nil))) ?_ ?_
    · rintro L' hL'
      simp only [List.cons_append, List.nil_append] at hL'
      subst hL'
      refine TC.seq (TC.region ?_)
      refine TL.mv ?_
      refine TL.nc ?_
      refine TL.val rfl rfl rfl (by first | exact Y.fieldAddrJ rfl fo46_2 rfl nqq | exact Y.fieldAddr rfl fo46_2 rfl nqq) ?_
      refine TL.val rfl rfl rfl (Y.load rfl sc24 rfl celD) ?_
      refine TL.as (.slice n1.ab.a n1.ab.l.length n1.ab.cap) (by rfl) ?_
      refine TL.val rfl rfl rfl (Y.len rfl Try.underlying24 rfl) ?_
      refine TL.val rfl rfl rfl (Y.bin rfl rfl rfl (br_gtN (n := 200))) ?_
      refine TL.nil (TQ.next ?_)
      refine TC.cond rfl (fun c7 => ?_) (fun c7 => ?_)
      · try simp only [zA, zB, zC, zD, zE, zF, zG, zH, zI, zJ] at c7
        refine TC.know (reads_cap Reads.owns (a := n1.ab.a) (n := n1.ab.l.length) (cap := n1.ab.cap) (cs := Dat.cs n1.ab.l) inn) ?_
        rintro ⟨hcap, -, -, -⟩
        refine TC.region ?_
        refine TL.mv ?_
        refine TL.mv ?_
        refine TL.nc ?_
        refine TL.val rfl rfl rfl (by first | exact Y.fieldAddrJ rfl fo46_2 rfl nqq | exact Y.fieldAddr rfl fo46_2 rfl nqq) ?_
        refine TL.val rfl rfl rfl (Y.load rfl sc24 rfl celD) ?_
        refine TL.as (.slice n1.ab.a n1.ab.l.length n1.ab.cap) (by rfl) ?_
        refine TL.val rfl rfl rfl (Y.sliceHi2 (k := 200) rfl Try.underlying24 sz23 rfl rfl (by omega)) ?_
        refine TL.as (.slice n1.ab.a (n1.ab.l.take 200).length n1.ab.cap) (by (rw [List.length_take, Nat.min_eq_left (by omega)])) ?_
        refine TL.nc ?_
        refine TL.val rfl rfl rfl (by first | exact Y.fieldAddrJ rfl fo46_2 rfl nqq | exact Y.fieldAddr rfl fo46_2 rfl nqq) ?_
        refine TL.eff0 rfl rfl (X.store (cs' := netC { n1 with ab := clipS n1.ab }) rfl (by kernel_rfl) rfl rfl rfl pul (by show 2 < 9; decide) rfl) ?_
        rintro _ _ rfl
        refine TL.nil ?_
        refine TQ.to (Ent.clipO (s := n1.ab) pul pul (by omega) hcap) ?_
        refine TQ.meetF (ι := Unit) (I := fun _ => True) (C := fun (_ : Unit) => []) (U := []) (()) (trivial) trivial grw ?_ ?_
        · kernel_rfl
        · simp only [List.cons_append, List.nil_append]
          exact (by first | (rw [hcl, hcm]; exact ett) | exact ett)
      · try simp only [zA, zB, zC, zD, zE, zF, zG, zH, zI, zJ] at c7
        have hcl : ({ n1 with ab := clipS n1.ab } : NP) = n1 := by rw [clipS_id (by omega)]
        have hcm : clipS n1.ab = n1.ab := clipS_id (by omega)
        refine TC.skip ?_
        refine TQ.meetF (ι := Unit) (I := fun _ => True) (C := fun (_ : Unit) => []) (U := []) (()) (trivial) trivial grw ?_ ?_
        · kernel_rfl
        · simp only [List.cons_append, List.nil_append]
          exact (by first | (rw [hcl, hcm]; exact ett) | exact ett)
    · rintro ⟨⟩ - F' L' rfl hL'
      simp only [List.cons_append, List.nil_append] at hL'
      subst hL'
      refine TC.seq (TC.region ?_)
      refine TL.mv ?_
      refine TL.nc ?_
      refine TL.val rfl rfl rfl (by first | exact Y.fieldAddrJ rfl fo46_3 rfl nqq | exact Y.fieldAddr rfl fo46_3 rfl nqq) ?_
      refine TL.val rfl rfl rfl (Y.load rfl sc24 rfl celD) ?_
      refine TL.as (.slice n1.ba.a n1.ba.l.length n1.ba.cap) (by rfl) ?_
      refine TL.val rfl rfl rfl (Y.len rfl Try.underlying24 rfl) ?_
      refine TL.val rfl rfl rfl (Y.bin rfl rfl rfl (br_gtN (n := 200))) ?_
      refine TL.nil (TQ.next ?_)
      refine TC.cond rfl (fun c8 => ?_) (fun c8 => ?_)
      · try simp only [zA, zB, zC, zD, zE, zF, zG, zH, zI, zJ] at c8
        refine TC.know (reads_cap Reads.owns (a := n1.ba.a) (n := n1.ba.l.length) (cap := n1.ba.cap) (cs := Dat.cs n1.ba.l) inn) ?_
        rintro ⟨hcap, -, -, -⟩
        refine TC.region ?_
        refine TL.mv ?_
        refine TL.mv ?_
        refine TL.nc ?_
        refine TL.val rfl rfl rfl (by first | exact Y.fieldAddrJ rfl fo46_3 rfl nqq | exact Y.fieldAddr rfl fo46_3 rfl nqq) ?_
        refine TL.val rfl rfl rfl (Y.load rfl sc24 rfl celD) ?_
        refine TL.as (.slice n1.ba.a n1.ba.l.length n1.ba.cap) (by rfl) ?_
        refine TL.val rfl rfl rfl (Y.sliceHi2 (k := 200) rfl Try.underlying24 sz23 rfl rfl (by omega)) ?_
        refine TL.as (.slice n1.ba.a (n1.ba.l.take 200).length n1.ba.cap) (by (rw [List.length_take, Nat.min_eq_left (by omega)])) ?_
        refine TL.nc ?_
        refine TL.val rfl rfl rfl (by first | exact Y.fieldAddrJ rfl fo46_3 rfl nqq | exact Y.fieldAddr rfl fo46_3 rfl nqq) ?_
        refine TL.eff0 rfl rfl (X.store (cs' := netC { n1 with ab := clipS n1.ab, ba := clipS n1.ba }) rfl (by kernel_rfl) rfl rfl rfl pul (by show 3 < 9; decide) rfl) ?_
        rintro _ _ rfl
        refine TL.nil ?_
        refine TQ.to (Ent.clipO (s := n1.ba) pul pul (by omega) hcap) ?_
        refine TQ.endE (res0 rfl) (⟨{ n1 with ab := clipS n1.ab, ba := clipS n1.ba }, A1, B1, (absN_clip n1 A1 B1).trans (congrArg PN.clip hX1), rfl⟩) ?_
        exact (by simp only [NAt, List.cons_append, List.nil_append]; first | (rw [hcl, hcm]; exact ett) | exact ett)
      · try simp only [zA, zB, zC, zD, zE, zF, zG, zH, zI, zJ] at c8
        have hcl : ({ n1 with ab := clipS n1.ab, ba := clipS n1.ba } : NP) = { n1 with ab := clipS n1.ab } := by rw [clipS_id (s := n1.ba) (by omega)]
        have hcm : clipS n1.ba = n1.ba := clipS_id (by omega)
        refine TC.skip ?_
        refine TQ.endE (res0 rfl) (⟨{ n1 with ab := clipS n1.ab, ba := clipS n1.ba }, A1, B1, (absN_clip n1 A1 B1).trans (congrArg PN.clip hX1), rfl⟩) ?_
        exact (by simp only [NAt, List.cons_append, List.nil_append]; first | (rw [hcl, hcm]; exact ett) | exact ett)
set_option maxHeartbeats 4000000 in
theorem stp3k_fn (nb : Nat) (n : NP) (A B : PS) (hF : Fits (absN n A B)) (N : Int) (k : Nat) (x : Bs) (hk : k = idxN N n.ab.l.length) (hx : n.ab.l[k]? = some x) (hxl : x.l.length ≤ 140737488351232) (d : Value) (hd1 : d.oneCell' = true) (nw : UInt16) (L : List SA) :
    Fn Try.prog 16 [pt nb 0, .agg (netArg 3 N true d nw)] (NAt nb n A B ++ L) (StepR nb ((absN n A B).hand3 x.l).clip (L)) := by
  obtain ⟨hn1, hn2, hn3, hn4, hn5, hn6⟩ := hF.lens
  have hnow : 0 ≤ n.now ∧ n.now ≤ 1000000000000 := hF.now
  simp only [NAt, List.cons_append, List.nil_append]
  have hkl := (List.getElem?_eq_some_iff.1 hx).1
  refine Fn.of (N := 367) Try.func16 rfl rfl ?_
  intro Xh
  refine TC.seq (TC.region ?_)
  refine TL.eff rfl rfl rfl (X.box (cs := netArg 3 N true d nw) rfl rfl rfl) ?_
  rintro _ _ ⟨b3, rfl, rfl⟩
  refine TL.nil (TQ.next ?_)
  refine TC.cutF (ι := NP × PS × PS) [] (fun i => absN i.1 i.2.1 i.2.2 = (absN n A B).hand3 x.l) (fun i => []) (fun i => [nB nb i.1, SD i.1.a i.2.1, SD i.1.b i.2.2, oP i.1.ab, rP i.1.ab, oP i.1.ba, rP i.1.ba, oM i.1.sent, rMs i.1.sent, oM i.1.back, rMs i.1.back, oM i.1.gB, rMs i.1.gB, oM i.1.gA, rMs i.1.gA]) (Ao := [nB nb n, SD n.a A, SD n.b B, oP n.ab, rP n.ab, oP n.ba, rP n.ba, oM n.sent, rMs n.sent, oM n.back, rMs n.back, oM n.gB, rMs n.gB, oM n.gA, rMs n.gA]) (Pulls.cons pul (Pulls.cons pul (Pulls.cons pul (Pulls.cons pul (Pulls.cons pul (Pulls.cons pul (Pulls.cons pul (Pulls.cons pul (Pulls.cons pul (Pulls.cons pul (Pulls.cons pul (Pulls.cons pul (Pulls.cons pul (Pulls.cons pul (Pulls.cons pul Pulls.nil))))))))))))))) ?_ ?_
  · rintro L' hL'
    simp only [List.cons_append, List.nil_append] at hL'
    subst hL'
    refine TC.seq (TC.region ?_)
    refine TL.val rfl rfl rfl (by first | exact Y.fieldAddrJ rfl fo42_0 rfl nqq | exact Y.fieldAddr rfl fo42_0 rfl nqq) ?_
    refine TL.val rfl rfl rfl (Y.load rfl sc3 rfl celN) ?_
    refine TL.as (vI 3) (by rfl) ?_
    refine TL.nil (TQ.next (TC.block (TC.seq (TC.seq (TC.region ?_)))))
    refine TL.val rfl rfl rfl (Y.bin rfl rfl rfl (br_eqN (n := 1))) ?_
    refine TL.is false isf ?_
    refine TL.sg ?_
    refine TL.nil (TQ.next ?_)
    refine TC.cond_f rfl ?_
    refine TC.region ?_
    refine TL.val rfl rfl rfl (Y.bin rfl rfl rfl (br_eqN (n := 2))) ?_
    refine TL.is false isf ?_
    refine TL.sg ?_
    refine TL.nil (TQ.next ?_)
    refine TC.cond_f rfl ?_
    refine TC.seq (TC.seq (TC.region ?_))
    refine TL.val rfl rfl rfl (Y.bin rfl rfl rfl (br_eqN (n := 3))) ?_
    refine TL.is true isf ?_
    refine TL.sg ?_
    refine TL.nil (TQ.next ?_)
    refine TC.cond_t rfl ?_
    refine TC.skip (TQ.next ?_)
    refine TC.cond_t rfl ?_
    refine TC.seq (TC.seq (TC.region ?_))
    refine TL.mv ?_
    refine TL.nc ?_
    refine TL.val rfl rfl rfl (by first | exact Y.fieldAddrJ rfl fo46_2 rfl nqq | exact Y.fieldAddr rfl fo46_2 rfl nqq) ?_
    refine TL.val rfl rfl rfl (Y.load rfl sc24 rfl celD) ?_
    refine TL.as (.slice n.ab.a n.ab.l.length n.ab.cap) (by rfl) ?_
    refine TL.val rfl rfl rfl (Y.len rfl Try.underlying24 rfl) ?_
    refine TL.val rfl rfl rfl (Y.bin rfl rfl rfl (br_eqN (n := 0))) ?_
    refine TL.is false (by (simp; intro h; rw [h] at hkl; simp at hkl)) ?_
    refine TL.nil (TQ.next ?_)
    refine TC.cond_f rfl ?_
    refine TC.skip (TQ.next (TC.seq ?_))
    refine TC.draws 12 _ (by kernel_rfl) (by kernel_rfl) (fun _ h => h) ?_
    refine TA.tk 0 rfl rfl (by first | exact Y.fieldAddrJ rfl fo42_1 rfl nqq | exact Y.fieldAddr rfl fo42_1 rfl nqq) ?_
    refine TA.tk 1 rfl rfl (Y.load rfl sc3 rfl celN) ?_
    refine TA.as (vI N) (by rfl) ?_
    refine TA.tk 2 rfl rfl (Y.conv (m := (((N % 18446744073709551616).toNat : Nat) : Int)) rfl Try.underlying3 Try.underlying56 rfl (by rw [wrap_u64]; omega)) ?_
    refine TA.tk 3 rfl rfl (Y.move rfl rfl) ?_
    refine TA.tk 4 rfl rfl (Y.nilCheck rfl rfl) ?_
    refine TA.tk 5 rfl rfl (by first | exact Y.fieldAddrJ rfl fo46_2 rfl nqq | exact Y.fieldAddr rfl fo46_2 rfl nqq) ?_
    refine TA.tk 6 rfl rfl (Y.load rfl sc24 rfl celD) ?_
    refine TA.as (.slice n.ab.a n.ab.l.length n.ab.cap) (by rfl) ?_
    refine TA.tk 7 rfl rfl (Y.len rfl Try.underlying24 rfl) ?_
    refine TA.tk 8 rfl rfl (Y.conv rfl Try.underlying3 Try.underlying56 rfl (cv_N_64n (by omega))) ?_
    refine TA.tk 9 rfl rfl (Y.bin rfl rfl rfl (br_remU (by omega))) ?_
    refine TA.as (.int .u64 ((k : Nat) : Int)) (by (rw [hk]; rfl)) ?_
    refine TA.tk 10 rfl rfl (Y.conv rfl Try.underlying56 Try.underlying3 rfl (cv_64n_N (by omega))) ?_
    refine TA.tk 11 rfl rfl (Y.assign rfl rfl) ?_
    refine TA.done (by kernel_rfl) ?_
    refine TQ.next (TC.seq ?_)
    refine TC.know (reads_cap Reads.owns (a := n.ab.a) (n := n.ab.l.length) (cap := n.ab.cap) (cs := Dat.cs n.ab.l) inn) ?_
    rintro ⟨hcap0, -, -, -⟩
    refine TC.know (owns_some (a := n.ab.a) (n := n.ab.l.length) inn (by omega)) ?_
    rintro ⟨g, off, hqa⟩
    refine TC.region ?_
    refine TL.mv ?_
    refine TL.nc ?_
    refine TL.val rfl rfl rfl (by first | exact Y.fieldAddrJ rfl fo46_2 rfl nqq | exact Y.fieldAddr rfl fo46_2 rfl nqq) ?_
    refine TL.val rfl rfl rfl (Y.load rfl sc24 rfl celD) ?_
    refine TL.as (.slice (some ⟨g, off, none⟩) n.ab.l.length n.ab.cap) (by (rw [← hqa]; rfl)) ?_
    refine TL.mv ?_
    refine TL.val rfl rfl rfl (by first | exact Y.indexSlB rfl sl24 rfl rfl (by omega) nqq | exact Y.indexSl rfl sl24 rfl rfl (by omega) nqq) ?_
    refine TL.val rfl rfl rfl (Y.load rfl sc23 rfl (Cel.atS (A := SA.owns 23 1 (.slice (some ⟨g, off, none⟩) n.ab.l.length n.ab.cap) n.ab.l.length (Dat.cs n.ab.l)) Reads.owns (by rw [← hqa]; exact inn) hx rfl)) ?_
    refine TL.as (.slice x.a x.l.length x.cap) (by rfl) ?_
    refine TL.sg ?_
    refine TL.nil (TQ.next (TC.seq (TC.seq (TC.region ?_))))
    refine TL.val rfl rfl rfl (by first | exact Y.fieldAddrJ rfl fo42_2 rfl nqq | exact Y.fieldAddr rfl fo42_2 rfl nqq) ?_
    refine TL.val rfl rfl rfl (Y.load rfl sc4 rfl celD) ?_
    refine TL.as (.bool true) (by rfl) ?_
    refine TL.val rfl rfl rfl (Y.not rfl rfl) ?_
    refine TL.is false isf ?_
    refine TL.mv ?_
    refine TL.valG rfl rfl rfl (by first | exact Y.fieldAddrJ rfl fo42_0 rfl nqq | exact Y.fieldAddr rfl fo42_0 rfl nqq) ?_
    refine TL.valG rfl rfl rfl (Y.load rfl sc3 rfl celN) ?_
    refine TL.as (vI 3) (by rfl) ?_
    refine TL.valG rfl rfl rfl (Y.bin rfl rfl rfl (br_eqN (n := 5))) ?_
    refine TL.is false isf ?_
    refine TL.val rfl rfl rfl (Y.pick_f rfl rfl rfl) ?_
    refine TL.nil (TQ.next ?_)
    refine TC.cond_f rfl ?_
    refine TC.skip (TQ.next (TC.seq ?_))
    refine TC.to (Ent.elP (List.mem_of_getElem? hx) pul) ?_
    refine TC.region ?_
    refine TL.val rfl rfl rfl (by first | exact Y.fieldAddrJ rfl fo42_0 rfl nqq | exact Y.fieldAddr rfl fo42_0 rfl nqq) ?_
    refine TL.val rfl rfl rfl (Y.load rfl sc3 rfl celN) ?_
    refine TL.as (vI 3) (by rfl) ?_
    refine TL.val rfl rfl rfl (Y.bin rfl rfl rfl (br_eqN (n := 3))) ?_
    refine TL.is true isf ?_
    refine TL.nil (TQ.next ?_)
    refine TC.cond_t rfl ?_
    refine TC.seq ?_
    refine TC.draws 9 [nB nb n] (by kernel_rfl) (by kernel_rfl) hld ?_
    refine TA.tp 0 rfl rfl (Y.move rfl rfl) ?_
    refine TA.tp 1 rfl rfl (Y.nilCheck rfl rfl) ?_
    refine TA.tp 2 rfl rfl (by first | exact Y.fieldAddrJ rfl fo46_1 rfl nqq | exact Y.fieldAddr rfl fo46_1 rfl nqq) ?_
    refine TA.tk 3 rfl rfl (Y.load rfl sc26 rfl celD) ?_
    refine TA.as (pt n.b 0) (by rfl) ?_
    refine TA.tk 4 rfl rfl (Y.move rfl rfl) ?_
    refine TA.tp 5 rfl rfl (Y.move rfl rfl) ?_
    refine TA.tp 6 rfl rfl (Y.nilCheck rfl rfl) ?_
    refine TA.tp 7 rfl rfl (by first | exact Y.fieldAddrJ rfl fo46_8 rfl nqq | exact Y.fieldAddr rfl fo46_8 rfl nqq) ?_
    refine TA.tk 8 rfl rfl (Y.load rfl sc2 rfl celN) ?_
    refine TA.as (vI n.now) (by rfl) ?_
    refine TA.one 9 (by kernel_rfl) rfl rfl rfl rfl (X.cl rfl Try.func12 rfl (h := (Handle_fn n.b B hF.b.toInvP x.a x.l.length x.cap x.l rfl hxl n.now _))) ?_
    rintro _ _ ⟨o, g2, rfl, ho, hg2, rfl⟩
    obtain ⟨hz1, hz2⟩ := handle_out B hF.b n.now x.l
    have hol : o.l.length ≤ 16 := by have := congrArg List.length ho; rw [List.length_map] at this; omega
    have hgl2 : g2.l.length ≤ 33 := by have := congrArg List.length hg2; rw [List.length_map] at this; omega
    refine ⟨(Or.inl (by kernel_rfl)), ?_⟩
    refine TA.tp 10 rfl rfl (Y.move rfl rfl) ?_
    refine TA.tp 11 rfl rfl (Y.extract rfl rfl rfl) ?_
    refine TA.as (.slice o.a o.l.length o.cap) (by rfl) ?_
    refine TA.tp 12 rfl rfl (Y.extract rfl rfl rfl) ?_
    refine TA.as (.slice g2.a g2.l.length g2.cap) (by rfl) ?_
    refine TA.tp 13 rfl rfl (Y.extract rfl rfl rfl) ?_
    refine TA.tp 14 rfl rfl (Y.assign rfl rfl) ?_
    refine TA.tp 15 rfl rfl (Y.assign rfl rfl) ?_
    refine TA.tp 16 rfl rfl (Y.assign rfl rfl) ?_
    refine TA.done (by kernel_rfl) ?_
    refine TQ.next (TC.seq (TC.region ?_))
    refine TL.mv ?_
    refine TL.mv ?_
    refine TL.nc ?_
    refine TL.val rfl rfl rfl (by first | exact Y.fieldAddrJ rfl fo46_3 rfl nqq | exact Y.fieldAddr rfl fo46_3 rfl nqq) ?_
    refine TL.val rfl rfl rfl (Y.load rfl sc24 rfl celD) ?_
    refine TL.as (.slice n.ba.a n.ba.l.length n.ba.cap) (by rfl) ?_
    refine TL.mv ?_
    refine TL.eff rfl rfl rfl (X.appendS rfl el24 rfl pul rfl (Src.reads (Reads.dat (s := o)) Try.underlying24 inn) (by simp only [maxLen]; omega) (by omega)) ?_
    rintro _ _ ⟨a188, c188, rfl, rfl⟩
    rw [show Dat.cs n.ba.l ++ Dat.cs o.l = Dat.cs (n.ba.l ++ o.l) from (Dat.cs_app _ _).symm, ← List.length_append]
    refine TL.nc ?_
    refine TL.val rfl rfl rfl (by first | exact Y.fieldAddrJ rfl fo46_3 rfl nqq | exact Y.fieldAddr rfl fo46_3 rfl nqq) ?_
    refine TL.eff0 rfl rfl (X.store (cs' := netC { n with ba := ⟨a188, c188, n.ba.l ++ o.l⟩ }) rfl (by kernel_rfl) rfl rfl rfl pul (by show 3 < 9; decide) rfl) ?_
    rintro _ _ rfl
    refine TL.nil (TQ.next ?_)
    refine TC.to (Ent.addAll (o := o) (ys := n.ba.l) pul pul) ?_
    refine TC.draws 10 [nB nb { n with ba := ⟨a188, c188, n.ba.l ++ o.l⟩ }] (by kernel_rfl) (by kernel_rfl) hld ?_
    refine TA.tk 0 rfl rfl (Y.move rfl rfl) ?_
    refine TA.tk 1 rfl rfl (Y.move rfl rfl) ?_
    refine TA.tk 2 rfl rfl (Y.nilCheck rfl rfl) ?_
    refine TA.tk 3 rfl rfl (by first | exact Y.fieldAddrJ rfl fo46_6 rfl nqq | exact Y.fieldAddr rfl fo46_6 rfl nqq) ?_
    refine TA.tk 4 rfl rfl (Y.load rfl sc44 rfl celD) ?_
    refine TA.as (.slice n.gB.a n.gB.l.length n.gB.cap) (by rfl) ?_
    refine TA.tk 5 rfl rfl (Y.move rfl rfl) ?_
    refine TA.one 6 (by kernel_rfl) rfl rfl rfl rfl (X.cl rfl Try.func40 rfl (h := (ours_fn g2.a g2.cap g2.l (by omega) _))) ?_
    rintro _ _ ⟨oa, oc, rfl, rfl⟩
    refine ⟨(Or.inr hld), ?_⟩
    refine TA.one 7 (by kernel_rfl) rfl rfl rfl rfl (X.appendS rfl el44 rfl pul rfl (Src.reads (Reads.datM (a := oa) (cap := oc) (l := g2.l)) Try.underlying44 inn) (by simp only [maxLen]; omega) (by omega)) ?_
    rintro _ _ ⟨a198, c198, rfl, rfl⟩
    rw [show Dat.cs n.gB.l ++ Dat.cs g2.l = Dat.cs (n.gB.l ++ g2.l) from (Dat.cs_app _ _).symm, ← List.length_append]
    refine ⟨(Or.inr hld), ?_⟩
    refine TA.tp 8 rfl rfl (Y.nilCheck rfl rfl) ?_
    refine TA.tk 9 rfl rfl (by first | exact Y.fieldAddrJ rfl fo46_6 rfl nqq | exact Y.fieldAddr rfl fo46_6 rfl nqq) ?_
    refine TA.one0 10 (by kernel_rfl) rfl rfl rfl (X.store (cs' := netC { n with ba := ⟨a188, c188, n.ba.l ++ o.l⟩, gB := ⟨a198, c198, n.gB.l ++ g2.l⟩ }) rfl (by kernel_rfl) rfl rfl rfl pul (by show 6 < 9; decide) rfl) ?_
    rintro _ _ rfl
    refine ⟨(Or.inl (by kernel_rfl)), ?_⟩
    refine TA.done (by kernel_rfl) ?_
    refine TQ.block_normal ?_
    refine TQ.to (Ent.addAll (o := ⟨oa, oc, g2.l⟩) (ys := n.gB.l) pul pul) ?_
    refine TQ.meetF (ι := NP × PS × PS) (I := fun i => absN i.1 i.2.1 i.2.2 = (absN n A B).hand3 x.l) (C := fun (_ : NP × PS × PS) => []) (U := []) (({ n with ba := ⟨a188, c188, n.ba.l ++ o.l⟩, gB := ⟨a198, c198, n.gB.l ++ g2.l⟩ }, A, (B.handle n.now x.l).1)) (absN_eq rfl rfl (rfl) ((outs_app _ _ _ _).trans (congrArg _ ho)) rfl rfl ((List.map_append).trans (congrArg _ hg2)) rfl rfl) trivial grw ?_ ?_
    · kernel_rfl
    · simp only [List.cons_append, List.nil_append]
      exact ett
  · rintro ⟨n1, A1, B1⟩ hX1 F' L' rfl hL'
    simp only [List.cons_append, List.nil_append] at hL'
    subst hL'
    simp only at hX1 ⊢
    refine TC.cutF (ι := Unit) [] (fun _ => True) (fun _ => []) (fun _ => [nB nb { n1 with ab := clipS n1.ab }, oP (clipS n1.ab), rP (clipS n1.ab)]) (Ao := [nB nb n1, oP n1.ab, rP n1.ab]) (Pulls.cons pul (Pulls.cons pul (Pulls.cons pul Pulls.nil))) ?_ ?_
    · rintro L' hL'
      simp only [List.cons_append, List.nil_append] at hL'
      subst hL'
      refine TC.seq (TC.region ?_)
      refine TL.mv ?_
      refine TL.nc ?_
      refine TL.val rfl rfl rfl (by first | exact Y.fieldAddrJ rfl fo46_2 rfl nqq | exact Y.fieldAddr rfl fo46_2 rfl nqq) ?_
      refine TL.val rfl rfl rfl (Y.load rfl sc24 rfl celD) ?_
      refine TL.as (.slice n1.ab.a n1.ab.l.length n1.ab.cap) (by rfl) ?_
      refine TL.val rfl rfl rfl (Y.len rfl Try.underlying24 rfl) ?_
      refine TL.val rfl rfl rfl (Y.bin rfl rfl rfl (br_gtN (n := 200))) ?_
      refine TL.nil (TQ.next ?_)
      refine TC.cond rfl (fun c7 => ?_) (fun c7 => ?_)
      · try simp only [zA, zB, zC, zD, zE, zF, zG, zH, zI, zJ] at c7
        refine TC.know (reads_cap Reads.owns (a := n1.ab.a) (n := n1.ab.l.length) (cap := n1.ab.cap) (cs := Dat.cs n1.ab.l) inn) ?_
        rintro ⟨hcap, -, -, -⟩
        refine TC.region ?_
        refine TL.mv ?_
        refine TL.mv ?_
        refine TL.nc ?_
        refine TL.val rfl rfl rfl (by first | exact Y.fieldAddrJ rfl fo46_2 rfl nqq | exact Y.fieldAddr rfl fo46_2 rfl nqq) ?_
        refine TL.val rfl rfl rfl (Y.load rfl sc24 rfl celD) ?_
        refine TL.as (.slice n1.ab.a n1.ab.l.length n1.ab.cap) (by rfl) ?_
        refine TL.val rfl rfl rfl (Y.sliceHi2 (k := 200) rfl Try.underlying24 sz23 rfl rfl (by omega)) ?_
        refine TL.as (.slice n1.ab.a (n1.ab.l.take 200).length n1.ab.cap) (by (rw [List.length_take, Nat.min_eq_left (by omega)])) ?_
        refine TL.nc ?_
        refine TL.val rfl rfl rfl (by first | exact Y.fieldAddrJ rfl fo46_2 rfl nqq | exact Y.fieldAddr rfl fo46_2 rfl nqq) ?_
        refine TL.eff0 rfl rfl (X.store (cs' := netC { n1 with ab := clipS n1.ab }) rfl (by kernel_rfl) rfl rfl rfl pul (by show 2 < 9; decide) rfl) ?_
        rintro _ _ rfl
        refine TL.nil ?_
        refine TQ.to (Ent.clipO (s := n1.ab) pul pul (by omega) hcap) ?_
        refine TQ.meetF (ι := Unit) (I := fun _ => True) (C := fun (_ : Unit) => []) (U := []) (()) (trivial) trivial grw ?_ ?_
        · kernel_rfl
        · simp only [List.cons_append, List.nil_append]
          exact (by first | (rw [hcl, hcm]; exact ett) | exact ett)
      · try simp only [zA, zB, zC, zD, zE, zF, zG, zH, zI, zJ] at c7
        have hcl : ({ n1 with ab := clipS n1.ab } : NP) = n1 := by rw [clipS_id (by omega)]
        have hcm : clipS n1.ab = n1.ab := clipS_id (by omega)
        refine TC.skip ?_
        refine TQ.meetF (ι := Unit) (I := fun _ => True) (C := fun (_ : Unit) => []) (U := []) (()) (trivial) trivial grw ?_ ?_
        · kernel_rfl
        · simp only [List.cons_append, List.nil_append]
          exact (by first | (rw [hcl, hcm]; exact ett) | exact ett)
    · rintro ⟨⟩ - F' L' rfl hL'
      simp only [List.cons_append, List.nil_append] at hL'
      subst hL'
      refine TC.seq (TC.region ?_)
      refine TL.mv ?_
      refine TL.nc ?_
      refine TL.val rfl rfl rfl (by first | exact Y.fieldAddrJ rfl fo46_3 rfl nqq | exact Y.fieldAddr rfl fo46_3 rfl nqq) ?_
      refine TL.val rfl rfl rfl (Y.load rfl sc24 rfl celD) ?_
      refine TL.as (.slice n1.ba.a n1.ba.l.length n1.ba.cap) (by rfl) ?_
      refine TL.val rfl rfl rfl (Y.len rfl Try.underlying24 rfl) ?_
      refine TL.val rfl rfl rfl (Y.bin rfl rfl rfl (br_gtN (n := 200))) ?_
      refine TL.nil (TQ.next ?_)
      refine TC.cond rfl (fun c8 => ?_) (fun c8 => ?_)
      · try simp only [zA, zB, zC, zD, zE, zF, zG, zH, zI, zJ] at c8
        refine TC.know (reads_cap Reads.owns (a := n1.ba.a) (n := n1.ba.l.length) (cap := n1.ba.cap) (cs := Dat.cs n1.ba.l) inn) ?_
        rintro ⟨hcap, -, -, -⟩
        refine TC.region ?_
        refine TL.mv ?_
        refine TL.mv ?_
        refine TL.nc ?_
        refine TL.val rfl rfl rfl (by first | exact Y.fieldAddrJ rfl fo46_3 rfl nqq | exact Y.fieldAddr rfl fo46_3 rfl nqq) ?_
        refine TL.val rfl rfl rfl (Y.load rfl sc24 rfl celD) ?_
        refine TL.as (.slice n1.ba.a n1.ba.l.length n1.ba.cap) (by rfl) ?_
        refine TL.val rfl rfl rfl (Y.sliceHi2 (k := 200) rfl Try.underlying24 sz23 rfl rfl (by omega)) ?_
        refine TL.as (.slice n1.ba.a (n1.ba.l.take 200).length n1.ba.cap) (by (rw [List.length_take, Nat.min_eq_left (by omega)])) ?_
        refine TL.nc ?_
        refine TL.val rfl rfl rfl (by first | exact Y.fieldAddrJ rfl fo46_3 rfl nqq | exact Y.fieldAddr rfl fo46_3 rfl nqq) ?_
        refine TL.eff0 rfl rfl (X.store (cs' := netC { n1 with ab := clipS n1.ab, ba := clipS n1.ba }) rfl (by kernel_rfl) rfl rfl rfl pul (by show 3 < 9; decide) rfl) ?_
        rintro _ _ rfl
        refine TL.nil ?_
        refine TQ.to (Ent.clipO (s := n1.ba) pul pul (by omega) hcap) ?_
        refine TQ.endE (res0 rfl) (⟨{ n1 with ab := clipS n1.ab, ba := clipS n1.ba }, A1, B1, (absN_clip n1 A1 B1).trans (congrArg PN.clip hX1), rfl⟩) ?_
        exact (by simp only [NAt, List.cons_append, List.nil_append]; first | (rw [hcl, hcm]; exact ett) | exact ett)
      · try simp only [zA, zB, zC, zD, zE, zF, zG, zH, zI, zJ] at c8
        have hcl : ({ n1 with ab := clipS n1.ab, ba := clipS n1.ba } : NP) = { n1 with ab := clipS n1.ab } := by rw [clipS_id (s := n1.ba) (by omega)]
        have hcm : clipS n1.ba = n1.ba := clipS_id (by omega)
        refine TC.skip ?_
        refine TQ.endE (res0 rfl) (⟨{ n1 with ab := clipS n1.ab, ba := clipS n1.ba }, A1, B1, (absN_clip n1 A1 B1).trans (congrArg PN.clip hX1), rfl⟩) ?_
        exact (by simp only [NAt, List.cons_append, List.nil_append]; first | (rw [hcl, hcm]; exact ett) | exact ett)
set_option maxHeartbeats 4000000 in
theorem stp5_fn (nb : Nat) (n : NP) (A B : PS) (hF : Fits (absN n A B)) (N : Int) (k : Nat) (x : Bs) (hk : k = idxN N n.ab.l.length) (hx : n.ab.l[k]? = some x) (hxl : x.l.length ≤ 140737488351232) (d : Value) (hd1 : d.oneCell' = true) (nw : UInt16) (L : List SA) :
    Fn Try.prog 16 [pt nb 0, .agg (netArg 5 N false d nw)] (NAt nb n A B ++ L) (StepR nb ((absN n A B).pop3 k).clip (L)) := by
  obtain ⟨hn1, hn2, hn3, hn4, hn5, hn6⟩ := hF.lens
  have hnow : 0 ≤ n.now ∧ n.now ≤ 1000000000000 := hF.now
  simp only [NAt, List.cons_append, List.nil_append]
  have hkl := (List.getElem?_eq_some_iff.1 hx).1
  refine Fn.of (N := 367) Try.func16 rfl rfl ?_
  intro Xh
  refine TC.seq (TC.region ?_)
  refine TL.eff rfl rfl rfl (X.box (cs := netArg 5 N false d nw) rfl rfl rfl) ?_
  rintro _ _ ⟨b3, rfl, rfl⟩
  refine TL.nil (TQ.next ?_)
  refine TC.cutF (ι := NP × PS × PS) [] (fun i => absN i.1 i.2.1 i.2.2 = (absN n A B).pop3 k) (fun i => []) (fun i => [nB nb i.1, SD i.1.a i.2.1, SD i.1.b i.2.2, oP i.1.ab, rP i.1.ab, oP i.1.ba, rP i.1.ba, oM i.1.sent, rMs i.1.sent, oM i.1.back, rMs i.1.back, oM i.1.gB, rMs i.1.gB, oM i.1.gA, rMs i.1.gA]) (Ao := [nB nb n, SD n.a A, SD n.b B, oP n.ab, rP n.ab, oP n.ba, rP n.ba, oM n.sent, rMs n.sent, oM n.back, rMs n.back, oM n.gB, rMs n.gB, oM n.gA, rMs n.gA]) (Pulls.cons pul (Pulls.cons pul (Pulls.cons pul (Pulls.cons pul (Pulls.cons pul (Pulls.cons pul (Pulls.cons pul (Pulls.cons pul (Pulls.cons pul (Pulls.cons pul (Pulls.cons pul (Pulls.cons pul (Pulls.cons pul (Pulls.cons pul (Pulls.cons pul Pulls.nil))))))))))))))) ?_ ?_
  · rintro L' hL'
    simp only [List.cons_append, List.nil_append] at hL'
    subst hL'
    refine TC.seq (TC.region ?_)
    refine TL.val rfl rfl rfl (by first | exact Y.fieldAddrJ rfl fo42_0 rfl nqq | exact Y.fieldAddr rfl fo42_0 rfl nqq) ?_
    refine TL.val rfl rfl rfl (Y.load rfl sc3 rfl celN) ?_
    refine TL.as (vI 5) (by rfl) ?_
    refine TL.nil (TQ.next (TC.block (TC.seq (TC.seq (TC.region ?_)))))
    refine TL.val rfl rfl rfl (Y.bin rfl rfl rfl (br_eqN (n := 1))) ?_
    refine TL.is false isf ?_
    refine TL.sg ?_
    refine TL.nil (TQ.next ?_)
    refine TC.cond_f rfl ?_
    refine TC.region ?_
    refine TL.val rfl rfl rfl (Y.bin rfl rfl rfl (br_eqN (n := 2))) ?_
    refine TL.is false isf ?_
    refine TL.sg ?_
    refine TL.nil (TQ.next ?_)
    refine TC.cond_f rfl ?_
    refine TC.seq (TC.seq (TC.region ?_))
    refine TL.val rfl rfl rfl (Y.bin rfl rfl rfl (br_eqN (n := 3))) ?_
    refine TL.is false isf ?_
    refine TL.sg ?_
    refine TL.nil (TQ.next ?_)
    refine TC.cond_f rfl ?_
    refine TC.region ?_
    refine TL.val rfl rfl rfl (Y.bin rfl rfl rfl (br_eqN (n := 5))) ?_
    refine TL.is true isf ?_
    refine TL.sg ?_
    refine TL.nil (TQ.next ?_)
    refine TC.cond_t rfl ?_
    refine TC.seq (TC.seq (TC.region ?_))
    refine TL.mv ?_
    refine TL.nc ?_
    refine TL.val rfl rfl rfl (by first | exact Y.fieldAddrJ rfl fo46_2 rfl nqq | exact Y.fieldAddr rfl fo46_2 rfl nqq) ?_
    refine TL.val rfl rfl rfl (Y.load rfl sc24 rfl celD) ?_
    refine TL.as (.slice n.ab.a n.ab.l.length n.ab.cap) (by rfl) ?_
    refine TL.val rfl rfl rfl (Y.len rfl Try.underlying24 rfl) ?_
    refine TL.val rfl rfl rfl (Y.bin rfl rfl rfl (br_eqN (n := 0))) ?_
    refine TL.is false (by (simp; intro h; rw [h] at hkl; simp at hkl)) ?_
    refine TL.nil (TQ.next ?_)
    refine TC.cond_f rfl ?_
    refine TC.skip (TQ.next (TC.seq ?_))
    refine TC.draws 12 _ (by kernel_rfl) (by kernel_rfl) (fun _ h => h) ?_
    refine TA.tk 0 rfl rfl (by first | exact Y.fieldAddrJ rfl fo42_1 rfl nqq | exact Y.fieldAddr rfl fo42_1 rfl nqq) ?_
    refine TA.tk 1 rfl rfl (Y.load rfl sc3 rfl celN) ?_
    refine TA.as (vI N) (by rfl) ?_
    refine TA.tk 2 rfl rfl (Y.conv (m := (((N % 18446744073709551616).toNat : Nat) : Int)) rfl Try.underlying3 Try.underlying56 rfl (by rw [wrap_u64]; omega)) ?_
    refine TA.tk 3 rfl rfl (Y.move rfl rfl) ?_
    refine TA.tk 4 rfl rfl (Y.nilCheck rfl rfl) ?_
    refine TA.tk 5 rfl rfl (by first | exact Y.fieldAddrJ rfl fo46_2 rfl nqq | exact Y.fieldAddr rfl fo46_2 rfl nqq) ?_
    refine TA.tk 6 rfl rfl (Y.load rfl sc24 rfl celD) ?_
    refine TA.as (.slice n.ab.a n.ab.l.length n.ab.cap) (by rfl) ?_
    refine TA.tk 7 rfl rfl (Y.len rfl Try.underlying24 rfl) ?_
    refine TA.tk 8 rfl rfl (Y.conv rfl Try.underlying3 Try.underlying56 rfl (cv_N_64n (by omega))) ?_
    refine TA.tk 9 rfl rfl (Y.bin rfl rfl rfl (br_remU (by omega))) ?_
    refine TA.as (.int .u64 ((k : Nat) : Int)) (by (rw [hk]; rfl)) ?_
    refine TA.tk 10 rfl rfl (Y.conv rfl Try.underlying56 Try.underlying3 rfl (cv_64n_N (by omega))) ?_
    refine TA.tk 11 rfl rfl (Y.assign rfl rfl) ?_
    refine TA.done (by kernel_rfl) ?_
    refine TQ.next (TC.seq ?_)
    refine TC.know (reads_cap Reads.owns (a := n.ab.a) (n := n.ab.l.length) (cap := n.ab.cap) (cs := Dat.cs n.ab.l) inn) ?_
    rintro ⟨hcap0, -, -, -⟩
    refine TC.know (owns_some (a := n.ab.a) (n := n.ab.l.length) inn (by omega)) ?_
    rintro ⟨g, off, hqa⟩
    refine TC.region ?_
    refine TL.mv ?_
    refine TL.nc ?_
    refine TL.val rfl rfl rfl (by first | exact Y.fieldAddrJ rfl fo46_2 rfl nqq | exact Y.fieldAddr rfl fo46_2 rfl nqq) ?_
    refine TL.val rfl rfl rfl (Y.load rfl sc24 rfl celD) ?_
    refine TL.as (.slice (some ⟨g, off, none⟩) n.ab.l.length n.ab.cap) (by (rw [← hqa]; rfl)) ?_
    refine TL.mv ?_
    refine TL.val rfl rfl rfl (by first | exact Y.indexSlB rfl sl24 rfl rfl (by omega) nqq | exact Y.indexSl rfl sl24 rfl rfl (by omega) nqq) ?_
    refine TL.val rfl rfl rfl (Y.load rfl sc23 rfl (Cel.atS (A := SA.owns 23 1 (.slice (some ⟨g, off, none⟩) n.ab.l.length n.ab.cap) n.ab.l.length (Dat.cs n.ab.l)) Reads.owns (by rw [← hqa]; exact inn) hx rfl)) ?_
    refine TL.as (.slice x.a x.l.length x.cap) (by rfl) ?_
    refine TL.sg ?_
    refine TL.nil (TQ.next (TC.seq (TC.seq (TC.region ?_))))
    refine TL.val rfl rfl rfl (by first | exact Y.fieldAddrJ rfl fo42_2 rfl nqq | exact Y.fieldAddr rfl fo42_2 rfl nqq) ?_
    refine TL.val rfl rfl rfl (Y.load rfl sc4 rfl celD) ?_
    refine TL.as (.bool false) (by rfl) ?_
    refine TL.val rfl rfl rfl (Y.not rfl rfl) ?_
    refine TL.is true isf ?_
    refine TL.mv ?_
    refine TL.not rfl rfl rfl ?_
    refine TL.not rfl rfl rfl ?_
    refine TL.not rfl rfl rfl ?_
    refine TL.val rfl rfl rfl (Y.pick_t rfl rfl rfl) ?_
    refine TL.nil (TQ.next ?_)
    refine TC.cond_t rfl ?_
    refine TC.draws 19 [nB nb n, oP n.ab] (by kernel_rfl) (by kernel_rfl) hld ?_
    refine TA.tk 0 rfl rfl (Y.move rfl rfl) ?_
    refine TA.tk 2 rfl rfl (Y.move rfl rfl) ?_
    refine TA.tk 3 rfl rfl (Y.nilCheck rfl rfl) ?_
    refine TA.tk 4 rfl rfl (by first | exact Y.fieldAddrJ rfl fo46_2 rfl nqq | exact Y.fieldAddr rfl fo46_2 rfl nqq) ?_
    refine TA.tk 5 rfl rfl (Y.load rfl sc24 rfl celD) ?_
    refine TA.as (.slice n.ab.a n.ab.l.length n.ab.cap) (by rfl) ?_
    refine TA.tk 6 rfl rfl (Y.move rfl rfl) ?_
    refine TA.tk 7 rfl rfl (Y.sliceHi2 (sz := 1) rfl Try.underlying24 (by kernel_rfl) rfl rfl (by omega)) ?_
    refine TA.tk 9 rfl rfl (Y.move rfl rfl) ?_
    refine TA.tk 10 rfl rfl (Y.nilCheck rfl rfl) ?_
    refine TA.tk 11 rfl rfl (by first | exact Y.fieldAddrJ rfl fo46_2 rfl nqq | exact Y.fieldAddr rfl fo46_2 rfl nqq) ?_
    refine TA.tk 12 rfl rfl (Y.load rfl sc24 rfl celD) ?_
    refine TA.as (.slice n.ab.a n.ab.l.length n.ab.cap) (by rfl) ?_
    refine TA.tk 13 rfl rfl (Y.move rfl rfl) ?_
    refine TA.tk 14 rfl rfl (Y.bin rfl rfl rfl (br_addN (n := 1) (by omega))) ?_
    refine TA.tk 15 rfl rfl (Y.sliceLo rfl Try.underlying24 sz23 rfl rfl (by omega)) ?_
    refine TA.one 1 (by kernel_rfl) rfl rfl rfl rfl (X.lit rfl el24 rfl rfl rfl (by decide) rfl) ?_
    rintro _ _ ⟨g147, rfl, rfl⟩
    refine ⟨(Or.inr hld), ?_⟩
    refine TA.one 8 (by kernel_rfl) rfl rfl rfl rfl (X.appendS rfl el24 rfl pul rfl (Src.reads (Reads.head (A := oP n.ab) (k := k) (n := n.ab.l.length) (cs := Dat.cs n.ab.l) Reads.owns (by omega)) Try.underlying24 inn) (by simp only [maxLen]; omega) (by omega)) ?_
    rintro _ _ ⟨a154, c154, rfl, rfl⟩
    rw [show ([] : List Value) ++ (Dat.cs n.ab.l).take (k * 1) = Dat.cs (n.ab.l.take k) by rw [Dat.cs_take]; rfl, Nat.zero_add]
    refine ⟨(Or.inr hld), ?_⟩
    refine TA.one 16 (by kernel_rfl) rfl rfl rfl rfl (X.appendS rfl el24 rfl pul rfl (Src.cut Reads.owns Try.underlying24 inn (by omega) (by omega)) (by simp only [maxLen]; omega) (by omega)) ?_
    rintro _ _ ⟨a162, c162, rfl, rfl⟩
    rw [cs_erase _ _ hkl, show k + (n.ab.l.length - (k + 1)) = (n.ab.l.eraseIdx k).length by rw [List.length_eraseIdx, if_pos hkl]; omega]
    refine ⟨(Or.inr hld), ?_⟩
    refine TA.tp 17 rfl rfl (Y.nilCheck rfl rfl) ?_
    refine TA.tk 18 rfl rfl (by first | exact Y.fieldAddrJ rfl fo46_2 rfl nqq | exact Y.fieldAddr rfl fo46_2 rfl nqq) ?_
    refine TA.one0 19 (by kernel_rfl) rfl rfl rfl (X.store (cs' := netC { n with ab := ⟨a162, c162, n.ab.l.eraseIdx k⟩ }) rfl (by kernel_rfl) rfl rfl rfl pul (by show 2 < 9; decide) rfl) ?_
    rintro _ _ rfl
    refine ⟨(Or.inl (by kernel_rfl)), ?_⟩
    refine TA.done (by kernel_rfl) ?_
    refine TQ.next (TC.seq ?_)
    refine TC.to (Ent.elP (List.mem_of_getElem? hx) pul) ?_
    refine TC.to (Ent.rdssDrop (gs := n.ab.l.flatMap Dat.g) (hs := (n.ab.l.eraseIdx k).flatMap Dat.g) pul (fun q hq => by obtain ⟨z, hz, hq⟩ := List.mem_flatMap.1 hq; exact List.mem_flatMap.2 ⟨z, List.mem_of_mem_eraseIdx hz, hq⟩)) ?_
    refine TC.region ?_
    refine TL.val rfl rfl rfl (by first | exact Y.fieldAddrJ rfl fo42_0 rfl nqq | exact Y.fieldAddr rfl fo42_0 rfl nqq) ?_
    refine TL.val rfl rfl rfl (Y.load rfl sc3 rfl celN) ?_
    refine TL.as (vI 5) (by rfl) ?_
    refine TL.val rfl rfl rfl (Y.bin rfl rfl rfl (br_eqN (n := 3))) ?_
    refine TL.is false isf ?_
    refine TL.nil (TQ.next ?_)
    refine TC.cond_f rfl ?_
    refine TC.skip (TQ.block_normal ?_)
    refine TQ.meetF (ι := NP × PS × PS) (I := fun i => absN i.1 i.2.1 i.2.2 = (absN n A B).pop3 k) (C := fun (_ : NP × PS × PS) => []) (U := []) (({ n with ab := ⟨a162, c162, n.ab.l.eraseIdx k⟩ }, A, B)) (absN_eq rfl rfl (outs_erase _ _ _ _) (rfl) rfl rfl (rfl) rfl rfl) trivial grw ?_ ?_
    · kernel_rfl
    · simp only [List.cons_append, List.nil_append]
      exact ett
  · rintro ⟨n1, A1, B1⟩ hX1 F' L' rfl hL'
    simp only [List.cons_append, List.nil_append] at hL'
    subst hL'
    simp only at hX1 ⊢
    refine TC.cutF (ι := Unit) [] (fun _ => True) (fun _ => []) (fun _ => [nB nb { n1 with ab := clipS n1.ab }, oP (clipS n1.ab), rP (clipS n1.ab)]) (Ao := [nB nb n1, oP n1.ab, rP n1.ab]) (Pulls.cons pul (Pulls.cons pul (Pulls.cons pul Pulls.nil))) ?_ ?_
    · rintro L' hL'
      simp only [List.cons_append, List.nil_append] at hL'
      subst hL'
      refine TC.seq (TC.region ?_)
      refine TL.mv ?_
      refine TL.nc ?_
      refine TL.val rfl rfl rfl (by first | exact Y.fieldAddrJ rfl fo46_2 rfl nqq | exact Y.fieldAddr rfl fo46_2 rfl nqq) ?_
      refine TL.val rfl rfl rfl (Y.load rfl sc24 rfl celD) ?_
      refine TL.as (.slice n1.ab.a n1.ab.l.length n1.ab.cap) (by rfl) ?_
      refine TL.val rfl rfl rfl (Y.len rfl Try.underlying24 rfl) ?_
      refine TL.val rfl rfl rfl (Y.bin rfl rfl rfl (br_gtN (n := 200))) ?_
      refine TL.nil (TQ.next ?_)
      refine TC.cond rfl (fun c7 => ?_) (fun c7 => ?_)
      · try simp only [zA, zB, zC, zD, zE, zF, zG, zH, zI, zJ] at c7
        refine TC.know (reads_cap Reads.owns (a := n1.ab.a) (n := n1.ab.l.length) (cap := n1.ab.cap) (cs := Dat.cs n1.ab.l) inn) ?_
        rintro ⟨hcap, -, -, -⟩
        refine TC.region ?_
        refine TL.mv ?_
        refine TL.mv ?_
        refine TL.nc ?_
        refine TL.val rfl rfl rfl (by first | exact Y.fieldAddrJ rfl fo46_2 rfl nqq | exact Y.fieldAddr rfl fo46_2 rfl nqq) ?_
        refine TL.val rfl rfl rfl (Y.load rfl sc24 rfl celD) ?_
        refine TL.as (.slice n1.ab.a n1.ab.l.length n1.ab.cap) (by rfl) ?_
        refine TL.val rfl rfl rfl (Y.sliceHi2 (k := 200) rfl Try.underlying24 sz23 rfl rfl (by omega)) ?_
        refine TL.as (.slice n1.ab.a (n1.ab.l.take 200).length n1.ab.cap) (by (rw [List.length_take, Nat.min_eq_left (by omega)])) ?_
        refine TL.nc ?_
        refine TL.val rfl rfl rfl (by first | exact Y.fieldAddrJ rfl fo46_2 rfl nqq | exact Y.fieldAddr rfl fo46_2 rfl nqq) ?_
        refine TL.eff0 rfl rfl (X.store (cs' := netC { n1 with ab := clipS n1.ab }) rfl (by kernel_rfl) rfl rfl rfl pul (by show 2 < 9; decide) rfl) ?_
        rintro _ _ rfl
        refine TL.nil ?_
        refine TQ.to (Ent.clipO (s := n1.ab) pul pul (by omega) hcap) ?_
        refine TQ.meetF (ι := Unit) (I := fun _ => True) (C := fun (_ : Unit) => []) (U := []) (()) (trivial) trivial grw ?_ ?_
        · kernel_rfl
        · simp only [List.cons_append, List.nil_append]
          exact (by first | (rw [hcl, hcm]; exact ett) | exact ett)
      · try simp only [zA, zB, zC, zD, zE, zF, zG, zH, zI, zJ] at c7
        have hcl : ({ n1 with ab := clipS n1.ab } : NP) = n1 := by rw [clipS_id (by omega)]
        have hcm : clipS n1.ab = n1.ab := clipS_id (by omega)
        refine TC.skip ?_
        refine TQ.meetF (ι := Unit) (I := fun _ => True) (C := fun (_ : Unit) => []) (U := []) (()) (trivial) trivial grw ?_ ?_
        · kernel_rfl
        · simp only [List.cons_append, List.nil_append]
          exact (by first | (rw [hcl, hcm]; exact ett) | exact ett)
    · rintro ⟨⟩ - F' L' rfl hL'
      simp only [List.cons_append, List.nil_append] at hL'
      subst hL'
      refine TC.seq (TC.region ?_)
      refine TL.mv ?_
      refine TL.nc ?_
      refine TL.val rfl rfl rfl (by first | exact Y.fieldAddrJ rfl fo46_3 rfl nqq | exact Y.fieldAddr rfl fo46_3 rfl nqq) ?_
      refine TL.val rfl rfl rfl (Y.load rfl sc24 rfl celD) ?_
      refine TL.as (.slice n1.ba.a n1.ba.l.length n1.ba.cap) (by rfl) ?_
      refine TL.val rfl rfl rfl (Y.len rfl Try.underlying24 rfl) ?_
      refine TL.val rfl rfl rfl (Y.bin rfl rfl rfl (br_gtN (n := 200))) ?_
      refine TL.nil (TQ.next ?_)
      refine TC.cond rfl (fun c8 => ?_) (fun c8 => ?_)
      · try simp only [zA, zB, zC, zD, zE, zF, zG, zH, zI, zJ] at c8
        refine TC.know (reads_cap Reads.owns (a := n1.ba.a) (n := n1.ba.l.length) (cap := n1.ba.cap) (cs := Dat.cs n1.ba.l) inn) ?_
        rintro ⟨hcap, -, -, -⟩
        refine TC.region ?_
        refine TL.mv ?_
        refine TL.mv ?_
        refine TL.nc ?_
        refine TL.val rfl rfl rfl (by first | exact Y.fieldAddrJ rfl fo46_3 rfl nqq | exact Y.fieldAddr rfl fo46_3 rfl nqq) ?_
        refine TL.val rfl rfl rfl (Y.load rfl sc24 rfl celD) ?_
        refine TL.as (.slice n1.ba.a n1.ba.l.length n1.ba.cap) (by rfl) ?_
        refine TL.val rfl rfl rfl (Y.sliceHi2 (k := 200) rfl Try.underlying24 sz23 rfl rfl (by omega)) ?_
        refine TL.as (.slice n1.ba.a (n1.ba.l.take 200).length n1.ba.cap) (by (rw [List.length_take, Nat.min_eq_left (by omega)])) ?_
        refine TL.nc ?_
        refine TL.val rfl rfl rfl (by first | exact Y.fieldAddrJ rfl fo46_3 rfl nqq | exact Y.fieldAddr rfl fo46_3 rfl nqq) ?_
        refine TL.eff0 rfl rfl (X.store (cs' := netC { n1 with ab := clipS n1.ab, ba := clipS n1.ba }) rfl (by kernel_rfl) rfl rfl rfl pul (by show 3 < 9; decide) rfl) ?_
        rintro _ _ rfl
        refine TL.nil ?_
        refine TQ.to (Ent.clipO (s := n1.ba) pul pul (by omega) hcap) ?_
        refine TQ.endE (res0 rfl) (⟨{ n1 with ab := clipS n1.ab, ba := clipS n1.ba }, A1, B1, (absN_clip n1 A1 B1).trans (congrArg PN.clip hX1), rfl⟩) ?_
        exact (by simp only [NAt, List.cons_append, List.nil_append]; first | (rw [hcl, hcm]; exact ett) | exact ett)
      · try simp only [zA, zB, zC, zD, zE, zF, zG, zH, zI, zJ] at c8
        have hcl : ({ n1 with ab := clipS n1.ab, ba := clipS n1.ba } : NP) = { n1 with ab := clipS n1.ab } := by rw [clipS_id (s := n1.ba) (by omega)]
        have hcm : clipS n1.ba = n1.ba := clipS_id (by omega)
        refine TC.skip ?_
        refine TQ.endE (res0 rfl) (⟨{ n1 with ab := clipS n1.ab, ba := clipS n1.ba }, A1, B1, (absN_clip n1 A1 B1).trans (congrArg PN.clip hX1), rfl⟩) ?_
        exact (by simp only [NAt, List.cons_append, List.nil_append]; first | (rw [hcl, hcm]; exact ett) | exact ett)
set_option maxHeartbeats 4000000 in
theorem stp5k_fn (nb : Nat) (n : NP) (A B : PS) (hF : Fits (absN n A B)) (N : Int) (k : Nat) (x : Bs) (hk : k = idxN N n.ab.l.length) (hx : n.ab.l[k]? = some x) (hxl : x.l.length ≤ 140737488351232) (d : Value) (hd1 : d.oneCell' = true) (nw : UInt16) (L : List SA) :
    Fn Try.prog 16 [pt nb 0, .agg (netArg 5 N true d nw)] (NAt nb n A B ++ L) (StepR nb ((absN n A B).pop3 k).clip (L)) := by
  obtain ⟨hn1, hn2, hn3, hn4, hn5, hn6⟩ := hF.lens
  have hnow : 0 ≤ n.now ∧ n.now ≤ 1000000000000 := hF.now
  simp only [NAt, List.cons_append, List.nil_append]
  have hkl := (List.getElem?_eq_some_iff.1 hx).1
  refine Fn.of (N := 367) Try.func16 rfl rfl ?_
  intro Xh
  refine TC.seq (TC.region ?_)
  refine TL.eff rfl rfl rfl (X.box (cs := netArg 5 N true d nw) rfl rfl rfl) ?_
  rintro _ _ ⟨b3, rfl, rfl⟩
  refine TL.nil (TQ.next ?_)
  refine TC.cutF (ι := NP × PS × PS) [] (fun i => absN i.1 i.2.1 i.2.2 = (absN n A B).pop3 k) (fun i => []) (fun i => [nB nb i.1, SD i.1.a i.2.1, SD i.1.b i.2.2, oP i.1.ab, rP i.1.ab, oP i.1.ba, rP i.1.ba, oM i.1.sent, rMs i.1.sent, oM i.1.back, rMs i.1.back, oM i.1.gB, rMs i.1.gB, oM i.1.gA, rMs i.1.gA]) (Ao := [nB nb n, SD n.a A, SD n.b B, oP n.ab, rP n.ab, oP n.ba, rP n.ba, oM n.sent, rMs n.sent, oM n.back, rMs n.back, oM n.gB, rMs n.gB, oM n.gA, rMs n.gA]) (Pulls.cons pul (Pulls.cons pul (Pulls.cons pul (Pulls.cons pul (Pulls.cons pul (Pulls.cons pul (Pulls.cons pul (Pulls.cons pul (Pulls.cons pul (Pulls.cons pul (Pulls.cons pul (Pulls.cons pul (Pulls.cons pul (Pulls.cons pul (Pulls.cons pul Pulls.nil))))))))))))))) ?_ ?_
  · rintro L' hL'
    simp only [List.cons_append, List.nil_append] at hL'
    subst hL'
    refine TC.seq (TC.region ?_)
    refine TL.val rfl rfl rfl (by first | exact Y.fieldAddrJ rfl fo42_0 rfl nqq | exact Y.fieldAddr rfl fo42_0 rfl nqq) ?_
    refine TL.val rfl rfl rfl (Y.load rfl sc3 rfl celN) ?_
    refine TL.as (vI 5) (by rfl) ?_
    refine TL.nil (TQ.next (TC.block (TC.seq (TC.seq (TC.region ?_)))))
    refine TL.val rfl rfl rfl (Y.bin rfl rfl rfl (br_eqN (n := 1))) ?_
    refine TL.is false isf ?_
    refine TL.sg ?_
    refine TL.nil (TQ.next ?_)
    refine TC.cond_f rfl ?_
    refine TC.region ?_
    refine TL.val rfl rfl rfl (Y.bin rfl rfl rfl (br_eqN (n := 2))) ?_
    refine TL.is false isf ?_
    refine TL.sg ?_
    refine TL.nil (TQ.next ?_)
    refine TC.cond_f rfl ?_
    refine TC.seq (TC.seq (TC.region ?_))
    refine TL.val rfl rfl rfl (Y.bin rfl rfl rfl (br_eqN (n := 3))) ?_
    refine TL.is false isf ?_
    refine TL.sg ?_
    refine TL.nil (TQ.next ?_)
    refine TC.cond_f rfl ?_
    refine TC.region ?_
    refine TL.val rfl rfl rfl (Y.bin rfl rfl rfl (br_eqN (n := 5))) ?_
    refine TL.is true isf ?_
    refine TL.sg ?_
    refine TL.nil (TQ.next ?_)
    refine TC.cond_t rfl ?_
    refine TC.seq (TC.seq (TC.region ?_))
    refine TL.mv ?_
    refine TL.nc ?_
    refine TL.val rfl rfl rfl (by first | exact Y.fieldAddrJ rfl fo46_2 rfl nqq | exact Y.fieldAddr rfl fo46_2 rfl nqq) ?_
    refine TL.val rfl rfl rfl (Y.load rfl sc24 rfl celD) ?_
    refine TL.as (.slice n.ab.a n.ab.l.length n.ab.cap) (by rfl) ?_
    refine TL.val rfl rfl rfl (Y.len rfl Try.underlying24 rfl) ?_
    refine TL.val rfl rfl rfl (Y.bin rfl rfl rfl (br_eqN (n := 0))) ?_
    refine TL.is false (by (simp; intro h; rw [h] at hkl; simp at hkl)) ?_
    refine TL.nil (TQ.next ?_)
    refine TC.cond_f rfl ?_
    refine TC.skip (TQ.next (TC.seq ?_))
    refine TC.draws 12 _ (by kernel_rfl) (by kernel_rfl) (fun _ h => h) ?_
    refine TA.tk 0 rfl rfl (by first | exact Y.fieldAddrJ rfl fo42_1 rfl nqq | exact Y.fieldAddr rfl fo42_1 rfl nqq) ?_
    refine TA.tk 1 rfl rfl (Y.load rfl sc3 rfl celN) ?_
    refine TA.as (vI N) (by rfl) ?_
    refine TA.tk 2 rfl rfl (Y.conv (m := (((N % 18446744073709551616).toNat : Nat) : Int)) rfl Try.underlying3 Try.underlying56 rfl (by rw [wrap_u64]; omega)) ?_
    refine TA.tk 3 rfl rfl (Y.move rfl rfl) ?_
    refine TA.tk 4 rfl rfl (Y.nilCheck rfl rfl) ?_
    refine TA.tk 5 rfl rfl (by first | exact Y.fieldAddrJ rfl fo46_2 rfl nqq | exact Y.fieldAddr rfl fo46_2 rfl nqq) ?_
    refine TA.tk 6 rfl rfl (Y.load rfl sc24 rfl celD) ?_
    refine TA.as (.slice n.ab.a n.ab.l.length n.ab.cap) (by rfl) ?_
    refine TA.tk 7 rfl rfl (Y.len rfl Try.underlying24 rfl) ?_
    refine TA.tk 8 rfl rfl (Y.conv rfl Try.underlying3 Try.underlying56 rfl (cv_N_64n (by omega))) ?_
    refine TA.tk 9 rfl rfl (Y.bin rfl rfl rfl (br_remU (by omega))) ?_
    refine TA.as (.int .u64 ((k : Nat) : Int)) (by (rw [hk]; rfl)) ?_
    refine TA.tk 10 rfl rfl (Y.conv rfl Try.underlying56 Try.underlying3 rfl (cv_64n_N (by omega))) ?_
    refine TA.tk 11 rfl rfl (Y.assign rfl rfl) ?_
    refine TA.done (by kernel_rfl) ?_
    refine TQ.next (TC.seq ?_)
    refine TC.know (reads_cap Reads.owns (a := n.ab.a) (n := n.ab.l.length) (cap := n.ab.cap) (cs := Dat.cs n.ab.l) inn) ?_
    rintro ⟨hcap0, -, -, -⟩
    refine TC.know (owns_some (a := n.ab.a) (n := n.ab.l.length) inn (by omega)) ?_
    rintro ⟨g, off, hqa⟩
    refine TC.region ?_
    refine TL.mv ?_
    refine TL.nc ?_
    refine TL.val rfl rfl rfl (by first | exact Y.fieldAddrJ rfl fo46_2 rfl nqq | exact Y.fieldAddr rfl fo46_2 rfl nqq) ?_
    refine TL.val rfl rfl rfl (Y.load rfl sc24 rfl celD) ?_
    refine TL.as (.slice (some ⟨g, off, none⟩) n.ab.l.length n.ab.cap) (by (rw [← hqa]; rfl)) ?_
    refine TL.mv ?_
    refine TL.val rfl rfl rfl (by first | exact Y.indexSlB rfl sl24 rfl rfl (by omega) nqq | exact Y.indexSl rfl sl24 rfl rfl (by omega) nqq) ?_
    refine TL.val rfl rfl rfl (Y.load rfl sc23 rfl (Cel.atS (A := SA.owns 23 1 (.slice (some ⟨g, off, none⟩) n.ab.l.length n.ab.cap) n.ab.l.length (Dat.cs n.ab.l)) Reads.owns (by rw [← hqa]; exact inn) hx rfl)) ?_
    refine TL.as (.slice x.a x.l.length x.cap) (by rfl) ?_
    refine TL.sg ?_
    refine TL.nil (TQ.next (TC.seq (TC.seq (TC.region ?_))))
    refine TL.val rfl rfl rfl (by first | exact Y.fieldAddrJ rfl fo42_2 rfl nqq | exact Y.fieldAddr rfl fo42_2 rfl nqq) ?_
    refine TL.val rfl rfl rfl (Y.load rfl sc4 rfl celD) ?_
    refine TL.as (.bool true) (by rfl) ?_
    refine TL.val rfl rfl rfl (Y.not rfl rfl) ?_
    refine TL.is false isf ?_
    refine TL.mv ?_
    refine TL.valG rfl rfl rfl (by first | exact Y.fieldAddrJ rfl fo42_0 rfl nqq | exact Y.fieldAddr rfl fo42_0 rfl nqq) ?_
    refine TL.valG rfl rfl rfl (Y.load rfl sc3 rfl celN) ?_
    refine TL.as (vI 5) (by rfl) ?_
    refine TL.valG rfl rfl rfl (Y.bin rfl rfl rfl (br_eqN (n := 5))) ?_
    refine TL.is true isf ?_
    refine TL.val rfl rfl rfl (Y.pick_f rfl rfl rfl) ?_
    refine TL.nil (TQ.next ?_)
    refine TC.cond_t rfl ?_
    refine TC.draws 19 [nB nb n, oP n.ab] (by kernel_rfl) (by kernel_rfl) hld ?_
    refine TA.tk 0 rfl rfl (Y.move rfl rfl) ?_
    refine TA.tk 2 rfl rfl (Y.move rfl rfl) ?_
    refine TA.tk 3 rfl rfl (Y.nilCheck rfl rfl) ?_
    refine TA.tk 4 rfl rfl (by first | exact Y.fieldAddrJ rfl fo46_2 rfl nqq | exact Y.fieldAddr rfl fo46_2 rfl nqq) ?_
    refine TA.tk 5 rfl rfl (Y.load rfl sc24 rfl celD) ?_
    refine TA.as (.slice n.ab.a n.ab.l.length n.ab.cap) (by rfl) ?_
    refine TA.tk 6 rfl rfl (Y.move rfl rfl) ?_
    refine TA.tk 7 rfl rfl (Y.sliceHi2 (sz := 1) rfl Try.underlying24 (by kernel_rfl) rfl rfl (by omega)) ?_
    refine TA.tk 9 rfl rfl (Y.move rfl rfl) ?_
    refine TA.tk 10 rfl rfl (Y.nilCheck rfl rfl) ?_
    refine TA.tk 11 rfl rfl (by first | exact Y.fieldAddrJ rfl fo46_2 rfl nqq | exact Y.fieldAddr rfl fo46_2 rfl nqq) ?_
    refine TA.tk 12 rfl rfl (Y.load rfl sc24 rfl celD) ?_
    refine TA.as (.slice n.ab.a n.ab.l.length n.ab.cap) (by rfl) ?_
    refine TA.tk 13 rfl rfl (Y.move rfl rfl) ?_
    refine TA.tk 14 rfl rfl (Y.bin rfl rfl rfl (br_addN (n := 1) (by omega))) ?_
    refine TA.tk 15 rfl rfl (Y.sliceLo rfl Try.underlying24 sz23 rfl rfl (by omega)) ?_
    refine TA.one 1 (by kernel_rfl) rfl rfl rfl rfl (X.lit rfl el24 rfl rfl rfl (by decide) rfl) ?_
    rintro _ _ ⟨g147, rfl, rfl⟩
    refine ⟨(Or.inr hld), ?_⟩
    refine TA.one 8 (by kernel_rfl) rfl rfl rfl rfl (X.appendS rfl el24 rfl pul rfl (Src.reads (Reads.head (A := oP n.ab) (k := k) (n := n.ab.l.length) (cs := Dat.cs n.ab.l) Reads.owns (by omega)) Try.underlying24 inn) (by simp only [maxLen]; omega) (by omega)) ?_
    rintro _ _ ⟨a154, c154, rfl, rfl⟩
    rw [show ([] : List Value) ++ (Dat.cs n.ab.l).take (k * 1) = Dat.cs (n.ab.l.take k) by rw [Dat.cs_take]; rfl, Nat.zero_add]
    refine ⟨(Or.inr hld), ?_⟩
    refine TA.one 16 (by kernel_rfl) rfl rfl rfl rfl (X.appendS rfl el24 rfl pul rfl (Src.cut Reads.owns Try.underlying24 inn (by omega) (by omega)) (by simp only [maxLen]; omega) (by omega)) ?_
    rintro _ _ ⟨a162, c162, rfl, rfl⟩
    rw [cs_erase _ _ hkl, show k + (n.ab.l.length - (k + 1)) = (n.ab.l.eraseIdx k).length by rw [List.length_eraseIdx, if_pos hkl]; omega]
    refine ⟨(Or.inr hld), ?_⟩
    refine TA.tp 17 rfl rfl (Y.nilCheck rfl rfl) ?_
    refine TA.tk 18 rfl rfl (by first | exact Y.fieldAddrJ rfl fo46_2 rfl nqq | exact Y.fieldAddr rfl fo46_2 rfl nqq) ?_
    refine TA.one0 19 (by kernel_rfl) rfl rfl rfl (X.store (cs' := netC { n with ab := ⟨a162, c162, n.ab.l.eraseIdx k⟩ }) rfl (by kernel_rfl) rfl rfl rfl pul (by show 2 < 9; decide) rfl) ?_
    rintro _ _ rfl
    refine ⟨(Or.inl (by kernel_rfl)), ?_⟩
    refine TA.done (by kernel_rfl) ?_
    refine TQ.next (TC.seq ?_)
    refine TC.to (Ent.elP (List.mem_of_getElem? hx) pul) ?_
    refine TC.to (Ent.rdssDrop (gs := n.ab.l.flatMap Dat.g) (hs := (n.ab.l.eraseIdx k).flatMap Dat.g) pul (fun q hq => by obtain ⟨z, hz, hq⟩ := List.mem_flatMap.1 hq; exact List.mem_flatMap.2 ⟨z, List.mem_of_mem_eraseIdx hz, hq⟩)) ?_
    refine TC.region ?_
    refine TL.val rfl rfl rfl (by first | exact Y.fieldAddrJ rfl fo42_0 rfl nqq | exact Y.fieldAddr rfl fo42_0 rfl nqq) ?_
    refine TL.val rfl rfl rfl (Y.load rfl sc3 rfl celN) ?_
    refine TL.as (vI 5) (by rfl) ?_
    refine TL.val rfl rfl rfl (Y.bin rfl rfl rfl (br_eqN (n := 3))) ?_
    refine TL.is false isf ?_
    refine TL.nil (TQ.next ?_)
    refine TC.cond_f rfl ?_
    refine TC.skip (TQ.block_normal ?_)
    refine TQ.meetF (ι := NP × PS × PS) (I := fun i => absN i.1 i.2.1 i.2.2 = (absN n A B).pop3 k) (C := fun (_ : NP × PS × PS) => []) (U := []) (({ n with ab := ⟨a162, c162, n.ab.l.eraseIdx k⟩ }, A, B)) (absN_eq rfl rfl (outs_erase _ _ _ _) (rfl) rfl rfl (rfl) rfl rfl) trivial grw ?_ ?_
    · kernel_rfl
    · simp only [List.cons_append, List.nil_append]
      exact ett
  · rintro ⟨n1, A1, B1⟩ hX1 F' L' rfl hL'
    simp only [List.cons_append, List.nil_append] at hL'
    subst hL'
    simp only at hX1 ⊢
    refine TC.cutF (ι := Unit) [] (fun _ => True) (fun _ => []) (fun _ => [nB nb { n1 with ab := clipS n1.ab }, oP (clipS n1.ab), rP (clipS n1.ab)]) (Ao := [nB nb n1, oP n1.ab, rP n1.ab]) (Pulls.cons pul (Pulls.cons pul (Pulls.cons pul Pulls.nil))) ?_ ?_
    · rintro L' hL'
      simp only [List.cons_append, List.nil_append] at hL'
      subst hL'
      refine TC.seq (TC.region ?_)
      refine TL.mv ?_
      refine TL.nc ?_
      refine TL.val rfl rfl rfl (by first | exact Y.fieldAddrJ rfl fo46_2 rfl nqq | exact Y.fieldAddr rfl fo46_2 rfl nqq) ?_
      refine TL.val rfl rfl rfl (Y.load rfl sc24 rfl celD) ?_
      refine TL.as (.slice n1.ab.a n1.ab.l.length n1.ab.cap) (by rfl) ?_
      refine TL.val rfl rfl rfl (Y.len rfl Try.underlying24 rfl) ?_
      refine TL.val rfl rfl rfl (Y.bin rfl rfl rfl (br_gtN (n := 200))) ?_
      refine TL.nil (TQ.next ?_)
      refine TC.cond rfl (fun c7 => ?_) (fun c7 => ?_)
      · try simp only [zA, zB, zC, zD, zE, zF, zG, zH, zI, zJ] at c7
        refine TC.know (reads_cap Reads.owns (a := n1.ab.a) (n := n1.ab.l.length) (cap := n1.ab.cap) (cs := Dat.cs n1.ab.l) inn) ?_
        rintro ⟨hcap, -, -, -⟩
        refine TC.region ?_
        refine TL.mv ?_
        refine TL.mv ?_
        refine TL.nc ?_
        refine TL.val rfl rfl rfl (by first | exact Y.fieldAddrJ rfl fo46_2 rfl nqq | exact Y.fieldAddr rfl fo46_2 rfl nqq) ?_
        refine TL.val rfl rfl rfl (Y.load rfl sc24 rfl celD) ?_
        refine TL.as (.slice n1.ab.a n1.ab.l.length n1.ab.cap) (by rfl) ?_
        refine TL.val rfl rfl rfl (Y.sliceHi2 (k := 200) rfl Try.underlying24 sz23 rfl rfl (by omega)) ?_
        refine TL.as (.slice n1.ab.a (n1.ab.l.take 200).length n1.ab.cap) (by (rw [List.length_take, Nat.min_eq_left (by omega)])) ?_
        refine TL.nc ?_
        refine TL.val rfl rfl rfl (by first | exact Y.fieldAddrJ rfl fo46_2 rfl nqq | exact Y.fieldAddr rfl fo46_2 rfl nqq) ?_
        refine TL.eff0 rfl rfl (X.store (cs' := netC { n1 with ab := clipS n1.ab }) rfl (by kernel_rfl) rfl rfl rfl pul (by show 2 < 9; decide) rfl) ?_
        rintro _ _ rfl
        refine TL.nil ?_
        refine TQ.to (Ent.clipO (s := n1.ab) pul pul (by omega) hcap) ?_
        refine TQ.meetF (ι := Unit) (I := fun _ => True) (C := fun (_ : Unit) => []) (U := []) (()) (trivial) trivial grw ?_ ?_
        · kernel_rfl
        · simp only [List.cons_append, List.nil_append]
          exact (by first | (rw [hcl, hcm]; exact ett) | exact ett)
      · try simp only [zA, zB, zC, zD, zE, zF, zG, zH, zI, zJ] at c7
        have hcl : ({ n1 with ab := clipS n1.ab } : NP) = n1 := by rw [clipS_id (by omega)]
        have hcm : clipS n1.ab = n1.ab := clipS_id (by omega)
        refine TC.skip ?_
        refine TQ.meetF (ι := Unit) (I := fun _ => True) (C := fun (_ : Unit) => []) (U := []) (()) (trivial) trivial grw ?_ ?_
        · kernel_rfl
        · simp only [List.cons_append, List.nil_append]
          exact (by first | (rw [hcl, hcm]; exact ett) | exact ett)
    · rintro ⟨⟩ - F' L' rfl hL'
      simp only [List.cons_append, List.nil_append] at hL'
      subst hL'
      refine TC.seq (TC.region ?_)
      refine TL.mv ?_
      refine TL.nc ?_
      refine TL.val rfl rfl rfl (by first | exact Y.fieldAddrJ rfl fo46_3 rfl nqq | exact Y.fieldAddr rfl fo46_3 rfl nqq) ?_
      refine TL.val rfl rfl rfl (Y.load rfl sc24 rfl celD) ?_
      refine TL.as (.slice n1.ba.a n1.ba.l.length n1.ba.cap) (by rfl) ?_
      refine TL.val rfl rfl rfl (Y.len rfl Try.underlying24 rfl) ?_
      refine TL.val rfl rfl rfl (Y.bin rfl rfl rfl (br_gtN (n := 200))) ?_
      refine TL.nil (TQ.next ?_)
      refine TC.cond rfl (fun c8 => ?_) (fun c8 => ?_)
      · try simp only [zA, zB, zC, zD, zE, zF, zG, zH, zI, zJ] at c8
        refine TC.know (reads_cap Reads.owns (a := n1.ba.a) (n := n1.ba.l.length) (cap := n1.ba.cap) (cs := Dat.cs n1.ba.l) inn) ?_
        rintro ⟨hcap, -, -, -⟩
        refine TC.region ?_
        refine TL.mv ?_
        refine TL.mv ?_
        refine TL.nc ?_
        refine TL.val rfl rfl rfl (by first | exact Y.fieldAddrJ rfl fo46_3 rfl nqq | exact Y.fieldAddr rfl fo46_3 rfl nqq) ?_
        refine TL.val rfl rfl rfl (Y.load rfl sc24 rfl celD) ?_
        refine TL.as (.slice n1.ba.a n1.ba.l.length n1.ba.cap) (by rfl) ?_
        refine TL.val rfl rfl rfl (Y.sliceHi2 (k := 200) rfl Try.underlying24 sz23 rfl rfl (by omega)) ?_
        refine TL.as (.slice n1.ba.a (n1.ba.l.take 200).length n1.ba.cap) (by (rw [List.length_take, Nat.min_eq_left (by omega)])) ?_
        refine TL.nc ?_
        refine TL.val rfl rfl rfl (by first | exact Y.fieldAddrJ rfl fo46_3 rfl nqq | exact Y.fieldAddr rfl fo46_3 rfl nqq) ?_
        refine TL.eff0 rfl rfl (X.store (cs' := netC { n1 with ab := clipS n1.ab, ba := clipS n1.ba }) rfl (by kernel_rfl) rfl rfl rfl pul (by show 3 < 9; decide) rfl) ?_
        rintro _ _ rfl
        refine TL.nil ?_
        refine TQ.to (Ent.clipO (s := n1.ba) pul pul (by omega) hcap) ?_
        refine TQ.endE (res0 rfl) (⟨{ n1 with ab := clipS n1.ab, ba := clipS n1.ba }, A1, B1, (absN_clip n1 A1 B1).trans (congrArg PN.clip hX1), rfl⟩) ?_
        exact (by simp only [NAt, List.cons_append, List.nil_append]; first | (rw [hcl, hcm]; exact ett) | exact ett)
      · try simp only [zA, zB, zC, zD, zE, zF, zG, zH, zI, zJ] at c8
        have hcl : ({ n1 with ab := clipS n1.ab, ba := clipS n1.ba } : NP) = { n1 with ab := clipS n1.ab } := by rw [clipS_id (s := n1.ba) (by omega)]
        have hcm : clipS n1.ba = n1.ba := clipS_id (by omega)
        refine TC.skip ?_
        refine TQ.endE (res0 rfl) (⟨{ n1 with ab := clipS n1.ab, ba := clipS n1.ba }, A1, B1, (absN_clip n1 A1 B1).trans (congrArg PN.clip hX1), rfl⟩) ?_
        exact (by simp only [NAt, List.cons_append, List.nil_append]; first | (rw [hcl, hcm]; exact ett) | exact ett)
set_option maxHeartbeats 4000000 in
theorem stp4_fn (nb : Nat) (n : NP) (A B : PS) (hF : Fits (absN n A B)) (N : Int) (k : Nat) (x : Bs) (hk : k = idxN N n.ba.l.length) (hx : n.ba.l[k]? = some x) (hxl : x.l.length ≤ 140737488351232) (d : Value) (hd1 : d.oneCell' = true) (nw : UInt16) (L : List SA) :
    Fn Try.prog 16 [pt nb 0, .agg (netArg 4 N false d nw)] (NAt nb n A B ++ L) (StepR nb (((absN n A B).pop4 k).hand4 x.l).clip (L)) := by
  obtain ⟨hn1, hn2, hn3, hn4, hn5, hn6⟩ := hF.lens
  have hnow : 0 ≤ n.now ∧ n.now ≤ 1000000000000 := hF.now
  simp only [NAt, List.cons_append, List.nil_append]
  have hkl := (List.getElem?_eq_some_iff.1 hx).1
  refine Fn.of (N := 367) Try.func16 rfl rfl ?_
  intro Xh
  refine TC.seq (TC.region ?_)
  refine TL.eff rfl rfl rfl (X.box (cs := netArg 4 N false d nw) rfl rfl rfl) ?_
  rintro _ _ ⟨b3, rfl, rfl⟩
  refine TL.nil (TQ.next ?_)
  refine TC.cutF (ι := NP × PS × PS) [] (fun i => absN i.1 i.2.1 i.2.2 = ((absN n A B).pop4 k).hand4 x.l) (fun i => []) (fun i => [nB nb i.1, SD i.1.a i.2.1, SD i.1.b i.2.2, oP i.1.ab, rP i.1.ab, oP i.1.ba, rP i.1.ba, oM i.1.sent, rMs i.1.sent, oM i.1.back, rMs i.1.back, oM i.1.gB, rMs i.1.gB, oM i.1.gA, rMs i.1.gA]) (Ao := [nB nb n, SD n.a A, SD n.b B, oP n.ab, rP n.ab, oP n.ba, rP n.ba, oM n.sent, rMs n.sent, oM n.back, rMs n.back, oM n.gB, rMs n.gB, oM n.gA, rMs n.gA]) (Pulls.cons pul (Pulls.cons pul (Pulls.cons pul (Pulls.cons pul (Pulls.cons pul (Pulls.cons pul (Pulls.cons pul (Pulls.cons pul (Pulls.cons pul (Pulls.cons pul (Pulls.cons pul (Pulls.cons pul (Pulls.cons pul (Pulls.cons pul (Pulls.cons pul Pulls.nil))))))))))))))) ?_ ?_
  · rintro L' hL'
    simp only [List.cons_append, List.nil_append] at hL'
    subst hL'
    refine TC.seq (TC.region ?_)
    refine TL.val rfl rfl rfl (by first | exact Y.fieldAddrJ rfl fo42_0 rfl nqq | exact Y.fieldAddr rfl fo42_0 rfl nqq) ?_
    refine TL.val rfl rfl rfl (Y.load rfl sc3 rfl celN) ?_
    refine TL.as (vI 4) (by rfl) ?_
    refine TL.nil (TQ.next (TC.block (TC.seq (TC.seq (TC.region ?_)))))
    refine TL.val rfl rfl rfl (Y.bin rfl rfl rfl (br_eqN (n := 1))) ?_
    refine TL.is false isf ?_
    refine TL.sg ?_
    refine TL.nil (TQ.next ?_)
    refine TC.cond_f rfl ?_
    refine TC.region ?_
    refine TL.val rfl rfl rfl (Y.bin rfl rfl rfl (br_eqN (n := 2))) ?_
    refine TL.is false isf ?_
    refine TL.sg ?_
    refine TL.nil (TQ.next ?_)
    refine TC.cond_f rfl ?_
    refine TC.seq (TC.seq (TC.region ?_))
    refine TL.val rfl rfl rfl (Y.bin rfl rfl rfl (br_eqN (n := 3))) ?_
    refine TL.is false isf ?_
    refine TL.sg ?_
    refine TL.nil (TQ.next ?_)
    refine TC.cond_f rfl ?_
    refine TC.region ?_
    refine TL.val rfl rfl rfl (Y.bin rfl rfl rfl (br_eqN (n := 5))) ?_
    refine TL.is false isf ?_
    refine TL.sg ?_
    refine TL.nil (TQ.next ?_)
    refine TC.cond_f rfl ?_
    refine TC.seq (TC.seq (TC.region ?_))
    refine TL.val rfl rfl rfl (Y.bin rfl rfl rfl (br_eqN (n := 4))) ?_
    refine TL.is true isf ?_
    refine TL.sg ?_
    refine TL.nil (TQ.next ?_)
    refine TC.cond_t rfl ?_
    refine TC.skip (TQ.next ?_)
    refine TC.cond_t rfl ?_
    refine TC.seq (TC.seq (TC.region ?_))
    refine TL.mv ?_
    refine TL.nc ?_
    refine TL.val rfl rfl rfl (by first | exact Y.fieldAddrJ rfl fo46_3 rfl nqq | exact Y.fieldAddr rfl fo46_3 rfl nqq) ?_
    refine TL.val rfl rfl rfl (Y.load rfl sc24 rfl celD) ?_
    refine TL.as (.slice n.ba.a n.ba.l.length n.ba.cap) (by rfl) ?_
    refine TL.val rfl rfl rfl (Y.len rfl Try.underlying24 rfl) ?_
    refine TL.val rfl rfl rfl (Y.bin rfl rfl rfl (br_eqN (n := 0))) ?_
    refine TL.is false (by (simp; intro h; rw [h] at hkl; simp at hkl)) ?_
    refine TL.nil (TQ.next ?_)
    refine TC.cond_f rfl ?_
    refine TC.skip (TQ.next (TC.seq ?_))
    refine TC.draws 12 _ (by kernel_rfl) (by kernel_rfl) (fun _ h => h) ?_
    refine TA.tk 0 rfl rfl (by first | exact Y.fieldAddrJ rfl fo42_1 rfl nqq | exact Y.fieldAddr rfl fo42_1 rfl nqq) ?_
    refine TA.tk 1 rfl rfl (Y.load rfl sc3 rfl celN) ?_
    refine TA.as (vI N) (by rfl) ?_
    refine TA.tk 2 rfl rfl (Y.conv (m := (((N % 18446744073709551616).toNat : Nat) : Int)) rfl Try.underlying3 Try.underlying56 rfl (by rw [wrap_u64]; omega)) ?_
    refine TA.tk 3 rfl rfl (Y.move rfl rfl) ?_
    refine TA.tk 4 rfl rfl (Y.nilCheck rfl rfl) ?_
    refine TA.tk 5 rfl rfl (by first | exact Y.fieldAddrJ rfl fo46_3 rfl nqq | exact Y.fieldAddr rfl fo46_3 rfl nqq) ?_
    refine TA.tk 6 rfl rfl (Y.load rfl sc24 rfl celD) ?_
    refine TA.as (.slice n.ba.a n.ba.l.length n.ba.cap) (by rfl) ?_
    refine TA.tk 7 rfl rfl (Y.len rfl Try.underlying24 rfl) ?_
    refine TA.tk 8 rfl rfl (Y.conv rfl Try.underlying3 Try.underlying56 rfl (cv_N_64n (by omega))) ?_
    refine TA.tk 9 rfl rfl (Y.bin rfl rfl rfl (br_remU (by omega))) ?_
    refine TA.as (.int .u64 ((k : Nat) : Int)) (by (rw [hk]; rfl)) ?_
    refine TA.tk 10 rfl rfl (Y.conv rfl Try.underlying56 Try.underlying3 rfl (cv_64n_N (by omega))) ?_
    refine TA.tk 11 rfl rfl (Y.assign rfl rfl) ?_
    refine TA.done (by kernel_rfl) ?_
    refine TQ.next (TC.seq ?_)
    refine TC.know (reads_cap Reads.owns (a := n.ba.a) (n := n.ba.l.length) (cap := n.ba.cap) (cs := Dat.cs n.ba.l) inn) ?_
    rintro ⟨hcap0, -, -, -⟩
    refine TC.know (owns_some (a := n.ba.a) (n := n.ba.l.length) inn (by omega)) ?_
    rintro ⟨g, off, hqa⟩
    refine TC.region ?_
    refine TL.mv ?_
    refine TL.nc ?_
    refine TL.val rfl rfl rfl (by first | exact Y.fieldAddrJ rfl fo46_3 rfl nqq | exact Y.fieldAddr rfl fo46_3 rfl nqq) ?_
    refine TL.val rfl rfl rfl (Y.load rfl sc24 rfl celD) ?_
    refine TL.as (.slice (some ⟨g, off, none⟩) n.ba.l.length n.ba.cap) (by (rw [← hqa]; rfl)) ?_
    refine TL.mv ?_
    refine TL.val rfl rfl rfl (by first | exact Y.indexSlB rfl sl24 rfl rfl (by omega) nqq | exact Y.indexSl rfl sl24 rfl rfl (by omega) nqq) ?_
    refine TL.val rfl rfl rfl (Y.load rfl sc23 rfl (Cel.atS (A := SA.owns 23 1 (.slice (some ⟨g, off, none⟩) n.ba.l.length n.ba.cap) n.ba.l.length (Dat.cs n.ba.l)) Reads.owns (by rw [← hqa]; exact inn) hx rfl)) ?_
    refine TL.as (.slice x.a x.l.length x.cap) (by rfl) ?_
    refine TL.sg ?_
    refine TL.nil (TQ.next (TC.seq (TC.seq (TC.region ?_))))
    refine TL.val rfl rfl rfl (by first | exact Y.fieldAddrJ rfl fo42_2 rfl nqq | exact Y.fieldAddr rfl fo42_2 rfl nqq) ?_
    refine TL.val rfl rfl rfl (Y.load rfl sc4 rfl celD) ?_
    refine TL.as (.bool false) (by rfl) ?_
    refine TL.val rfl rfl rfl (Y.not rfl rfl) ?_
    refine TL.is true isf ?_
    refine TL.mv ?_
    refine TL.not rfl rfl rfl ?_
    refine TL.not rfl rfl rfl ?_
    refine TL.not rfl rfl rfl ?_
    refine TL.val rfl rfl rfl (Y.pick_t rfl rfl rfl) ?_
    refine TL.nil (TQ.next ?_)
    refine TC.cond_t rfl ?_
    refine TC.draws 19 [nB nb n, oP n.ba] (by kernel_rfl) (by kernel_rfl) hld ?_
    refine TA.tk 0 rfl rfl (Y.move rfl rfl) ?_
    refine TA.tk 2 rfl rfl (Y.move rfl rfl) ?_
    refine TA.tk 3 rfl rfl (Y.nilCheck rfl rfl) ?_
    refine TA.tk 4 rfl rfl (by first | exact Y.fieldAddrJ rfl fo46_3 rfl nqq | exact Y.fieldAddr rfl fo46_3 rfl nqq) ?_
    refine TA.tk 5 rfl rfl (Y.load rfl sc24 rfl celD) ?_
    refine TA.as (.slice n.ba.a n.ba.l.length n.ba.cap) (by rfl) ?_
    refine TA.tk 6 rfl rfl (Y.move rfl rfl) ?_
    refine TA.tk 7 rfl rfl (Y.sliceHi2 (sz := 1) rfl Try.underlying24 (by kernel_rfl) rfl rfl (by omega)) ?_
    refine TA.tk 9 rfl rfl (Y.move rfl rfl) ?_
    refine TA.tk 10 rfl rfl (Y.nilCheck rfl rfl) ?_
    refine TA.tk 11 rfl rfl (by first | exact Y.fieldAddrJ rfl fo46_3 rfl nqq | exact Y.fieldAddr rfl fo46_3 rfl nqq) ?_
    refine TA.tk 12 rfl rfl (Y.load rfl sc24 rfl celD) ?_
    refine TA.as (.slice n.ba.a n.ba.l.length n.ba.cap) (by rfl) ?_
    refine TA.tk 13 rfl rfl (Y.move rfl rfl) ?_
    refine TA.tk 14 rfl rfl (Y.bin rfl rfl rfl (br_addN (n := 1) (by omega))) ?_
    refine TA.tk 15 rfl rfl (Y.sliceLo rfl Try.underlying24 sz23 rfl rfl (by omega)) ?_
    refine TA.one 1 (by kernel_rfl) rfl rfl rfl rfl (X.lit rfl el24 rfl rfl rfl (by decide) rfl) ?_
    rintro _ _ ⟨g237, rfl, rfl⟩
    refine ⟨(Or.inr hld), ?_⟩
    refine TA.one 8 (by kernel_rfl) rfl rfl rfl rfl (X.appendS rfl el24 rfl pul rfl (Src.reads (Reads.head (A := oP n.ba) (k := k) (n := n.ba.l.length) (cs := Dat.cs n.ba.l) Reads.owns (by omega)) Try.underlying24 inn) (by simp only [maxLen]; omega) (by omega)) ?_
    rintro _ _ ⟨a244, c244, rfl, rfl⟩
    rw [show ([] : List Value) ++ (Dat.cs n.ba.l).take (k * 1) = Dat.cs (n.ba.l.take k) by rw [Dat.cs_take]; rfl, Nat.zero_add]
    refine ⟨(Or.inr hld), ?_⟩
    refine TA.one 16 (by kernel_rfl) rfl rfl rfl rfl (X.appendS rfl el24 rfl pul rfl (Src.cut Reads.owns Try.underlying24 inn (by omega) (by omega)) (by simp only [maxLen]; omega) (by omega)) ?_
    rintro _ _ ⟨a252, c252, rfl, rfl⟩
    rw [cs_erase _ _ hkl, show k + (n.ba.l.length - (k + 1)) = (n.ba.l.eraseIdx k).length by rw [List.length_eraseIdx, if_pos hkl]; omega]
    refine ⟨(Or.inr hld), ?_⟩
    refine TA.tp 17 rfl rfl (Y.nilCheck rfl rfl) ?_
    refine TA.tk 18 rfl rfl (by first | exact Y.fieldAddrJ rfl fo46_3 rfl nqq | exact Y.fieldAddr rfl fo46_3 rfl nqq) ?_
    refine TA.one0 19 (by kernel_rfl) rfl rfl rfl (X.store (cs' := netC { n with ba := ⟨a252, c252, n.ba.l.eraseIdx k⟩ }) rfl (by kernel_rfl) rfl rfl rfl pul (by show 3 < 9; decide) rfl) ?_
    rintro _ _ rfl
    refine ⟨(Or.inl (by kernel_rfl)), ?_⟩
    refine TA.done (by kernel_rfl) ?_
    refine TQ.next (TC.seq ?_)
    refine TC.to (Ent.elP (List.mem_of_getElem? hx) pul) ?_
    refine TC.to (Ent.rdssDrop (gs := n.ba.l.flatMap Dat.g) (hs := (n.ba.l.eraseIdx k).flatMap Dat.g) pul (fun q hq => by obtain ⟨z, hz, hq⟩ := List.mem_flatMap.1 hq; exact List.mem_flatMap.2 ⟨z, List.mem_of_mem_eraseIdx hz, hq⟩)) ?_
    refine TC.region ?_
    refine TL.val rfl rfl rfl (by first | exact Y.fieldAddrJ rfl fo42_0 rfl nqq | exact Y.fieldAddr rfl fo42_0 rfl nqq) ?_
    refine TL.val rfl rfl rfl (Y.load rfl sc3 rfl celN) ?_
    refine TL.as (vI 4) (by rfl) ?_
    refine TL.val rfl rfl rfl (Y.bin rfl rfl rfl (br_eqN (n := 4))) ?_
    refine TL.is true isf ?_
    refine TL.nil (TQ.next ?_)
    refine TC.cond_t rfl ?_
    refine TC.seq ?_
    refine TC.draws 9 [nB nb { n with ba := ⟨a252, c252, n.ba.l.eraseIdx k⟩ }] (by kernel_rfl) (by kernel_rfl) hld ?_
    refine TA.tp 0 rfl rfl (Y.move rfl rfl) ?_
    refine TA.tp 1 rfl rfl (Y.nilCheck rfl rfl) ?_
    refine TA.tp 2 rfl rfl (by first | exact Y.fieldAddrJ rfl fo46_0 rfl nqq | exact Y.fieldAddr rfl fo46_0 rfl nqq) ?_
    refine TA.tk 3 rfl rfl (Y.load rfl sc26 rfl celD) ?_
    refine TA.as (pt n.a 0) (by rfl) ?_
    refine TA.tk 4 rfl rfl (Y.move rfl rfl) ?_
    refine TA.tp 5 rfl rfl (Y.move rfl rfl) ?_
    refine TA.tp 6 rfl rfl (Y.nilCheck rfl rfl) ?_
    refine TA.tp 7 rfl rfl (by first | exact Y.fieldAddrJ rfl fo46_8 rfl nqq | exact Y.fieldAddr rfl fo46_8 rfl nqq) ?_
    refine TA.tk 8 rfl rfl (Y.load rfl sc2 rfl celN) ?_
    refine TA.as (vI n.now) (by rfl) ?_
    refine TA.one 9 (by kernel_rfl) rfl rfl rfl rfl (X.cl rfl Try.func12 rfl (h := (Handle_fn n.a A hF.a.toInvP x.a x.l.length x.cap x.l rfl hxl n.now _))) ?_
    rintro _ _ ⟨o, g2, rfl, ho, hg2, rfl⟩
    obtain ⟨hz1, hz2⟩ := handle_out A hF.a n.now x.l
    have hol : o.l.length ≤ 16 := by have := congrArg List.length ho; rw [List.length_map] at this; omega
    have hgl2 : g2.l.length ≤ 33 := by have := congrArg List.length hg2; rw [List.length_map] at this; omega
    refine ⟨(Or.inl (by kernel_rfl)), ?_⟩
    refine TA.tp 10 rfl rfl (Y.move rfl rfl) ?_
    refine TA.tp 11 rfl rfl (Y.extract rfl rfl rfl) ?_
    refine TA.as (.slice o.a o.l.length o.cap) (by rfl) ?_
    refine TA.tp 12 rfl rfl (Y.extract rfl rfl rfl) ?_
    refine TA.as (.slice g2.a g2.l.length g2.cap) (by rfl) ?_
    refine TA.tp 13 rfl rfl (Y.extract rfl rfl rfl) ?_
    refine TA.tp 14 rfl rfl (Y.assign rfl rfl) ?_
    refine TA.tp 15 rfl rfl (Y.assign rfl rfl) ?_
    refine TA.tp 16 rfl rfl (Y.assign rfl rfl) ?_
    refine TA.done (by kernel_rfl) ?_
    refine TQ.next (TC.seq (TC.region ?_))
    refine TL.mv ?_
    refine TL.mv ?_
    refine TL.nc ?_
    refine TL.val rfl rfl rfl (by first | exact Y.fieldAddrJ rfl fo46_2 rfl nqq | exact Y.fieldAddr rfl fo46_2 rfl nqq) ?_
    refine TL.val rfl rfl rfl (Y.load rfl sc24 rfl celD) ?_
    refine TL.as (.slice n.ab.a n.ab.l.length n.ab.cap) (by rfl) ?_
    refine TL.mv ?_
    refine TL.eff rfl rfl rfl (X.appendS rfl el24 rfl pul rfl (Src.reads (Reads.dat (s := o)) Try.underlying24 inn) (by simp only [maxLen]; omega) (by omega)) ?_
    rintro _ _ ⟨a278, c278, rfl, rfl⟩
    rw [show Dat.cs n.ab.l ++ Dat.cs o.l = Dat.cs (n.ab.l ++ o.l) from (Dat.cs_app _ _).symm, ← List.length_append]
    refine TL.nc ?_
    refine TL.val rfl rfl rfl (by first | exact Y.fieldAddrJ rfl fo46_2 rfl nqq | exact Y.fieldAddr rfl fo46_2 rfl nqq) ?_
    refine TL.eff0 rfl rfl (X.store (cs' := netC { n with ba := ⟨a252, c252, n.ba.l.eraseIdx k⟩, ab := ⟨a278, c278, n.ab.l ++ o.l⟩ }) rfl (by kernel_rfl) rfl rfl rfl pul (by show 2 < 9; decide) rfl) ?_
    rintro _ _ rfl
    refine TL.nil (TQ.next ?_)
    refine TC.to (Ent.addAll (o := o) (ys := n.ab.l) pul pul) ?_
    refine TC.draws 10 [nB nb { n with ba := ⟨a252, c252, n.ba.l.eraseIdx k⟩, ab := ⟨a278, c278, n.ab.l ++ o.l⟩ }] (by kernel_rfl) (by kernel_rfl) hld ?_
    refine TA.tk 0 rfl rfl (Y.move rfl rfl) ?_
    refine TA.tk 1 rfl rfl (Y.move rfl rfl) ?_
    refine TA.tk 2 rfl rfl (Y.nilCheck rfl rfl) ?_
    refine TA.tk 3 rfl rfl (by first | exact Y.fieldAddrJ rfl fo46_7 rfl nqq | exact Y.fieldAddr rfl fo46_7 rfl nqq) ?_
    refine TA.tk 4 rfl rfl (Y.load rfl sc44 rfl celD) ?_
    refine TA.as (.slice n.gA.a n.gA.l.length n.gA.cap) (by rfl) ?_
    refine TA.tk 5 rfl rfl (Y.move rfl rfl) ?_
    refine TA.one 6 (by kernel_rfl) rfl rfl rfl rfl (X.cl rfl Try.func40 rfl (h := (ours_fn g2.a g2.cap g2.l (by omega) _))) ?_
    rintro _ _ ⟨oa, oc, rfl, rfl⟩
    refine ⟨(Or.inr hld), ?_⟩
    refine TA.one 7 (by kernel_rfl) rfl rfl rfl rfl (X.appendS rfl el44 rfl pul rfl (Src.reads (Reads.datM (a := oa) (cap := oc) (l := g2.l)) Try.underlying44 inn) (by simp only [maxLen]; omega) (by omega)) ?_
    rintro _ _ ⟨a288, c288, rfl, rfl⟩
    rw [show Dat.cs n.gA.l ++ Dat.cs g2.l = Dat.cs (n.gA.l ++ g2.l) from (Dat.cs_app _ _).symm, ← List.length_append]
    refine ⟨(Or.inr hld), ?_⟩
    refine TA.tp 8 rfl rfl (Y.nilCheck rfl rfl) ?_
    refine TA.tk 9 rfl rfl (by first | exact Y.fieldAddrJ rfl fo46_7 rfl nqq | exact Y.fieldAddr rfl fo46_7 rfl nqq) ?_
    refine TA.one0 10 (by kernel_rfl) rfl rfl rfl (X.store (cs' := netC { n with ba := ⟨a252, c252, n.ba.l.eraseIdx k⟩, ab := ⟨a278, c278, n.ab.l ++ o.l⟩, gA := ⟨a288, c288, n.gA.l ++ g2.l⟩ }) rfl (by kernel_rfl) rfl rfl rfl pul (by show 7 < 9; decide) rfl) ?_
    rintro _ _ rfl
    refine ⟨(Or.inl (by kernel_rfl)), ?_⟩
    refine TA.done (by kernel_rfl) ?_
    refine TQ.block_normal ?_
    refine TQ.to (Ent.addAll (o := ⟨oa, oc, g2.l⟩) (ys := n.gA.l) pul pul) ?_
    refine TQ.meetF (ι := NP × PS × PS) (I := fun i => absN i.1 i.2.1 i.2.2 = ((absN n A B).pop4 k).hand4 x.l) (C := fun (_ : NP × PS × PS) => []) (U := []) (({ n with ba := ⟨a252, c252, n.ba.l.eraseIdx k⟩, ab := ⟨a278, c278, n.ab.l ++ o.l⟩, gA := ⟨a288, c288, n.gA.l ++ g2.l⟩ }, (A.handle n.now x.l).1, B)) (absN_eq rfl rfl ((outs_app _ _ _ _).trans (congrArg _ ho)) (outs_erase _ _ _ _) rfl rfl rfl ((List.map_append).trans (congrArg _ hg2)) rfl) trivial grw ?_ ?_
    · kernel_rfl
    · simp only [List.cons_append, List.nil_append]
      exact ett
  · rintro ⟨n1, A1, B1⟩ hX1 F' L' rfl hL'
    simp only [List.cons_append, List.nil_append] at hL'
    subst hL'
    simp only at hX1 ⊢
    refine TC.cutF (ι := Unit) [] (fun _ => True) (fun _ => []) (fun _ => [nB nb { n1 with ab := clipS n1.ab }, oP (clipS n1.ab), rP (clipS n1.ab)]) (Ao := [nB nb n1, oP n1.ab, rP n1.ab]) (Pulls.cons pul (Pulls.cons pul (Pulls.cons pul Pulls.nil))) ?_ ?_
    · rintro L' hL'
      simp only [List.cons_append, List.nil_append] at hL'
      subst hL'
      refine TC.seq (TC.region ?_)
      refine TL.mv ?_
      refine TL.nc ?_
      refine TL.val rfl rfl rfl (by first | exact Y.fieldAddrJ rfl fo46_2 rfl nqq | exact Y.fieldAddr rfl fo46_2 rfl nqq) ?_
      refine TL.val rfl rfl rfl (Y.load rfl sc24 rfl celD) ?_
      refine TL.as (.slice n1.ab.a n1.ab.l.length n1.ab.cap) (by rfl) ?_
      refine TL.val rfl rfl rfl (Y.len rfl Try.underlying24 rfl) ?_
      refine TL.val rfl rfl rfl (Y.bin rfl rfl rfl (br_gtN (n := 200))) ?_
      refine TL.nil (TQ.next ?_)
      refine TC.cond rfl (fun c9 => ?_) (fun c9 => ?_)
      · try simp only [zA, zB, zC, zD, zE, zF, zG, zH, zI, zJ] at c9
        refine TC.know (reads_cap Reads.owns (a := n1.ab.a) (n := n1.ab.l.length) (cap := n1.ab.cap) (cs := Dat.cs n1.ab.l) inn) ?_
        rintro ⟨hcap, -, -, -⟩
        refine TC.region ?_
        refine TL.mv ?_
        refine TL.mv ?_
        refine TL.nc ?_
        refine TL.val rfl rfl rfl (by first | exact Y.fieldAddrJ rfl fo46_2 rfl nqq | exact Y.fieldAddr rfl fo46_2 rfl nqq) ?_
        refine TL.val rfl rfl rfl (Y.load rfl sc24 rfl celD) ?_
        refine TL.as (.slice n1.ab.a n1.ab.l.length n1.ab.cap) (by rfl) ?_
        refine TL.val rfl rfl rfl (Y.sliceHi2 (k := 200) rfl Try.underlying24 sz23 rfl rfl (by omega)) ?_
        refine TL.as (.slice n1.ab.a (n1.ab.l.take 200).length n1.ab.cap) (by (rw [List.length_take, Nat.min_eq_left (by omega)])) ?_
        refine TL.nc ?_
        refine TL.val rfl rfl rfl (by first | exact Y.fieldAddrJ rfl fo46_2 rfl nqq | exact Y.fieldAddr rfl fo46_2 rfl nqq) ?_
        refine TL.eff0 rfl rfl (X.store (cs' := netC { n1 with ab := clipS n1.ab }) rfl (by kernel_rfl) rfl rfl rfl pul (by show 2 < 9; decide) rfl) ?_
        rintro _ _ rfl
        refine TL.nil ?_
        refine TQ.to (Ent.clipO (s := n1.ab) pul pul (by omega) hcap) ?_
        refine TQ.meetF (ι := Unit) (I := fun _ => True) (C := fun (_ : Unit) => []) (U := []) (()) (trivial) trivial grw ?_ ?_
        · kernel_rfl
        · simp only [List.cons_append, List.nil_append]
          exact (by first | (rw [hcl, hcm]; exact ett) | exact ett)
      · try simp only [zA, zB, zC, zD, zE, zF, zG, zH, zI, zJ] at c9
        have hcl : ({ n1 with ab := clipS n1.ab } : NP) = n1 := by rw [clipS_id (by omega)]
        have hcm : clipS n1.ab = n1.ab := clipS_id (by omega)
        refine TC.skip ?_
        refine TQ.meetF (ι := Unit) (I := fun _ => True) (C := fun (_ : Unit) => []) (U := []) (()) (trivial) trivial grw ?_ ?_
        · kernel_rfl
        · simp only [List.cons_append, List.nil_append]
          exact (by first | (rw [hcl, hcm]; exact ett) | exact ett)
    · rintro ⟨⟩ - F' L' rfl hL'
      simp only [List.cons_append, List.nil_append] at hL'
      subst hL'
      refine TC.seq (TC.region ?_)
      refine TL.mv ?_
      refine TL.nc ?_
      refine TL.val rfl rfl rfl (by first | exact Y.fieldAddrJ rfl fo46_3 rfl nqq | exact Y.fieldAddr rfl fo46_3 rfl nqq) ?_
      refine TL.val rfl rfl rfl (Y.load rfl sc24 rfl celD) ?_
      refine TL.as (.slice n1.ba.a n1.ba.l.length n1.ba.cap) (by rfl) ?_
      refine TL.val rfl rfl rfl (Y.len rfl Try.underlying24 rfl) ?_
      refine TL.val rfl rfl rfl (Y.bin rfl rfl rfl (br_gtN (n := 200))) ?_
      refine TL.nil (TQ.next ?_)
      refine TC.cond rfl (fun c10 => ?_) (fun c10 => ?_)
      · try simp only [zA, zB, zC, zD, zE, zF, zG, zH, zI, zJ] at c10
        refine TC.know (reads_cap Reads.owns (a := n1.ba.a) (n := n1.ba.l.length) (cap := n1.ba.cap) (cs := Dat.cs n1.ba.l) inn) ?_
        rintro ⟨hcap, -, -, -⟩
        refine TC.region ?_
        refine TL.mv ?_
        refine TL.mv ?_
        refine TL.nc ?_
        refine TL.val rfl rfl rfl (by first | exact Y.fieldAddrJ rfl fo46_3 rfl nqq | exact Y.fieldAddr rfl fo46_3 rfl nqq) ?_
        refine TL.val rfl rfl rfl (Y.load rfl sc24 rfl celD) ?_
        refine TL.as (.slice n1.ba.a n1.ba.l.length n1.ba.cap) (by rfl) ?_
        refine TL.val rfl rfl rfl (Y.sliceHi2 (k := 200) rfl Try.underlying24 sz23 rfl rfl (by omega)) ?_
        refine TL.as (.slice n1.ba.a (n1.ba.l.take 200).length n1.ba.cap) (by (rw [List.length_take, Nat.min_eq_left (by omega)])) ?_
        refine TL.nc ?_
        refine TL.val rfl rfl rfl (by first | exact Y.fieldAddrJ rfl fo46_3 rfl nqq | exact Y.fieldAddr rfl fo46_3 rfl nqq) ?_
        refine TL.eff0 rfl rfl (X.store (cs' := netC { n1 with ab := clipS n1.ab, ba := clipS n1.ba }) rfl (by kernel_rfl) rfl rfl rfl pul (by show 3 < 9; decide) rfl) ?_
        rintro _ _ rfl
        refine TL.nil ?_
        refine TQ.to (Ent.clipO (s := n1.ba) pul pul (by omega) hcap) ?_
        refine TQ.endE (res0 rfl) (⟨{ n1 with ab := clipS n1.ab, ba := clipS n1.ba }, A1, B1, (absN_clip n1 A1 B1).trans (congrArg PN.clip hX1), rfl⟩) ?_
        exact (by simp only [NAt, List.cons_append, List.nil_append]; first | (rw [hcl, hcm]; exact ett) | exact ett)
      · try simp only [zA, zB, zC, zD, zE, zF, zG, zH, zI, zJ] at c10
        have hcl : ({ n1 with ab := clipS n1.ab, ba := clipS n1.ba } : NP) = { n1 with ab := clipS n1.ab } := by rw [clipS_id (s := n1.ba) (by omega)]
        have hcm : clipS n1.ba = n1.ba := clipS_id (by omega)
        refine TC.skip ?_
        refine TQ.endE (res0 rfl) (⟨{ n1 with ab := clipS n1.ab, ba := clipS n1.ba }, A1, B1, (absN_clip n1 A1 B1).trans (congrArg PN.clip hX1), rfl⟩) ?_
        exact (by simp only [NAt, List.cons_append, List.nil_append]; first | (rw [hcl, hcm]; exact ett) | exact ett)
set_option maxHeartbeats 4000000 in
theorem stp4k_fn (nb : Nat) (n : NP) (A B : PS) (hF : Fits (absN n A B)) (N : Int) (k : Nat) (x : Bs) (hk : k = idxN N n.ba.l.length) (hx : n.ba.l[k]? = some x) (hxl : x.l.length ≤ 140737488351232) (d : Value) (hd1 : d.oneCell' = true) (nw : UInt16) (L : List SA) :
    Fn Try.prog 16 [pt nb 0, .agg (netArg 4 N true d nw)] (NAt nb n A B ++ L) (StepR nb ((absN n A B).hand4 x.l).clip (L)) := by
  obtain ⟨hn1, hn2, hn3, hn4, hn5, hn6⟩ := hF.lens
  have hnow : 0 ≤ n.now ∧ n.now ≤ 1000000000000 := hF.now
  simp only [NAt, List.cons_append, List.nil_append]
  have hkl := (List.getElem?_eq_some_iff.1 hx).1
  refine Fn.of (N := 367) Try.func16 rfl rfl ?_
  intro Xh
  refine TC.seq (TC.region ?_)
  refine TL.eff rfl rfl rfl (X.box (cs := netArg 4 N true d nw) rfl rfl rfl) ?_
  rintro _ _ ⟨b3, rfl, rfl⟩
  refine TL.nil (TQ.next ?_)
  refine TC.cutF (ι := NP × PS × PS) [] (fun i => absN i.1 i.2.1 i.2.2 = (absN n A B).hand4 x.l) (fun i => []) (fun i => [nB nb i.1, SD i.1.a i.2.1, SD i.1.b i.2.2, oP i.1.ab, rP i.1.ab, oP i.1.ba, rP i.1.ba, oM i.1.sent, rMs i.1.sent, oM i.1.back, rMs i.1.back, oM i.1.gB, rMs i.1.gB, oM i.1.gA, rMs i.1.gA]) (Ao := [nB nb n, SD n.a A, SD n.b B, oP n.ab, rP n.ab, oP n.ba, rP n.ba, oM n.sent, rMs n.sent, oM n.back, rMs n.back, oM n.gB, rMs n.gB, oM n.gA, rMs n.gA]) (Pulls.cons pul (Pulls.cons pul (Pulls.cons pul (Pulls.cons pul (Pulls.cons pul (Pulls.cons pul (Pulls.cons pul (Pulls.cons pul (Pulls.cons pul (Pulls.cons pul (Pulls.cons pul (Pulls.cons pul (Pulls.cons pul (Pulls.cons pul (Pulls.cons pul Pulls.nil))))))))))))))) ?_ ?_
  · rintro L' hL'
    simp only [List.cons_append, List.nil_append] at hL'
    subst hL'
    refine TC.seq (TC.region ?_)
    refine TL.val rfl rfl rfl (by first | exact Y.fieldAddrJ rfl fo42_0 rfl nqq | exact Y.fieldAddr rfl fo42_0 rfl nqq) ?_
    refine TL.val rfl rfl rfl (Y.load rfl sc3 rfl celN) ?_
    refine TL.as (vI 4) (by rfl) ?_
    refine TL.nil (TQ.next (TC.block (TC.seq (TC.seq (TC.region ?_)))))
    refine TL.val rfl rfl rfl (Y.bin rfl rfl rfl (br_eqN (n := 1))) ?_
    refine TL.is false isf ?_
    refine TL.sg ?_
    refine TL.nil (TQ.next ?_)
    refine TC.cond_f rfl ?_
    refine TC.region ?_
    refine TL.val rfl rfl rfl (Y.bin rfl rfl rfl (br_eqN (n := 2))) ?_
    refine TL.is false isf ?_
    refine TL.sg ?_
    refine TL.nil (TQ.next ?_)
    refine TC.cond_f rfl ?_
    refine TC.seq (TC.seq (TC.region ?_))
    refine TL.val rfl rfl rfl (Y.bin rfl rfl rfl (br_eqN (n := 3))) ?_
    refine TL.is false isf ?_
    refine TL.sg ?_
    refine TL.nil (TQ.next ?_)
    refine TC.cond_f rfl ?_
    refine TC.region ?_
    refine TL.val rfl rfl rfl (Y.bin rfl rfl rfl (br_eqN (n := 5))) ?_
    refine TL.is false isf ?_
    refine TL.sg ?_
    refine TL.nil (TQ.next ?_)
    refine TC.cond_f rfl ?_
    refine TC.seq (TC.seq (TC.region ?_))
    refine TL.val rfl rfl rfl (Y.bin rfl rfl rfl (br_eqN (n := 4))) ?_
    refine TL.is true isf ?_
    refine TL.sg ?_
    refine TL.nil (TQ.next ?_)
    refine TC.cond_t rfl ?_
    refine TC.skip (TQ.next ?_)
    refine TC.cond_t rfl ?_
    refine TC.seq (TC.seq (TC.region ?_))
    refine TL.mv ?_
    refine TL.nc ?_
    refine TL.val rfl rfl rfl (by first | exact Y.fieldAddrJ rfl fo46_3 rfl nqq | exact Y.fieldAddr rfl fo46_3 rfl nqq) ?_
    refine TL.val rfl rfl rfl (Y.load rfl sc24 rfl celD) ?_
    refine TL.as (.slice n.ba.a n.ba.l.length n.ba.cap) (by rfl) ?_
    refine TL.val rfl rfl rfl (Y.len rfl Try.underlying24 rfl) ?_
    refine TL.val rfl rfl rfl (Y.bin rfl rfl rfl (br_eqN (n := 0))) ?_
    refine TL.is false (by (simp; intro h; rw [h] at hkl; simp at hkl)) ?_
    refine TL.nil (TQ.next ?_)
    refine TC.cond_f rfl ?_
    refine TC.skip (TQ.next (TC.seq ?_))
    refine TC.draws 12 _ (by kernel_rfl) (by kernel_rfl) (fun _ h => h) ?_
    refine TA.tk 0 rfl rfl (by first | exact Y.fieldAddrJ rfl fo42_1 rfl nqq | exact Y.fieldAddr rfl fo42_1 rfl nqq) ?_
    refine TA.tk 1 rfl rfl (Y.load rfl sc3 rfl celN) ?_
    refine TA.as (vI N) (by rfl) ?_
    refine TA.tk 2 rfl rfl (Y.conv (m := (((N % 18446744073709551616).toNat : Nat) : Int)) rfl Try.underlying3 Try.underlying56 rfl (by rw [wrap_u64]; omega)) ?_
    refine TA.tk 3 rfl rfl (Y.move rfl rfl) ?_
    refine TA.tk 4 rfl rfl (Y.nilCheck rfl rfl) ?_
    refine TA.tk 5 rfl rfl (by first | exact Y.fieldAddrJ rfl fo46_3 rfl nqq | exact Y.fieldAddr rfl fo46_3 rfl nqq) ?_
    refine TA.tk 6 rfl rfl (Y.load rfl sc24 rfl celD) ?_
    refine TA.as (.slice n.ba.a n.ba.l.length n.ba.cap) (by rfl) ?_
    refine TA.tk 7 rfl rfl (Y.len rfl Try.underlying24 rfl) ?_
    refine TA.tk 8 rfl rfl (Y.conv rfl Try.underlying3 Try.underlying56 rfl (cv_N_64n (by omega))) ?_
    refine TA.tk 9 rfl rfl (Y.bin rfl rfl rfl (br_remU (by omega))) ?_
    refine TA.as (.int .u64 ((k : Nat) : Int)) (by (rw [hk]; rfl)) ?_
    refine TA.tk 10 rfl rfl (Y.conv rfl Try.underlying56 Try.underlying3 rfl (cv_64n_N (by omega))) ?_
    refine TA.tk 11 rfl rfl (Y.assign rfl rfl) ?_
    refine TA.done (by kernel_rfl) ?_
    refine TQ.next (TC.seq ?_)
    refine TC.know (reads_cap Reads.owns (a := n.ba.a) (n := n.ba.l.length) (cap := n.ba.cap) (cs := Dat.cs n.ba.l) inn) ?_
    rintro ⟨hcap0, -, -, -⟩
    refine TC.know (owns_some (a := n.ba.a) (n := n.ba.l.length) inn (by omega)) ?_
    rintro ⟨g, off, hqa⟩
    refine TC.region ?_
    refine TL.mv ?_
    refine TL.nc ?_
    refine TL.val rfl rfl rfl (by first | exact Y.fieldAddrJ rfl fo46_3 rfl nqq | exact Y.fieldAddr rfl fo46_3 rfl nqq) ?_
    refine TL.val rfl rfl rfl (Y.load rfl sc24 rfl celD) ?_
    refine TL.as (.slice (some ⟨g, off, none⟩) n.ba.l.length n.ba.cap) (by (rw [← hqa]; rfl)) ?_
    refine TL.mv ?_
    refine TL.val rfl rfl rfl (by first | exact Y.indexSlB rfl sl24 rfl rfl (by omega) nqq | exact Y.indexSl rfl sl24 rfl rfl (by omega) nqq) ?_
    refine TL.val rfl rfl rfl (Y.load rfl sc23 rfl (Cel.atS (A := SA.owns 23 1 (.slice (some ⟨g, off, none⟩) n.ba.l.length n.ba.cap) n.ba.l.length (Dat.cs n.ba.l)) Reads.owns (by rw [← hqa]; exact inn) hx rfl)) ?_
    refine TL.as (.slice x.a x.l.length x.cap) (by rfl) ?_
    refine TL.sg ?_
    refine TL.nil (TQ.next (TC.seq (TC.seq (TC.region ?_))))
    refine TL.val rfl rfl rfl (by first | exact Y.fieldAddrJ rfl fo42_2 rfl nqq | exact Y.fieldAddr rfl fo42_2 rfl nqq) ?_
    refine TL.val rfl rfl rfl (Y.load rfl sc4 rfl celD) ?_
    refine TL.as (.bool true) (by rfl) ?_
    refine TL.val rfl rfl rfl (Y.not rfl rfl) ?_
    refine TL.is false isf ?_
    refine TL.mv ?_
    refine TL.valG rfl rfl rfl (by first | exact Y.fieldAddrJ rfl fo42_0 rfl nqq | exact Y.fieldAddr rfl fo42_0 rfl nqq) ?_
    refine TL.valG rfl rfl rfl (Y.load rfl sc3 rfl celN) ?_
    refine TL.as (vI 4) (by rfl) ?_
    refine TL.valG rfl rfl rfl (Y.bin rfl rfl rfl (br_eqN (n := 6))) ?_
    refine TL.is false isf ?_
    refine TL.val rfl rfl rfl (Y.pick_f rfl rfl rfl) ?_
    refine TL.nil (TQ.next ?_)
    refine TC.cond_f rfl ?_
    refine TC.skip (TQ.next (TC.seq ?_))
    refine TC.to (Ent.elP (List.mem_of_getElem? hx) pul) ?_
    refine TC.region ?_
    refine TL.val rfl rfl rfl (by first | exact Y.fieldAddrJ rfl fo42_0 rfl nqq | exact Y.fieldAddr rfl fo42_0 rfl nqq) ?_
    refine TL.val rfl rfl rfl (Y.load rfl sc3 rfl celN) ?_
    refine TL.as (vI 4) (by rfl) ?_
    refine TL.val rfl rfl rfl (Y.bin rfl rfl rfl (br_eqN (n := 4))) ?_
    refine TL.is true isf ?_
    refine TL.nil (TQ.next ?_)
    refine TC.cond_t rfl ?_
    refine TC.seq ?_
    refine TC.draws 9 [nB nb n] (by kernel_rfl) (by kernel_rfl) hld ?_
    refine TA.tp 0 rfl rfl (Y.move rfl rfl) ?_
    refine TA.tp 1 rfl rfl (Y.nilCheck rfl rfl) ?_
    refine TA.tp 2 rfl rfl (by first | exact Y.fieldAddrJ rfl fo46_0 rfl nqq | exact Y.fieldAddr rfl fo46_0 rfl nqq) ?_
    refine TA.tk 3 rfl rfl (Y.load rfl sc26 rfl celD) ?_
    refine TA.as (pt n.a 0) (by rfl) ?_
    refine TA.tk 4 rfl rfl (Y.move rfl rfl) ?_
    refine TA.tp 5 rfl rfl (Y.move rfl rfl) ?_
    refine TA.tp 6 rfl rfl (Y.nilCheck rfl rfl) ?_
    refine TA.tp 7 rfl rfl (by first | exact Y.fieldAddrJ rfl fo46_8 rfl nqq | exact Y.fieldAddr rfl fo46_8 rfl nqq) ?_
    refine TA.tk 8 rfl rfl (Y.load rfl sc2 rfl celN) ?_
    refine TA.as (vI n.now) (by rfl) ?_
    refine TA.one 9 (by kernel_rfl) rfl rfl rfl rfl (X.cl rfl Try.func12 rfl (h := (Handle_fn n.a A hF.a.toInvP x.a x.l.length x.cap x.l rfl hxl n.now _))) ?_
    rintro _ _ ⟨o, g2, rfl, ho, hg2, rfl⟩
    obtain ⟨hz1, hz2⟩ := handle_out A hF.a n.now x.l
    have hol : o.l.length ≤ 16 := by have := congrArg List.length ho; rw [List.length_map] at this; omega
    have hgl2 : g2.l.length ≤ 33 := by have := congrArg List.length hg2; rw [List.length_map] at this; omega
    refine ⟨(Or.inl (by kernel_rfl)), ?_⟩
    refine TA.tp 10 rfl rfl (Y.move rfl rfl) ?_
    refine TA.tp 11 rfl rfl (Y.extract rfl rfl rfl) ?_
    refine TA.as (.slice o.a o.l.length o.cap) (by rfl) ?_
    refine TA.tp 12 rfl rfl (Y.extract rfl rfl rfl) ?_
    refine TA.as (.slice g2.a g2.l.length g2.cap) (by rfl) ?_
    refine TA.tp 13 rfl rfl (Y.extract rfl rfl rfl) ?_
    refine TA.tp 14 rfl rfl (Y.assign rfl rfl) ?_
    refine TA.tp 15 rfl rfl (Y.assign rfl rfl) ?_
    refine TA.tp 16 rfl rfl (Y.assign rfl rfl) ?_
    refine TA.done (by kernel_rfl) ?_
    refine TQ.next (TC.seq (TC.region ?_))
    refine TL.mv ?_
    refine TL.mv ?_
    refine TL.nc ?_
    refine TL.val rfl rfl rfl (by first | exact Y.fieldAddrJ rfl fo46_2 rfl nqq | exact Y.fieldAddr rfl fo46_2 rfl nqq) ?_
    refine TL.val rfl rfl rfl (Y.load rfl sc24 rfl celD) ?_
    refine TL.as (.slice n.ab.a n.ab.l.length n.ab.cap) (by rfl) ?_
    refine TL.mv ?_
    refine TL.eff rfl rfl rfl (X.appendS rfl el24 rfl pul rfl (Src.reads (Reads.dat (s := o)) Try.underlying24 inn) (by simp only [maxLen]; omega) (by omega)) ?_
    rintro _ _ ⟨a278, c278, rfl, rfl⟩
    rw [show Dat.cs n.ab.l ++ Dat.cs o.l = Dat.cs (n.ab.l ++ o.l) from (Dat.cs_app _ _).symm, ← List.length_append]
    refine TL.nc ?_
    refine TL.val rfl rfl rfl (by first | exact Y.fieldAddrJ rfl fo46_2 rfl nqq | exact Y.fieldAddr rfl fo46_2 rfl nqq) ?_
    refine TL.eff0 rfl rfl (X.store (cs' := netC { n with ab := ⟨a278, c278, n.ab.l ++ o.l⟩ }) rfl (by kernel_rfl) rfl rfl rfl pul (by show 2 < 9; decide) rfl) ?_
    rintro _ _ rfl
    refine TL.nil (TQ.next ?_)
    refine TC.to (Ent.addAll (o := o) (ys := n.ab.l) pul pul) ?_
    refine TC.draws 10 [nB nb { n with ab := ⟨a278, c278, n.ab.l ++ o.l⟩ }] (by kernel_rfl) (by kernel_rfl) hld ?_
    refine TA.tk 0 rfl rfl (Y.move rfl rfl) ?_
    refine TA.tk 1 rfl rfl (Y.move rfl rfl) ?_
    refine TA.tk 2 rfl rfl (Y.nilCheck rfl rfl) ?_
    refine TA.tk 3 rfl rfl (by first | exact Y.fieldAddrJ rfl fo46_7 rfl nqq | exact Y.fieldAddr rfl fo46_7 rfl nqq) ?_
    refine TA.tk 4 rfl rfl (Y.load rfl sc44 rfl celD) ?_
    refine TA.as (.slice n.gA.a n.gA.l.length n.gA.cap) (by rfl) ?_
    refine TA.tk 5 rfl rfl (Y.move rfl rfl) ?_
    refine TA.one 6 (by kernel_rfl) rfl rfl rfl rfl (X.cl rfl Try.func40 rfl (h := (ours_fn g2.a g2.cap g2.l (by omega) _))) ?_
    rintro _ _ ⟨oa, oc, rfl, rfl⟩
    refine ⟨(Or.inr hld), ?_⟩
    refine TA.one 7 (by kernel_rfl) rfl rfl rfl rfl (X.appendS rfl el44 rfl pul rfl (Src.reads (Reads.datM (a := oa) (cap := oc) (l := g2.l)) Try.underlying44 inn) (by simp only [maxLen]; omega) (by omega)) ?_
    rintro _ _ ⟨a288, c288, rfl, rfl⟩
    rw [show Dat.cs n.gA.l ++ Dat.cs g2.l = Dat.cs (n.gA.l ++ g2.l) from (Dat.cs_app _ _).symm, ← List.length_append]
    refine ⟨(Or.inr hld), ?_⟩
    refine TA.tp 8 rfl rfl (Y.nilCheck rfl rfl) ?_
    refine TA.tk 9 rfl rfl (by first | exact Y.fieldAddrJ rfl fo46_7 rfl nqq | exact Y.fieldAddr rfl fo46_7 rfl nqq) ?_
    refine TA.one0 10 (by kernel_rfl) rfl rfl rfl (X.store (cs' := netC { n with ab := ⟨a278, c278, n.ab.l ++ o.l⟩, gA := ⟨a288, c288, n.gA.l ++ g2.l⟩ }) rfl (by kernel_rfl) rfl rfl rfl pul (by show 7 < 9; decide) rfl) ?_
    rintro _ _ rfl
    refine ⟨(Or.inl (by kernel_rfl)), ?_⟩
    refine TA.done (by kernel_rfl) ?_
    refine TQ.block_normal ?_
    refine TQ.to (Ent.addAll (o := ⟨oa, oc, g2.l⟩) (ys := n.gA.l) pul pul) ?_
    refine TQ.meetF (ι := NP × PS × PS) (I := fun i => absN i.1 i.2.1 i.2.2 = (absN n A B).hand4 x.l) (C := fun (_ : NP × PS × PS) => []) (U := []) (({ n with ab := ⟨a278, c278, n.ab.l ++ o.l⟩, gA := ⟨a288, c288, n.gA.l ++ g2.l⟩ }, (A.handle n.now x.l).1, B)) (absN_eq rfl rfl ((outs_app _ _ _ _).trans (congrArg _ ho)) (rfl) rfl rfl rfl ((List.map_append).trans (congrArg _ hg2)) rfl) trivial grw ?_ ?_
    · kernel_rfl
    · simp only [List.cons_append, List.nil_append]
      exact ett
  · rintro ⟨n1, A1, B1⟩ hX1 F' L' rfl hL'
    simp only [List.cons_append, List.nil_append] at hL'
    subst hL'
    simp only at hX1 ⊢
    refine TC.cutF (ι := Unit) [] (fun _ => True) (fun _ => []) (fun _ => [nB nb { n1 with ab := clipS n1.ab }, oP (clipS n1.ab), rP (clipS n1.ab)]) (Ao := [nB nb n1, oP n1.ab, rP n1.ab]) (Pulls.cons pul (Pulls.cons pul (Pulls.cons pul Pulls.nil))) ?_ ?_
    · rintro L' hL'
      simp only [List.cons_append, List.nil_append] at hL'
      subst hL'
      refine TC.seq (TC.region ?_)
      refine TL.mv ?_
      refine TL.nc ?_
      refine TL.val rfl rfl rfl (by first | exact Y.fieldAddrJ rfl fo46_2 rfl nqq | exact Y.fieldAddr rfl fo46_2 rfl nqq) ?_
      refine TL.val rfl rfl rfl (Y.load rfl sc24 rfl celD) ?_
      refine TL.as (.slice n1.ab.a n1.ab.l.length n1.ab.cap) (by rfl) ?_
      refine TL.val rfl rfl rfl (Y.len rfl Try.underlying24 rfl) ?_
      refine TL.val rfl rfl rfl (Y.bin rfl rfl rfl (br_gtN (n := 200))) ?_
      refine TL.nil (TQ.next ?_)
      refine TC.cond rfl (fun c9 => ?_) (fun c9 => ?_)
      · try simp only [zA, zB, zC, zD, zE, zF, zG, zH, zI, zJ] at c9
        refine TC.know (reads_cap Reads.owns (a := n1.ab.a) (n := n1.ab.l.length) (cap := n1.ab.cap) (cs := Dat.cs n1.ab.l) inn) ?_
        rintro ⟨hcap, -, -, -⟩
        refine TC.region ?_
        refine TL.mv ?_
        refine TL.mv ?_
        refine TL.nc ?_
        refine TL.val rfl rfl rfl (by first | exact Y.fieldAddrJ rfl fo46_2 rfl nqq | exact Y.fieldAddr rfl fo46_2 rfl nqq) ?_
        refine TL.val rfl rfl rfl (Y.load rfl sc24 rfl celD) ?_
        refine TL.as (.slice n1.ab.a n1.ab.l.length n1.ab.cap) (by rfl) ?_
        refine TL.val rfl rfl rfl (Y.sliceHi2 (k := 200) rfl Try.underlying24 sz23 rfl rfl (by omega)) ?_
        refine TL.as (.slice n1.ab.a (n1.ab.l.take 200).length n1.ab.cap) (by (rw [List.length_take, Nat.min_eq_left (by omega)])) ?_
        refine TL.nc ?_
        refine TL.val rfl rfl rfl (by first | exact Y.fieldAddrJ rfl fo46_2 rfl nqq | exact Y.fieldAddr rfl fo46_2 rfl nqq) ?_
        refine TL.eff0 rfl rfl (X.store (cs' := netC { n1 with ab := clipS n1.ab }) rfl (by kernel_rfl) rfl rfl rfl pul (by show 2 < 9; decide) rfl) ?_
        rintro _ _ rfl
        refine TL.nil ?_
        refine TQ.to (Ent.clipO (s := n1.ab) pul pul (by omega) hcap) ?_
        refine TQ.meetF (ι := Unit) (I := fun _ => True) (C := fun (_ : Unit) => []) (U := []) (()) (trivial) trivial grw ?_ ?_
        · kernel_rfl
        · simp only [List.cons_append, List.nil_append]
          exact (by first | (rw [hcl, hcm]; exact ett) | exact ett)
      · try simp only [zA, zB, zC, zD, zE, zF, zG, zH, zI, zJ] at c9
        have hcl : ({ n1 with ab := clipS n1.ab } : NP) = n1 := by rw [clipS_id (by omega)]
        have hcm : clipS n1.ab = n1.ab := clipS_id (by omega)
        refine TC.skip ?_
        refine TQ.meetF (ι := Unit) (I := fun _ => True) (C := fun (_ : Unit) => []) (U := []) (()) (trivial) trivial grw ?_ ?_
        · kernel_rfl
        · simp only [List.cons_append, List.nil_append]
          exact (by first | (rw [hcl, hcm]; exact ett) | exact ett)
    · rintro ⟨⟩ - F' L' rfl hL'
      simp only [List.cons_append, List.nil_append] at hL'
      subst hL'
      refine TC.seq (TC.region ?_)
      refine TL.mv ?_
      refine TL.nc ?_
      refine TL.val rfl rfl rfl (by first | exact Y.fieldAddrJ rfl fo46_3 rfl nqq | exact Y.fieldAddr rfl fo46_3 rfl nqq) ?_
      refine TL.val rfl rfl rfl (Y.load rfl sc24 rfl celD) ?_
      refine TL.as (.slice n1.ba.a n1.ba.l.length n1.ba.cap) (by rfl) ?_
      refine TL.val rfl rfl rfl (Y.len rfl Try.underlying24 rfl) ?_
      refine TL.val rfl rfl rfl (Y.bin rfl rfl rfl (br_gtN (n := 200))) ?_
      refine TL.nil (TQ.next ?_)
      refine TC.cond rfl (fun c10 => ?_) (fun c10 => ?_)
      · try simp only [zA, zB, zC, zD, zE, zF, zG, zH, zI, zJ] at c10
        refine TC.know (reads_cap Reads.owns (a := n1.ba.a) (n := n1.ba.l.length) (cap := n1.ba.cap) (cs := Dat.cs n1.ba.l) inn) ?_
        rintro ⟨hcap, -, -, -⟩
        refine TC.region ?_
        refine TL.mv ?_
        refine TL.mv ?_
        refine TL.nc ?_
        refine TL.val rfl rfl rfl (by first | exact Y.fieldAddrJ rfl fo46_3 rfl nqq | exact Y.fieldAddr rfl fo46_3 rfl nqq) ?_
        refine TL.val rfl rfl rfl (Y.load rfl sc24 rfl celD) ?_
        refine TL.as (.slice n1.ba.a n1.ba.l.length n1.ba.cap) (by rfl) ?_
        refine TL.val rfl rfl rfl (Y.sliceHi2 (k := 200) rfl Try.underlying24 sz23 rfl rfl (by omega)) ?_
        refine TL.as (.slice n1.ba.a (n1.ba.l.take 200).length n1.ba.cap) (by (rw [List.length_take, Nat.min_eq_left (by omega)])) ?_
        refine TL.nc ?_
        refine TL.val rfl rfl rfl (by first | exact Y.fieldAddrJ rfl fo46_3 rfl nqq | exact Y.fieldAddr rfl fo46_3 rfl nqq) ?_
        refine TL.eff0 rfl rfl (X.store (cs' := netC { n1 with ab := clipS n1.ab, ba := clipS n1.ba }) rfl (by kernel_rfl) rfl rfl rfl pul (by show 3 < 9; decide) rfl) ?_
        rintro _ _ rfl
        refine TL.nil ?_
        refine TQ.to (Ent.clipO (s := n1.ba) pul pul (by omega) hcap) ?_
        refine TQ.endE (res0 rfl) (⟨{ n1 with ab := clipS n1.ab, ba := clipS n1.ba }, A1, B1, (absN_clip n1 A1 B1).trans (congrArg PN.clip hX1), rfl⟩) ?_
        exact (by simp only [NAt, List.cons_append, List.nil_append]; first | (rw [hcl, hcm]; exact ett) | exact ett)
      · try simp only [zA, zB, zC, zD, zE, zF, zG, zH, zI, zJ] at c10
        have hcl : ({ n1 with ab := clipS n1.ab, ba := clipS n1.ba } : NP) = { n1 with ab := clipS n1.ab } := by rw [clipS_id (s := n1.ba) (by omega)]
        have hcm : clipS n1.ba = n1.ba := clipS_id (by omega)
        refine TC.skip ?_
        refine TQ.endE (res0 rfl) (⟨{ n1 with ab := clipS n1.ab, ba := clipS n1.ba }, A1, B1, (absN_clip n1 A1 B1).trans (congrArg PN.clip hX1), rfl⟩) ?_
        exact (by simp only [NAt, List.cons_append, List.nil_append]; first | (rw [hcl, hcm]; exact ett) | exact ett)
set_option maxHeartbeats 4000000 in
theorem stp6_fn (nb : Nat) (n : NP) (A B : PS) (hF : Fits (absN n A B)) (N : Int) (k : Nat) (x : Bs) (hk : k = idxN N n.ba.l.length) (hx : n.ba.l[k]? = some x) (hxl : x.l.length ≤ 140737488351232) (d : Value) (hd1 : d.oneCell' = true) (nw : UInt16) (L : List SA) :
    Fn Try.prog 16 [pt nb 0, .agg (netArg 6 N false d nw)] (NAt nb n A B ++ L) (StepR nb ((absN n A B).pop4 k).clip (L)) := by
  obtain ⟨hn1, hn2, hn3, hn4, hn5, hn6⟩ := hF.lens
  have hnow : 0 ≤ n.now ∧ n.now ≤ 1000000000000 := hF.now
  simp only [NAt, List.cons_append, List.nil_append]
  have hkl := (List.getElem?_eq_some_iff.1 hx).1
  refine Fn.of (N := 367) Try.func16 rfl rfl ?_
  intro Xh
  refine TC.seq (TC.region ?_)
  refine TL.eff rfl rfl rfl (X.box (cs := netArg 6 N false d nw) rfl rfl rfl) ?_
  rintro _ _ ⟨b3, rfl, rfl⟩
  refine TL.nil (TQ.next ?_)
  refine TC.cutF (ι := NP × PS × PS) [] (fun i => absN i.1 i.2.1 i.2.2 = (absN n A B).pop4 k) (fun i => []) (fun i => [nB nb i.1, SD i.1.a i.2.1, SD i.1.b i.2.2, oP i.1.ab, rP i.1.ab, oP i.1.ba, rP i.1.ba, oM i.1.sent, rMs i.1.sent, oM i.1.back, rMs i.1.back, oM i.1.gB, rMs i.1.gB, oM i.1.gA, rMs i.1.gA]) (Ao := [nB nb n, SD n.a A, SD n.b B, oP n.ab, rP n.ab, oP n.ba, rP n.ba, oM n.sent, rMs n.sent, oM n.back, rMs n.back, oM n.gB, rMs n.gB, oM n.gA, rMs n.gA]) (Pulls.cons pul (Pulls.cons pul (Pulls.cons pul (Pulls.cons pul (Pulls.cons pul (Pulls.cons pul (Pulls.cons pul (Pulls.cons pul (Pulls.cons pul (Pulls.cons pul (Pulls.cons pul (Pulls.cons pul (Pulls.cons pul (Pulls.cons pul (Pulls.cons pul Pulls.nil))))))))))))))) ?_ ?_
  · rintro L' hL'
    simp only [List.cons_append, List.nil_append] at hL'
    subst hL'
    refine TC.seq (TC.region ?_)
    refine TL.val rfl rfl rfl (by first | exact Y.fieldAddrJ rfl fo42_0 rfl nqq | exact Y.fieldAddr rfl fo42_0 rfl nqq) ?_
    refine TL.val rfl rfl rfl (Y.load rfl sc3 rfl celN) ?_
    refine TL.as (vI 6) (by rfl) ?_
    refine TL.nil (TQ.next (TC.block (TC.seq (TC.seq (TC.region ?_)))))
    refine TL.val rfl rfl rfl (Y.bin rfl rfl rfl (br_eqN (n := 1))) ?_
    refine TL.is false isf ?_
    refine TL.sg ?_
    refine TL.nil (TQ.next ?_)
    refine TC.cond_f rfl ?_
    refine TC.region ?_
    refine TL.val rfl rfl rfl (Y.bin rfl rfl rfl (br_eqN (n := 2))) ?_
    refine TL.is false isf ?_
    refine TL.sg ?_
    refine TL.nil (TQ.next ?_)
    refine TC.cond_f rfl ?_
    refine TC.seq (TC.seq (TC.region ?_))
    refine TL.val rfl rfl rfl (Y.bin rfl rfl rfl (br_eqN (n := 3))) ?_
    refine TL.is false isf ?_
    refine TL.sg ?_
    refine TL.nil (TQ.next ?_)
    refine TC.cond_f rfl ?_
    refine TC.region ?_
    refine TL.val rfl rfl rfl (Y.bin rfl rfl rfl (br_eqN (n := 5))) ?_
    refine TL.is false isf ?_
    refine TL.sg ?_
    refine TL.nil (TQ.next ?_)
    refine TC.cond_f rfl ?_
    refine TC.seq (TC.seq (TC.region ?_))
    refine TL.val rfl rfl rfl (Y.bin rfl rfl rfl (br_eqN (n := 4))) ?_
    refine TL.is false isf ?_
    refine TL.sg ?_
    refine TL.nil (TQ.next ?_)
    refine TC.cond_f rfl ?_
    refine TC.region ?_
    refine TL.val rfl rfl rfl (Y.bin rfl rfl rfl (br_eqN (n := 6))) ?_
    refine TL.is true isf ?_
    refine TL.sg ?_
    refine TL.nil (TQ.next ?_)
    refine TC.cond_t rfl ?_
    refine TC.seq (TC.seq (TC.region ?_))
    refine TL.mv ?_
    refine TL.nc ?_
    refine TL.val rfl rfl rfl (by first | exact Y.fieldAddrJ rfl fo46_3 rfl nqq | exact Y.fieldAddr rfl fo46_3 rfl nqq) ?_
    refine TL.val rfl rfl rfl (Y.load rfl sc24 rfl celD) ?_
    refine TL.as (.slice n.ba.a n.ba.l.length n.ba.cap) (by rfl) ?_
    refine TL.val rfl rfl rfl (Y.len rfl Try.underlying24 rfl) ?_
    refine TL.val rfl rfl rfl (Y.bin rfl rfl rfl (br_eqN (n := 0))) ?_
    refine TL.is false (by (simp; intro h; rw [h] at hkl; simp at hkl)) ?_
    refine TL.nil (TQ.next ?_)
    refine TC.cond_f rfl ?_
    refine TC.skip (TQ.next (TC.seq ?_))
    refine TC.draws 12 _ (by kernel_rfl) (by kernel_rfl) (fun _ h => h) ?_
    refine TA.tk 0 rfl rfl (by first | exact Y.fieldAddrJ rfl fo42_1 rfl nqq | exact Y.fieldAddr rfl fo42_1 rfl nqq) ?_
    refine TA.tk 1 rfl rfl (Y.load rfl sc3 rfl celN) ?_
    refine TA.as (vI N) (by rfl) ?_
    refine TA.tk 2 rfl rfl (Y.conv (m := (((N % 18446744073709551616).toNat : Nat) : Int)) rfl Try.underlying3 Try.underlying56 rfl (by rw [wrap_u64]; omega)) ?_
    refine TA.tk 3 rfl rfl (Y.move rfl rfl) ?_
    refine TA.tk 4 rfl rfl (Y.nilCheck rfl rfl) ?_
    refine TA.tk 5 rfl rfl (by first | exact Y.fieldAddrJ rfl fo46_3 rfl nqq | exact Y.fieldAddr rfl fo46_3 rfl nqq) ?_
    refine TA.tk 6 rfl rfl (Y.load rfl sc24 rfl celD) ?_
    refine TA.as (.slice n.ba.a n.ba.l.length n.ba.cap) (by rfl) ?_
    refine TA.tk 7 rfl rfl (Y.len rfl Try.underlying24 rfl) ?_
    refine TA.tk 8 rfl rfl (Y.conv rfl Try.underlying3 Try.underlying56 rfl (cv_N_64n (by omega))) ?_
    refine TA.tk 9 rfl rfl (Y.bin rfl rfl rfl (br_remU (by omega))) ?_
    refine TA.as (.int .u64 ((k : Nat) : Int)) (by (rw [hk]; rfl)) ?_
    refine TA.tk 10 rfl rfl (Y.conv rfl Try.underlying56 Try.underlying3 rfl (cv_64n_N (by omega))) ?_
    refine TA.tk 11 rfl rfl (Y.assign rfl rfl) ?_
    refine TA.done (by kernel_rfl) ?_
    refine TQ.next (TC.seq ?_)
    refine TC.know (reads_cap Reads.owns (a := n.ba.a) (n := n.ba.l.length) (cap := n.ba.cap) (cs := Dat.cs n.ba.l) inn) ?_
    rintro ⟨hcap0, -, -, -⟩
    refine TC.know (owns_some (a := n.ba.a) (n := n.ba.l.length) inn (by omega)) ?_
    rintro ⟨g, off, hqa⟩
    refine TC.region ?_
    refine TL.mv ?_
    refine TL.nc ?_
    refine TL.val rfl rfl rfl (by first | exact Y.fieldAddrJ rfl fo46_3 rfl nqq | exact Y.fieldAddr rfl fo46_3 rfl nqq) ?_
    refine TL.val rfl rfl rfl (Y.load rfl sc24 rfl celD) ?_
    refine TL.as (.slice (some ⟨g, off, none⟩) n.ba.l.length n.ba.cap) (by (rw [← hqa]; rfl)) ?_
    refine TL.mv ?_
    refine TL.val rfl rfl rfl (by first | exact Y.indexSlB rfl sl24 rfl rfl (by omega) nqq | exact Y.indexSl rfl sl24 rfl rfl (by omega) nqq) ?_
    refine TL.val rfl rfl rfl (Y.load rfl sc23 rfl (Cel.atS (A := SA.owns 23 1 (.slice (some ⟨g, off, none⟩) n.ba.l.length n.ba.cap) n.ba.l.length (Dat.cs n.ba.l)) Reads.owns (by rw [← hqa]; exact inn) hx rfl)) ?_
    refine TL.as (.slice x.a x.l.length x.cap) (by rfl) ?_
    refine TL.sg ?_
    refine TL.nil (TQ.next (TC.seq (TC.seq (TC.region ?_))))
    refine TL.val rfl rfl rfl (by first | exact Y.fieldAddrJ rfl fo42_2 rfl nqq | exact Y.fieldAddr rfl fo42_2 rfl nqq) ?_
    refine TL.val rfl rfl rfl (Y.load rfl sc4 rfl celD) ?_
    refine TL.as (.bool false) (by rfl) ?_
    refine TL.val rfl rfl rfl (Y.not rfl rfl) ?_
    refine TL.is true isf ?_
    refine TL.mv ?_
    refine TL.not rfl rfl rfl ?_
    refine TL.not rfl rfl rfl ?_
    refine TL.not rfl rfl rfl ?_
    refine TL.val rfl rfl rfl (Y.pick_t rfl rfl rfl) ?_
    refine TL.nil (TQ.next ?_)
    refine TC.cond_t rfl ?_
    refine TC.draws 19 [nB nb n, oP n.ba] (by kernel_rfl) (by kernel_rfl) hld ?_
    refine TA.tk 0 rfl rfl (Y.move rfl rfl) ?_
    refine TA.tk 2 rfl rfl (Y.move rfl rfl) ?_
    refine TA.tk 3 rfl rfl (Y.nilCheck rfl rfl) ?_
    refine TA.tk 4 rfl rfl (by first | exact Y.fieldAddrJ rfl fo46_3 rfl nqq | exact Y.fieldAddr rfl fo46_3 rfl nqq) ?_
    refine TA.tk 5 rfl rfl (Y.load rfl sc24 rfl celD) ?_
    refine TA.as (.slice n.ba.a n.ba.l.length n.ba.cap) (by rfl) ?_
    refine TA.tk 6 rfl rfl (Y.move rfl rfl) ?_
    refine TA.tk 7 rfl rfl (Y.sliceHi2 (sz := 1) rfl Try.underlying24 (by kernel_rfl) rfl rfl (by omega)) ?_
    refine TA.tk 9 rfl rfl (Y.move rfl rfl) ?_
    refine TA.tk 10 rfl rfl (Y.nilCheck rfl rfl) ?_
    refine TA.tk 11 rfl rfl (by first | exact Y.fieldAddrJ rfl fo46_3 rfl nqq | exact Y.fieldAddr rfl fo46_3 rfl nqq) ?_
    refine TA.tk 12 rfl rfl (Y.load rfl sc24 rfl celD) ?_
    refine TA.as (.slice n.ba.a n.ba.l.length n.ba.cap) (by rfl) ?_
    refine TA.tk 13 rfl rfl (Y.move rfl rfl) ?_
    refine TA.tk 14 rfl rfl (Y.bin rfl rfl rfl (br_addN (n := 1) (by omega))) ?_
    refine TA.tk 15 rfl rfl (Y.sliceLo rfl Try.underlying24 sz23 rfl rfl (by omega)) ?_
    refine TA.one 1 (by kernel_rfl) rfl rfl rfl rfl (X.lit rfl el24 rfl rfl rfl (by decide) rfl) ?_
    rintro _ _ ⟨g237, rfl, rfl⟩
    refine ⟨(Or.inr hld), ?_⟩
    refine TA.one 8 (by kernel_rfl) rfl rfl rfl rfl (X.appendS rfl el24 rfl pul rfl (Src.reads (Reads.head (A := oP n.ba) (k := k) (n := n.ba.l.length) (cs := Dat.cs n.ba.l) Reads.owns (by omega)) Try.underlying24 inn) (by simp only [maxLen]; omega) (by omega)) ?_
    rintro _ _ ⟨a244, c244, rfl, rfl⟩
    rw [show ([] : List Value) ++ (Dat.cs n.ba.l).take (k * 1) = Dat.cs (n.ba.l.take k) by rw [Dat.cs_take]; rfl, Nat.zero_add]
    refine ⟨(Or.inr hld), ?_⟩
    refine TA.one 16 (by kernel_rfl) rfl rfl rfl rfl (X.appendS rfl el24 rfl pul rfl (Src.cut Reads.owns Try.underlying24 inn (by omega) (by omega)) (by simp only [maxLen]; omega) (by omega)) ?_
    rintro _ _ ⟨a252, c252, rfl, rfl⟩
    rw [cs_erase _ _ hkl, show k + (n.ba.l.length - (k + 1)) = (n.ba.l.eraseIdx k).length by rw [List.length_eraseIdx, if_pos hkl]; omega]
    refine ⟨(Or.inr hld), ?_⟩
    refine TA.tp 17 rfl rfl (Y.nilCheck rfl rfl) ?_
    refine TA.tk 18 rfl rfl (by first | exact Y.fieldAddrJ rfl fo46_3 rfl nqq | exact Y.fieldAddr rfl fo46_3 rfl nqq) ?_
    refine TA.one0 19 (by kernel_rfl) rfl rfl rfl (X.store (cs' := netC { n with ba := ⟨a252, c252, n.ba.l.eraseIdx k⟩ }) rfl (by kernel_rfl) rfl rfl rfl pul (by show 3 < 9; decide) rfl) ?_
    rintro _ _ rfl
    refine ⟨(Or.inl (by kernel_rfl)), ?_⟩
    refine TA.done (by kernel_rfl) ?_
    refine TQ.next (TC.seq ?_)
    refine TC.to (Ent.elP (List.mem_of_getElem? hx) pul) ?_
    refine TC.to (Ent.rdssDrop (gs := n.ba.l.flatMap Dat.g) (hs := (n.ba.l.eraseIdx k).flatMap Dat.g) pul (fun q hq => by obtain ⟨z, hz, hq⟩ := List.mem_flatMap.1 hq; exact List.mem_flatMap.2 ⟨z, List.mem_of_mem_eraseIdx hz, hq⟩)) ?_
    refine TC.region ?_
    refine TL.val rfl rfl rfl (by first | exact Y.fieldAddrJ rfl fo42_0 rfl nqq | exact Y.fieldAddr rfl fo42_0 rfl nqq) ?_
    refine TL.val rfl rfl rfl (Y.load rfl sc3 rfl celN) ?_
    refine TL.as (vI 6) (by rfl) ?_
    refine TL.val rfl rfl rfl (Y.bin rfl rfl rfl (br_eqN (n := 4))) ?_
    refine TL.is false isf ?_
    refine TL.nil (TQ.next ?_)
    refine TC.cond_f rfl ?_
    refine TC.skip (TQ.block_normal ?_)
    refine TQ.meetF (ι := NP × PS × PS) (I := fun i => absN i.1 i.2.1 i.2.2 = (absN n A B).pop4 k) (C := fun (_ : NP × PS × PS) => []) (U := []) (({ n with ba := ⟨a252, c252, n.ba.l.eraseIdx k⟩ }, A, B)) (absN_eq rfl rfl (rfl) (outs_erase _ _ _ _) rfl rfl rfl (rfl) rfl) trivial grw ?_ ?_
    · kernel_rfl
    · simp only [List.cons_append, List.nil_append]
      exact ett
  · rintro ⟨n1, A1, B1⟩ hX1 F' L' rfl hL'
    simp only [List.cons_append, List.nil_append] at hL'
    subst hL'
    simp only at hX1 ⊢
    refine TC.cutF (ι := Unit) [] (fun _ => True) (fun _ => []) (fun _ => [nB nb { n1 with ab := clipS n1.ab }, oP (clipS n1.ab), rP (clipS n1.ab)]) (Ao := [nB nb n1, oP n1.ab, rP n1.ab]) (Pulls.cons pul (Pulls.cons pul (Pulls.cons pul Pulls.nil))) ?_ ?_
    · rintro L' hL'
      simp only [List.cons_append, List.nil_append] at hL'
      subst hL'
      refine TC.seq (TC.region ?_)
      refine TL.mv ?_
      refine TL.nc ?_
      refine TL.val rfl rfl rfl (by first | exact Y.fieldAddrJ rfl fo46_2 rfl nqq | exact Y.fieldAddr rfl fo46_2 rfl nqq) ?_
      refine TL.val rfl rfl rfl (Y.load rfl sc24 rfl celD) ?_
      refine TL.as (.slice n1.ab.a n1.ab.l.length n1.ab.cap) (by rfl) ?_
      refine TL.val rfl rfl rfl (Y.len rfl Try.underlying24 rfl) ?_
      refine TL.val rfl rfl rfl (Y.bin rfl rfl rfl (br_gtN (n := 200))) ?_
      refine TL.nil (TQ.next ?_)
      refine TC.cond rfl (fun c9 => ?_) (fun c9 => ?_)
      · try simp only [zA, zB, zC, zD, zE, zF, zG, zH, zI, zJ] at c9
        refine TC.know (reads_cap Reads.owns (a := n1.ab.a) (n := n1.ab.l.length) (cap := n1.ab.cap) (cs := Dat.cs n1.ab.l) inn) ?_
        rintro ⟨hcap, -, -, -⟩
        refine TC.region ?_
        refine TL.mv ?_
        refine TL.mv ?_
        refine TL.nc ?_
        refine TL.val rfl rfl rfl (by first | exact Y.fieldAddrJ rfl fo46_2 rfl nqq | exact Y.fieldAddr rfl fo46_2 rfl nqq) ?_
        refine TL.val rfl rfl rfl (Y.load rfl sc24 rfl celD) ?_
        refine TL.as (.slice n1.ab.a n1.ab.l.length n1.ab.cap) (by rfl) ?_
        refine TL.val rfl rfl rfl (Y.sliceHi2 (k := 200) rfl Try.underlying24 sz23 rfl rfl (by omega)) ?_
        refine TL.as (.slice n1.ab.a (n1.ab.l.take 200).length n1.ab.cap) (by (rw [List.length_take, Nat.min_eq_left (by omega)])) ?_
        refine TL.nc ?_
        refine TL.val rfl rfl rfl (by first | exact Y.fieldAddrJ rfl fo46_2 rfl nqq | exact Y.fieldAddr rfl fo46_2 rfl nqq) ?_
        refine TL.eff0 rfl rfl (X.store (cs' := netC { n1 with ab := clipS n1.ab }) rfl (by kernel_rfl) rfl rfl rfl pul (by show 2 < 9; decide) rfl) ?_
        rintro _ _ rfl
        refine TL.nil ?_
        refine TQ.to (Ent.clipO (s := n1.ab) pul pul (by omega) hcap) ?_
        refine TQ.meetF (ι := Unit) (I := fun _ => True) (C := fun (_ : Unit) => []) (U := []) (()) (trivial) trivial grw ?_ ?_
        · kernel_rfl
        · simp only [List.cons_append, List.nil_append]
          exact (by first | (rw [hcl, hcm]; exact ett) | exact ett)
      · try simp only [zA, zB, zC, zD, zE, zF, zG, zH, zI, zJ] at c9
        have hcl : ({ n1 with ab := clipS n1.ab } : NP) = n1 := by rw [clipS_id (by omega)]
        have hcm : clipS n1.ab = n1.ab := clipS_id (by omega)
        refine TC.skip ?_
        refine TQ.meetF (ι := Unit) (I := fun _ => True) (C := fun (_ : Unit) => []) (U := []) (()) (trivial) trivial grw ?_ ?_
        · kernel_rfl
        · simp only [List.cons_append, List.nil_append]
          exact (by first | (rw [hcl, hcm]; exact ett) | exact ett)
    · rintro ⟨⟩ - F' L' rfl hL'
      simp only [List.cons_append, List.nil_append] at hL'
      subst hL'
      refine TC.seq (TC.region ?_)
      refine TL.mv ?_
      refine TL.nc ?_
      refine TL.val rfl rfl rfl (by first | exact Y.fieldAddrJ rfl fo46_3 rfl nqq | exact Y.fieldAddr rfl fo46_3 rfl nqq) ?_
      refine TL.val rfl rfl rfl (Y.load rfl sc24 rfl celD) ?_
      refine TL.as (.slice n1.ba.a n1.ba.l.length n1.ba.cap) (by rfl) ?_
      refine TL.val rfl rfl rfl (Y.len rfl Try.underlying24 rfl) ?_
      refine TL.val rfl rfl rfl (Y.bin rfl rfl rfl (br_gtN (n := 200))) ?_
      refine TL.nil (TQ.next ?_)
      refine TC.cond rfl (fun c10 => ?_) (fun c10 => ?_)
      · try simp only [zA, zB, zC, zD, zE, zF, zG, zH, zI, zJ] at c10
        refine TC.know (reads_cap Reads.owns (a := n1.ba.a) (n := n1.ba.l.length) (cap := n1.ba.cap) (cs := Dat.cs n1.ba.l) inn) ?_
        rintro ⟨hcap, -, -, -⟩
        refine TC.region ?_
        refine TL.mv ?_
        refine TL.mv ?_
        refine TL.nc ?_
        refine TL.val rfl rfl rfl (by first | exact Y.fieldAddrJ rfl fo46_3 rfl nqq | exact Y.fieldAddr rfl fo46_3 rfl nqq) ?_
        refine TL.val rfl rfl rfl (Y.load rfl sc24 rfl celD) ?_
        refine TL.as (.slice n1.ba.a n1.ba.l.length n1.ba.cap) (by rfl) ?_
        refine TL.val rfl rfl rfl (Y.sliceHi2 (k := 200) rfl Try.underlying24 sz23 rfl rfl (by omega)) ?_
        refine TL.as (.slice n1.ba.a (n1.ba.l.take 200).length n1.ba.cap) (by (rw [List.length_take, Nat.min_eq_left (by omega)])) ?_
        refine TL.nc ?_
        refine TL.val rfl rfl rfl (by first | exact Y.fieldAddrJ rfl fo46_3 rfl nqq | exact Y.fieldAddr rfl fo46_3 rfl nqq) ?_
        refine TL.eff0 rfl rfl (X.store (cs' := netC { n1 with ab := clipS n1.ab, ba := clipS n1.ba }) rfl (by kernel_rfl) rfl rfl rfl pul (by show 3 < 9; decide) rfl) ?_
        rintro _ _ rfl
        refine TL.nil ?_
        refine TQ.to (Ent.clipO (s := n1.ba) pul pul (by omega) hcap) ?_
        refine TQ.endE (res0 rfl) (⟨{ n1 with ab := clipS n1.ab, ba := clipS n1.ba }, A1, B1, (absN_clip n1 A1 B1).trans (congrArg PN.clip hX1), rfl⟩) ?_
        exact (by simp only [NAt, List.cons_append, List.nil_append]; first | (rw [hcl, hcm]; exact ett) | exact ett)
      · try simp only [zA, zB, zC, zD, zE, zF, zG, zH, zI, zJ] at c10
        have hcl : ({ n1 with ab := clipS n1.ab, ba := clipS n1.ba } : NP) = { n1 with ab := clipS n1.ab } := by rw [clipS_id (s := n1.ba) (by omega)]
        have hcm : clipS n1.ba = n1.ba := clipS_id (by omega)
        refine TC.skip ?_
        refine TQ.endE (res0 rfl) (⟨{ n1 with ab := clipS n1.ab, ba := clipS n1.ba }, A1, B1, (absN_clip n1 A1 B1).trans (congrArg PN.clip hX1), rfl⟩) ?_
        exact (by simp only [NAt, List.cons_append, List.nil_append]; first | (rw [hcl, hcm]; exact ett) | exact ett)
set_option maxHeartbeats 4000000 in
theorem stp6k_fn (nb : Nat) (n : NP) (A B : PS) (hF : Fits (absN n A B)) (N : Int) (k : Nat) (x : Bs) (hk : k = idxN N n.ba.l.length) (hx : n.ba.l[k]? = some x) (hxl : x.l.length ≤ 140737488351232) (d : Value) (hd1 : d.oneCell' = true) (nw : UInt16) (L : List SA) :
    Fn Try.prog 16 [pt nb 0, .agg (netArg 6 N true d nw)] (NAt nb n A B ++ L) (StepR nb ((absN n A B).pop4 k).clip (L)) := by
  obtain ⟨hn1, hn2, hn3, hn4, hn5, hn6⟩ := hF.lens
  have hnow : 0 ≤ n.now ∧ n.now ≤ 1000000000000 := hF.now
  simp only [NAt, List.cons_append, List.nil_append]
  have hkl := (List.getElem?_eq_some_iff.1 hx).1
  refine Fn.of (N := 367) Try.func16 rfl rfl ?_
  intro Xh
  refine TC.seq (TC.region ?_)
  refine TL.eff rfl rfl rfl (X.box (cs := netArg 6 N true d nw) rfl rfl rfl) ?_
  rintro _ _ ⟨b3, rfl, rfl⟩
  refine TL.nil (TQ.next ?_)
  refine TC.cutF (ι := NP × PS × PS) [] (fun i => absN i.1 i.2.1 i.2.2 = (absN n A B).pop4 k) (fun i => []) (fun i => [nB nb i.1, SD i.1.a i.2.1, SD i.1.b i.2.2, oP i.1.ab, rP i.1.ab, oP i.1.ba, rP i.1.ba, oM i.1.sent, rMs i.1.sent, oM i.1.back, rMs i.1.back, oM i.1.gB, rMs i.1.gB, oM i.1.gA, rMs i.1.gA]) (Ao := [nB nb n, SD n.a A, SD n.b B, oP n.ab, rP n.ab, oP n.ba, rP n.ba, oM n.sent, rMs n.sent, oM n.back, rMs n.back, oM n.gB, rMs n.gB, oM n.gA, rMs n.gA]) (Pulls.cons pul (Pulls.cons pul (Pulls.cons pul (Pulls.cons pul (Pulls.cons pul (Pulls.cons pul (Pulls.cons pul (Pulls.cons pul (Pulls.cons pul (Pulls.cons pul (Pulls.cons pul (Pulls.cons pul (Pulls.cons pul (Pulls.cons pul (Pulls.cons pul Pulls.nil))))))))))))))) ?_ ?_
  · rintro L' hL'
    simp only [List.cons_append, List.nil_append] at hL'
    subst hL'
    refine TC.seq (TC.region ?_)
    refine TL.val rfl rfl rfl (by first | exact Y.fieldAddrJ rfl fo42_0 rfl nqq | exact Y.fieldAddr rfl fo42_0 rfl nqq) ?_
    refine TL.val rfl rfl rfl (Y.load rfl sc3 rfl celN) ?_
    refine TL.as (vI 6) (by rfl) ?_
    refine TL.nil (TQ.next (TC.block (TC.seq (TC.seq (TC.region ?_)))))
    refine TL.val rfl rfl rfl (Y.bin rfl rfl rfl (br_eqN (n := 1))) ?_
    refine TL.is false isf ?_
    refine TL.sg ?_
    refine TL.nil (TQ.next ?_)
    refine TC.cond_f rfl ?_
    refine TC.region ?_
    refine TL.val rfl rfl rfl (Y.bin rfl rfl rfl (br_eqN (n := 2))) ?_
    refine TL.is false isf ?_
    refine TL.sg ?_
    refine TL.nil (TQ.next ?_)
    refine TC.cond_f rfl ?_
    refine TC.seq (TC.seq (TC.region ?_))
    refine TL.val rfl rfl rfl (Y.bin rfl rfl rfl (br_eqN (n := 3))) ?_
    refine TL.is false isf ?_
    refine TL.sg ?_
    refine TL.nil (TQ.next ?_)
    refine TC.cond_f rfl ?_
    refine TC.region ?_
    refine TL.val rfl rfl rfl (Y.bin rfl rfl rfl (br_eqN (n := 5))) ?_
    refine TL.is false isf ?_
    refine TL.sg ?_
    refine TL.nil (TQ.next ?_)
    refine TC.cond_f rfl ?_
    refine TC.seq (TC.seq (TC.region ?_))
    refine TL.val rfl rfl rfl (Y.bin rfl rfl rfl (br_eqN (n := 4))) ?_
    refine TL.is false isf ?_
    refine TL.sg ?_
    refine TL.nil (TQ.next ?_)
    refine TC.cond_f rfl ?_
    refine TC.region ?_
    refine TL.val rfl rfl rfl (Y.bin rfl rfl rfl (br_eqN (n := 6))) ?_
    refine TL.is true isf ?_
    refine TL.sg ?_
    refine TL.nil (TQ.next ?_)
    refine TC.cond_t rfl ?_
    refine TC.seq (TC.seq (TC.region ?_))
    refine TL.mv ?_
    refine TL.nc ?_
    refine TL.val rfl rfl rfl (by first | exact Y.fieldAddrJ rfl fo46_3 rfl nqq | exact Y.fieldAddr rfl fo46_3 rfl nqq) ?_
    refine TL.val rfl rfl rfl (Y.load rfl sc24 rfl celD) ?_
    refine TL.as (.slice n.ba.a n.ba.l.length n.ba.cap) (by rfl) ?_
    refine TL.val rfl rfl rfl (Y.len rfl Try.underlying24 rfl) ?_
    refine TL.val rfl rfl rfl (Y.bin rfl rfl rfl (br_eqN (n := 0))) ?_
    refine TL.is false (by (simp; intro h; rw [h] at hkl; simp at hkl)) ?_
    refine TL.nil (TQ.next ?_)
    refine TC.cond_f rfl ?_
    refine TC.skip (TQ.next (TC.seq ?_))
    refine TC.draws 12 _ (by kernel_rfl) (by kernel_rfl) (fun _ h => h) ?_
    refine TA.tk 0 rfl rfl (by first | exact Y.fieldAddrJ rfl fo42_1 rfl nqq | exact Y.fieldAddr rfl fo42_1 rfl nqq) ?_
    refine TA.tk 1 rfl rfl (Y.load rfl sc3 rfl celN) ?_
    refine TA.as (vI N) (by rfl) ?_
    refine TA.tk 2 rfl rfl (Y.conv (m := (((N % 18446744073709551616).toNat : Nat) : Int)) rfl Try.underlying3 Try.underlying56 rfl (by rw [wrap_u64]; omega)) ?_
    refine TA.tk 3 rfl rfl (Y.move rfl rfl) ?_
    refine TA.tk 4 rfl rfl (Y.nilCheck rfl rfl) ?_
    refine TA.tk 5 rfl rfl (by first | exact Y.fieldAddrJ rfl fo46_3 rfl nqq | exact Y.fieldAddr rfl fo46_3 rfl nqq) ?_
    refine TA.tk 6 rfl rfl (Y.load rfl sc24 rfl celD) ?_
    refine TA.as (.slice n.ba.a n.ba.l.length n.ba.cap) (by rfl) ?_
    refine TA.tk 7 rfl rfl (Y.len rfl Try.underlying24 rfl) ?_
    refine TA.tk 8 rfl rfl (Y.conv rfl Try.underlying3 Try.underlying56 rfl (cv_N_64n (by omega))) ?_
    refine TA.tk 9 rfl rfl (Y.bin rfl rfl rfl (br_remU (by omega))) ?_
    refine TA.as (.int .u64 ((k : Nat) : Int)) (by (rw [hk]; rfl)) ?_
    refine TA.tk 10 rfl rfl (Y.conv rfl Try.underlying56 Try.underlying3 rfl (cv_64n_N (by omega))) ?_
    refine TA.tk 11 rfl rfl (Y.assign rfl rfl) ?_
    refine TA.done (by kernel_rfl) ?_
    refine TQ.next (TC.seq ?_)
    refine TC.know (reads_cap Reads.owns (a := n.ba.a) (n := n.ba.l.length) (cap := n.ba.cap) (cs := Dat.cs n.ba.l) inn) ?_
    rintro ⟨hcap0, -, -, -⟩
    refine TC.know (owns_some (a := n.ba.a) (n := n.ba.l.length) inn (by omega)) ?_
    rintro ⟨g, off, hqa⟩
    refine TC.region ?_
    refine TL.mv ?_
    refine TL.nc ?_
    refine TL.val rfl rfl rfl (by first | exact Y.fieldAddrJ rfl fo46_3 rfl nqq | exact Y.fieldAddr rfl fo46_3 rfl nqq) ?_
    refine TL.val rfl rfl rfl (Y.load rfl sc24 rfl celD) ?_
    refine TL.as (.slice (some ⟨g, off, none⟩) n.ba.l.length n.ba.cap) (by (rw [← hqa]; rfl)) ?_
    refine TL.mv ?_
    refine TL.val rfl rfl rfl (by first | exact Y.indexSlB rfl sl24 rfl rfl (by omega) nqq | exact Y.indexSl rfl sl24 rfl rfl (by omega) nqq) ?_
    refine TL.val rfl rfl rfl (Y.load rfl sc23 rfl (Cel.atS (A := SA.owns 23 1 (.slice (some ⟨g, off, none⟩) n.ba.l.length n.ba.cap) n.ba.l.length (Dat.cs n.ba.l)) Reads.owns (by rw [← hqa]; exact inn) hx rfl)) ?_
    refine TL.as (.slice x.a x.l.length x.cap) (by rfl) ?_
    refine TL.sg ?_
    refine TL.nil (TQ.next (TC.seq (TC.seq (TC.region ?_))))
    refine TL.val rfl rfl rfl (by first | exact Y.fieldAddrJ rfl fo42_2 rfl nqq | exact Y.fieldAddr rfl fo42_2 rfl nqq) ?_
    refine TL.val rfl rfl rfl (Y.load rfl sc4 rfl celD) ?_
    refine TL.as (.bool true) (by rfl) ?_
    refine TL.val rfl rfl rfl (Y.not rfl rfl) ?_
    refine TL.is false isf ?_
    refine TL.mv ?_
    refine TL.valG rfl rfl rfl (by first | exact Y.fieldAddrJ rfl fo42_0 rfl nqq | exact Y.fieldAddr rfl fo42_0 rfl nqq) ?_
    refine TL.valG rfl rfl rfl (Y.load rfl sc3 rfl celN) ?_
    refine TL.as (vI 6) (by rfl) ?_
    refine TL.valG rfl rfl rfl (Y.bin rfl rfl rfl (br_eqN (n := 6))) ?_
    refine TL.is true isf ?_
    refine TL.val rfl rfl rfl (Y.pick_f rfl rfl rfl) ?_
    refine TL.nil (TQ.next ?_)
    refine TC.cond_t rfl ?_
    refine TC.draws 19 [nB nb n, oP n.ba] (by kernel_rfl) (by kernel_rfl) hld ?_
    refine TA.tk 0 rfl rfl (Y.move rfl rfl) ?_
    refine TA.tk 2 rfl rfl (Y.move rfl rfl) ?_
    refine TA.tk 3 rfl rfl (Y.nilCheck rfl rfl) ?_
    refine TA.tk 4 rfl rfl (by first | exact Y.fieldAddrJ rfl fo46_3 rfl nqq | exact Y.fieldAddr rfl fo46_3 rfl nqq) ?_
    refine TA.tk 5 rfl rfl (Y.load rfl sc24 rfl celD) ?_
    refine TA.as (.slice n.ba.a n.ba.l.length n.ba.cap) (by rfl) ?_
    refine TA.tk 6 rfl rfl (Y.move rfl rfl) ?_
    refine TA.tk 7 rfl rfl (Y.sliceHi2 (sz := 1) rfl Try.underlying24 (by kernel_rfl) rfl rfl (by omega)) ?_
    refine TA.tk 9 rfl rfl (Y.move rfl rfl) ?_
    refine TA.tk 10 rfl rfl (Y.nilCheck rfl rfl) ?_
    refine TA.tk 11 rfl rfl (by first | exact Y.fieldAddrJ rfl fo46_3 rfl nqq | exact Y.fieldAddr rfl fo46_3 rfl nqq) ?_
    refine TA.tk 12 rfl rfl (Y.load rfl sc24 rfl celD) ?_
    refine TA.as (.slice n.ba.a n.ba.l.length n.ba.cap) (by rfl) ?_
    refine TA.tk 13 rfl rfl (Y.move rfl rfl) ?_
    refine TA.tk 14 rfl rfl (Y.bin rfl rfl rfl (br_addN (n := 1) (by omega))) ?_
    refine TA.tk 15 rfl rfl (Y.sliceLo rfl Try.underlying24 sz23 rfl rfl (by omega)) ?_
    refine TA.one 1 (by kernel_rfl) rfl rfl rfl rfl (X.lit rfl el24 rfl rfl rfl (by decide) rfl) ?_
    rintro _ _ ⟨g237, rfl, rfl⟩
    refine ⟨(Or.inr hld), ?_⟩
    refine TA.one 8 (by kernel_rfl) rfl rfl rfl rfl (X.appendS rfl el24 rfl pul rfl (Src.reads (Reads.head (A := oP n.ba) (k := k) (n := n.ba.l.length) (cs := Dat.cs n.ba.l) Reads.owns (by omega)) Try.underlying24 inn) (by simp only [maxLen]; omega) (by omega)) ?_
    rintro _ _ ⟨a244, c244, rfl, rfl⟩
    rw [show ([] : List Value) ++ (Dat.cs n.ba.l).take (k * 1) = Dat.cs (n.ba.l.take k) by rw [Dat.cs_take]; rfl, Nat.zero_add]
    refine ⟨(Or.inr hld), ?_⟩
    refine TA.one 16 (by kernel_rfl) rfl rfl rfl rfl (X.appendS rfl el24 rfl pul rfl (Src.cut Reads.owns Try.underlying24 inn (by omega) (by omega)) (by simp only [maxLen]; omega) (by omega)) ?_
    rintro _ _ ⟨a252, c252, rfl, rfl⟩
    rw [cs_erase _ _ hkl, show k + (n.ba.l.length - (k + 1)) = (n.ba.l.eraseIdx k).length by rw [List.length_eraseIdx, if_pos hkl]; omega]
    refine ⟨(Or.inr hld), ?_⟩
    refine TA.tp 17 rfl rfl (Y.nilCheck rfl rfl) ?_
    refine TA.tk 18 rfl rfl (by first | exact Y.fieldAddrJ rfl fo46_3 rfl nqq | exact Y.fieldAddr rfl fo46_3 rfl nqq) ?_
    refine TA.one0 19 (by kernel_rfl) rfl rfl rfl (X.store (cs' := netC { n with ba := ⟨a252, c252, n.ba.l.eraseIdx k⟩ }) rfl (by kernel_rfl) rfl rfl rfl pul (by show 3 < 9; decide) rfl) ?_
    rintro _ _ rfl
    refine ⟨(Or.inl (by kernel_rfl)), ?_⟩
    refine TA.done (by kernel_rfl) ?_
    refine TQ.next (TC.seq ?_)
    refine TC.to (Ent.elP (List.mem_of_getElem? hx) pul) ?_
    refine TC.to (Ent.rdssDrop (gs := n.ba.l.flatMap Dat.g) (hs := (n.ba.l.eraseIdx k).flatMap Dat.g) pul (fun q hq => by obtain ⟨z, hz, hq⟩ := List.mem_flatMap.1 hq; exact List.mem_flatMap.2 ⟨z, List.mem_of_mem_eraseIdx hz, hq⟩)) ?_
    refine TC.region ?_
    refine TL.val rfl rfl rfl (by first | exact Y.fieldAddrJ rfl fo42_0 rfl nqq | exact Y.fieldAddr rfl fo42_0 rfl nqq) ?_
    refine TL.val rfl rfl rfl (Y.load rfl sc3 rfl celN) ?_
    refine TL.as (vI 6) (by rfl) ?_
    refine TL.val rfl rfl rfl (Y.bin rfl rfl rfl (br_eqN (n := 4))) ?_
    refine TL.is false isf ?_
    refine TL.nil (TQ.next ?_)
    refine TC.cond_f rfl ?_
    refine TC.skip (TQ.block_normal ?_)
    refine TQ.meetF (ι := NP × PS × PS) (I := fun i => absN i.1 i.2.1 i.2.2 = (absN n A B).pop4 k) (C := fun (_ : NP × PS × PS) => []) (U := []) (({ n with ba := ⟨a252, c252, n.ba.l.eraseIdx k⟩ }, A, B)) (absN_eq rfl rfl (rfl) (outs_erase _ _ _ _) rfl rfl rfl (rfl) rfl) trivial grw ?_ ?_
    · kernel_rfl
    · simp only [List.cons_append, List.nil_append]
      exact ett
  · rintro ⟨n1, A1, B1⟩ hX1 F' L' rfl hL'
    simp only [List.cons_append, List.nil_append] at hL'
    subst hL'
    simp only at hX1 ⊢
    refine TC.cutF (ι := Unit) [] (fun _ => True) (fun _ => []) (fun _ => [nB nb { n1 with ab := clipS n1.ab }, oP (clipS n1.ab), rP (clipS n1.ab)]) (Ao := [nB nb n1, oP n1.ab, rP n1.ab]) (Pulls.cons pul (Pulls.cons pul (Pulls.cons pul Pulls.nil))) ?_ ?_
    · rintro L' hL'
      simp only [List.cons_append, List.nil_append] at hL'
      subst hL'
      refine TC.seq (TC.region ?_)
      refine TL.mv ?_
      refine TL.nc ?_
      refine TL.val rfl rfl rfl (by first | exact Y.fieldAddrJ rfl fo46_2 rfl nqq | exact Y.fieldAddr rfl fo46_2 rfl nqq) ?_
      refine TL.val rfl rfl rfl (Y.load rfl sc24 rfl celD) ?_
      refine TL.as (.slice n1.ab.a n1.ab.l.length n1.ab.cap) (by rfl) ?_
      refine TL.val rfl rfl rfl (Y.len rfl Try.underlying24 rfl) ?_
      refine TL.val rfl rfl rfl (Y.bin rfl rfl rfl (br_gtN (n := 200))) ?_
      refine TL.nil (TQ.next ?_)
      refine TC.cond rfl (fun c9 => ?_) (fun c9 => ?_)
      · try simp only [zA, zB, zC, zD, zE, zF, zG, zH, zI, zJ] at c9
        refine TC.know (reads_cap Reads.owns (a := n1.ab.a) (n := n1.ab.l.length) (cap := n1.ab.cap) (cs := Dat.cs n1.ab.l) inn) ?_
        rintro ⟨hcap, -, -, -⟩
        refine TC.region ?_
        refine TL.mv ?_
        refine TL.mv ?_
        refine TL.nc ?_
        refine TL.val rfl rfl rfl (by first | exact Y.fieldAddrJ rfl fo46_2 rfl nqq | exact Y.fieldAddr rfl fo46_2 rfl nqq) ?_
        refine TL.val rfl rfl rfl (Y.load rfl sc24 rfl celD) ?_
        refine TL.as (.slice n1.ab.a n1.ab.l.length n1.ab.cap) (by rfl) ?_
        refine TL.val rfl rfl rfl (Y.sliceHi2 (k := 200) rfl Try.underlying24 sz23 rfl rfl (by omega)) ?_
        refine TL.as (.slice n1.ab.a (n1.ab.l.take 200).length n1.ab.cap) (by (rw [List.length_take, Nat.min_eq_left (by omega)])) ?_
        refine TL.nc ?_
        refine TL.val rfl rfl rfl (by first | exact Y.fieldAddrJ rfl fo46_2 rfl nqq | exact Y.fieldAddr rfl fo46_2 rfl nqq) ?_
        refine TL.eff0 rfl rfl (X.store (cs' := netC { n1 with ab := clipS n1.ab }) rfl (by kernel_rfl) rfl rfl rfl pul (by show 2 < 9; decide) rfl) ?_
        rintro _ _ rfl
        refine TL.nil ?_
        refine TQ.to (Ent.clipO (s := n1.ab) pul pul (by omega) hcap) ?_
        refine TQ.meetF (ι := Unit) (I := fun _ => True) (C := fun (_ : Unit) => []) (U := []) (()) (trivial) trivial grw ?_ ?_
        · kernel_rfl
        · simp only [List.cons_append, List.nil_append]
          exact (by first | (rw [hcl, hcm]; exact ett) | exact ett)
      · try simp only [zA, zB, zC, zD, zE, zF, zG, zH, zI, zJ] at c9
        have hcl : ({ n1 with ab := clipS n1.ab } : NP) = n1 := by rw [clipS_id (by omega)]
        have hcm : clipS n1.ab = n1.ab := clipS_id (by omega)
        refine TC.skip ?_
        refine TQ.meetF (ι := Unit) (I := fun _ => True) (C := fun (_ : Unit) => []) (U := []) (()) (trivial) trivial grw ?_ ?_
        · kernel_rfl
        · simp only [List.cons_append, List.nil_append]
          exact (by first | (rw [hcl, hcm]; exact ett) | exact ett)
    · rintro ⟨⟩ - F' L' rfl hL'
      simp only [List.cons_append, List.nil_append] at hL'
      subst hL'
      refine TC.seq (TC.region ?_)
      refine TL.mv ?_
      refine TL.nc ?_
      refine TL.val rfl rfl rfl (by first | exact Y.fieldAddrJ rfl fo46_3 rfl nqq | exact Y.fieldAddr rfl fo46_3 rfl nqq) ?_
      refine TL.val rfl rfl rfl (Y.load rfl sc24 rfl celD) ?_
      refine TL.as (.slice n1.ba.a n1.ba.l.length n1.ba.cap) (by rfl) ?_
      refine TL.val rfl rfl rfl (Y.len rfl Try.underlying24 rfl) ?_
      refine TL.val rfl rfl rfl (Y.bin rfl rfl rfl (br_gtN (n := 200))) ?_
      refine TL.nil (TQ.next ?_)
      refine TC.cond rfl (fun c10 => ?_) (fun c10 => ?_)
      · try simp only [zA, zB, zC, zD, zE, zF, zG, zH, zI, zJ] at c10
        refine TC.know (reads_cap Reads.owns (a := n1.ba.a) (n := n1.ba.l.length) (cap := n1.ba.cap) (cs := Dat.cs n1.ba.l) inn) ?_
        rintro ⟨hcap, -, -, -⟩
        refine TC.region ?_
        refine TL.mv ?_
        refine TL.mv ?_
        refine TL.nc ?_
        refine TL.val rfl rfl rfl (by first | exact Y.fieldAddrJ rfl fo46_3 rfl nqq | exact Y.fieldAddr rfl fo46_3 rfl nqq) ?_
        refine TL.val rfl rfl rfl (Y.load rfl sc24 rfl celD) ?_
        refine TL.as (.slice n1.ba.a n1.ba.l.length n1.ba.cap) (by rfl) ?_
        refine TL.val rfl rfl rfl (Y.sliceHi2 (k := 200) rfl Try.underlying24 sz23 rfl rfl (by omega)) ?_
        refine TL.as (.slice n1.ba.a (n1.ba.l.take 200).length n1.ba.cap) (by (rw [List.length_take, Nat.min_eq_left (by omega)])) ?_
        refine TL.nc ?_
        refine TL.val rfl rfl rfl (by first | exact Y.fieldAddrJ rfl fo46_3 rfl nqq | exact Y.fieldAddr rfl fo46_3 rfl nqq) ?_
        refine TL.eff0 rfl rfl (X.store (cs' := netC { n1 with ab := clipS n1.ab, ba := clipS n1.ba }) rfl (by kernel_rfl) rfl rfl rfl pul (by show 3 < 9; decide) rfl) ?_
        rintro _ _ rfl
        refine TL.nil ?_
        refine TQ.to (Ent.clipO (s := n1.ba) pul pul (by omega) hcap) ?_
        refine TQ.endE (res0 rfl) (⟨{ n1 with ab := clipS n1.ab, ba := clipS n1.ba }, A1, B1, (absN_clip n1 A1 B1).trans (congrArg PN.clip hX1), rfl⟩) ?_
        exact (by simp only [NAt, List.cons_append, List.nil_append]; first | (rw [hcl, hcm]; exact ett) | exact ett)
      · try simp only [zA, zB, zC, zD, zE, zF, zG, zH, zI, zJ] at c10
        have hcl : ({ n1 with ab := clipS n1.ab, ba := clipS n1.ba } : NP) = { n1 with ab := clipS n1.ab } := by rw [clipS_id (s := n1.ba) (by omega)]
        have hcm : clipS n1.ba = n1.ba := clipS_id (by omega)
        refine TC.skip ?_
        refine TQ.endE (res0 rfl) (⟨{ n1 with ab := clipS n1.ab, ba := clipS n1.ba }, A1, B1, (absN_clip n1 A1 B1).trans (congrArg PN.clip hX1), rfl⟩) ?_
        exact (by simp only [NAt, List.cons_append, List.nil_append]; first | (rw [hcl, hcm]; exact ett) | exact ett)
end ac
end Go.Proofs.Ytomplpdeeomehaa


/- assoc: the net's other steps, walked; a step of any kind. -/
namespace Go.Proofs.Ytomplpdeeomehaa
set_option linter.unusedVariables false
set_option linter.unusedSimpArgs false
open Go.RowKit
namespace ac
open wr (be16 be32)
open rd (num)
namespace FxAsN7
set_option maxRecDepth 100000
theorem fo42_4 : Program.fieldOff Try.prog 42 4 = some 4 := by kernel_rfl
end FxAsN7
open Go.Proofs.Ytomplpdeeomehaa.sha.FxShaMac Go.Proofs.Ytomplpdeeomehaa.ac.FxAsNet Go.Proofs.Ytomplpdeeomehaa.ac.FxAsNet4 Go.Proofs.Ytomplpdeeomehaa.ac.FxAsA Go.Proofs.Ytomplpdeeomehaa.ac.FxAsS Go.Proofs.Ytomplpdeeomehaa.ac.FxAsC Go.Proofs.Ytomplpdeeomehaa.rd.FxWireR FxAsN7
theorem tick_len (S : PS) (hS : InvA S) (now : Int) : (S.tickP now).2.length ≤ 16 := by
  unfold AS.tickP
  split
  · exact Nat.zero_le _
  split
  · exact Nat.zero_le _
  split
  · show 1 ≤ 16; decide
  · show (S.againOut S.sent).length ≤ 16
    unfold AS.againOut
    rw [List.length_map]
    refine Nat.le_trans (List.length_filter_le _ _) ?_
    rw [List.length_range]; exact hS.s16
set_option maxHeartbeats 4000000 in
theorem stp7_fn (nb : Nat) (n : NP) (A B : PS) (hF : Fits (absN n A B)) (N : Int) (kp : Bool) (d : Value) (hd1 : d.oneCell' = true) (nw : UInt16) (w : Nat) (hw : w = (nw % 4000).toNat) (hw4 : w < 4000) (L : List SA) :
    Fn Try.prog 16 [pt nb 0, .agg (netArg 7 N kp d nw)] (NAt nb n A B ++ L) (StepR nb ((absN n A B).tick w).clip (L)) := by
  obtain ⟨hn1, hn2, hn3, hn4, hn5, hn6⟩ := hF.lens
  have hnow : 0 ≤ n.now ∧ n.now ≤ 1000000000000 := hF.now
  simp only [NAt, List.cons_append, List.nil_append]
  refine Fn.of (N := 367) Try.func16 rfl rfl ?_
  intro Xh
  refine TC.seq (TC.region ?_)
  refine TL.eff rfl rfl rfl (X.box (cs := netArg 7 N kp d nw) rfl rfl rfl) ?_
  rintro _ _ ⟨b3, rfl, rfl⟩
  refine TL.nil (TQ.next ?_)
  refine TC.cutF (ι := NP × PS × PS) [] (fun i => absN i.1 i.2.1 i.2.2 = (absN n A B).tick w) (fun i => []) (fun i => [nB nb i.1, SD i.1.a i.2.1, SD i.1.b i.2.2, oP i.1.ab, rP i.1.ab, oP i.1.ba, rP i.1.ba, oM i.1.sent, rMs i.1.sent, oM i.1.back, rMs i.1.back, oM i.1.gB, rMs i.1.gB, oM i.1.gA, rMs i.1.gA]) (Ao := [nB nb n, SD n.a A, SD n.b B, oP n.ab, rP n.ab, oP n.ba, rP n.ba, oM n.sent, rMs n.sent, oM n.back, rMs n.back, oM n.gB, rMs n.gB, oM n.gA, rMs n.gA]) (Pulls.cons pul (Pulls.cons pul (Pulls.cons pul (Pulls.cons pul (Pulls.cons pul (Pulls.cons pul (Pulls.cons pul (Pulls.cons pul (Pulls.cons pul (Pulls.cons pul (Pulls.cons pul (Pulls.cons pul (Pulls.cons pul (Pulls.cons pul (Pulls.cons pul Pulls.nil))))))))))))))) ?_ ?_
  · rintro L' hL'
    simp only [List.cons_append, List.nil_append] at hL'
    subst hL'
    refine TC.seq (TC.region ?_)
    refine TL.val rfl rfl rfl (by first | exact Y.fieldAddrJ rfl fo42_0 rfl nqq | exact Y.fieldAddr rfl fo42_0 rfl nqq) ?_
    refine TL.val rfl rfl rfl (Y.load rfl sc3 rfl celN) ?_
    refine TL.as (vI 7) (by rfl) ?_
    refine TL.nil (TQ.next (TC.block (TC.seq (TC.seq (TC.region ?_)))))
    refine TL.val rfl rfl rfl (Y.bin rfl rfl rfl (br_eqN (n := 1))) ?_
    refine TL.is false isf ?_
    refine TL.sg ?_
    refine TL.nil (TQ.next ?_)
    refine TC.cond_f rfl ?_
    refine TC.region ?_
    refine TL.val rfl rfl rfl (Y.bin rfl rfl rfl (br_eqN (n := 2))) ?_
    refine TL.is false isf ?_
    refine TL.sg ?_
    refine TL.nil (TQ.next ?_)
    refine TC.cond_f rfl ?_
    refine TC.seq (TC.seq (TC.region ?_))
    refine TL.val rfl rfl rfl (Y.bin rfl rfl rfl (br_eqN (n := 3))) ?_
    refine TL.is false isf ?_
    refine TL.sg ?_
    refine TL.nil (TQ.next ?_)
    refine TC.cond_f rfl ?_
    refine TC.region ?_
    refine TL.val rfl rfl rfl (Y.bin rfl rfl rfl (br_eqN (n := 5))) ?_
    refine TL.is false isf ?_
    refine TL.sg ?_
    refine TL.nil (TQ.next ?_)
    refine TC.cond_f rfl ?_
    refine TC.seq (TC.seq (TC.region ?_))
    refine TL.val rfl rfl rfl (Y.bin rfl rfl rfl (br_eqN (n := 4))) ?_
    refine TL.is false isf ?_
    refine TL.sg ?_
    refine TL.nil (TQ.next ?_)
    refine TC.cond_f rfl ?_
    refine TC.region ?_
    refine TL.val rfl rfl rfl (Y.bin rfl rfl rfl (br_eqN (n := 6))) ?_
    refine TL.is false isf ?_
    refine TL.sg ?_
    refine TL.nil (TQ.next ?_)
    refine TC.cond_f rfl ?_
    refine TC.seq (TC.region ?_)
    refine TL.val rfl rfl rfl (Y.bin rfl rfl rfl (br_eqN (n := 7))) ?_
    refine TL.is true isf ?_
    refine TL.sg ?_
    refine TL.nil (TQ.next ?_)
    refine TC.cond_t rfl ?_
    refine TC.seq ?_
    refine TC.draws 12 _ (by kernel_rfl) (by kernel_rfl) (fun _ h => h) ?_
    refine TA.tk 0 rfl rfl (Y.move rfl rfl) ?_
    refine TA.tk 1 rfl rfl (Y.move rfl rfl) ?_
    refine TA.tk 2 rfl rfl (Y.nilCheck rfl rfl) ?_
    refine TA.tk 3 rfl rfl (by first | exact Y.fieldAddrJ rfl fo46_8 rfl nqq | exact Y.fieldAddr rfl fo46_8 rfl nqq) ?_
    refine TA.tk 4 rfl rfl (Y.load rfl sc2 rfl celN) ?_
    refine TA.as (vI n.now) (by rfl) ?_
    refine TA.tk 5 rfl rfl (by first | exact Y.fieldAddrJ rfl fo42_4 rfl nqq | exact Y.fieldAddr rfl fo42_4 rfl nqq) ?_
    refine TA.tk 6 rfl rfl (Y.load rfl sc40 rfl cel16) ?_
    refine TA.as (v16 nw) (by rfl) ?_
    refine TA.tk 7 rfl rfl (Y.bin rfl rfl rfl (br_rem16 (y := 4000) (by decide))) ?_
    refine TA.tk 8 rfl rfl (Y.conv rfl Try.underlying40 Try.underlying2 rfl (cv_16_N)) ?_
    refine TA.as (vI (w : Int)) (by (rw [hw])) ?_
    refine TA.tk 9 rfl rfl (Y.bin rfl rfl rfl (br_addI (by omega) (by omega))) ?_
    refine TA.tp 10 rfl rfl (Y.nilCheck rfl rfl) ?_
    refine TA.tk 11 rfl rfl (by first | exact Y.fieldAddrJ rfl fo46_8 rfl nqq | exact Y.fieldAddr rfl fo46_8 rfl nqq) ?_
    refine TA.one0 12 (by kernel_rfl) rfl rfl rfl (X.store (cs' := netC { n with now := n.now + (w : Int) }) rfl (by kernel_rfl) rfl rfl rfl pul (by show 8 < 9; decide) rfl) ?_
    rintro _ _ rfl
    refine ⟨(Or.inl (by kernel_rfl)), ?_⟩
    refine TA.done (by kernel_rfl) ?_
    refine TQ.next (TC.seq ?_)
    refine TC.draws 17 [nB nb { n with now := n.now + (w : Int) }] (by kernel_rfl) (by kernel_rfl) hld ?_
    refine TA.tk 0 rfl rfl (Y.move rfl rfl) ?_
    refine TA.tk 1 rfl rfl (Y.move rfl rfl) ?_
    refine TA.tk 2 rfl rfl (Y.nilCheck rfl rfl) ?_
    refine TA.tk 3 rfl rfl (by first | exact Y.fieldAddrJ rfl fo46_2 rfl nqq | exact Y.fieldAddr rfl fo46_2 rfl nqq) ?_
    refine TA.tk 4 rfl rfl (Y.load rfl sc24 rfl celD) ?_
    refine TA.as (.slice n.ab.a n.ab.l.length n.ab.cap) (by rfl) ?_
    refine TA.tk 5 rfl rfl (Y.move rfl rfl) ?_
    refine TA.tk 6 rfl rfl (Y.nilCheck rfl rfl) ?_
    refine TA.tk 7 rfl rfl (by first | exact Y.fieldAddrJ rfl fo46_0 rfl nqq | exact Y.fieldAddr rfl fo46_0 rfl nqq) ?_
    refine TA.tk 8 rfl rfl (Y.load rfl sc26 rfl celD) ?_
    refine TA.as (pt n.a 0) (by rfl) ?_
    refine TA.tk 9 rfl rfl (Y.move rfl rfl) ?_
    refine TA.tk 10 rfl rfl (Y.nilCheck rfl rfl) ?_
    refine TA.tk 11 rfl rfl (by first | exact Y.fieldAddrJ rfl fo46_8 rfl nqq | exact Y.fieldAddr rfl fo46_8 rfl nqq) ?_
    refine TA.tk 12 rfl rfl (Y.load rfl sc2 rfl celN) ?_
    refine TA.as (vI (n.now + (w : Int))) (by rfl) ?_
    refine TA.one 13 (by kernel_rfl) rfl rfl rfl rfl (X.cl rfl Try.func20 rfl (h := (Tick_fn n.a A hF.a.toInvP (n.now + (w : Int)) _))) ?_
    rintro _ _ ⟨o, rfl, ho, rfl⟩
    have hlo : o.l.length ≤ 16 := by have := congrArg List.length ho; rw [List.length_map] at this; rw [this]; exact tick_len A hF.a _
    refine ⟨(Or.inr hld), ?_⟩
    refine TA.one 14 (by kernel_rfl) rfl rfl rfl rfl (X.appendS rfl el24 rfl pul rfl (Src.reads (Reads.dat (s := o)) Try.underlying24 inn) (by simp only [maxLen]; omega) (by omega)) ?_
    rintro _ _ ⟨a319, c319, rfl, rfl⟩
    rw [show Dat.cs n.ab.l ++ Dat.cs o.l = Dat.cs (n.ab.l ++ o.l) from (Dat.cs_app _ _).symm, ← List.length_append]
    refine ⟨(Or.inr hld), ?_⟩
    refine TA.tp 15 rfl rfl (Y.nilCheck rfl rfl) ?_
    refine TA.tk 16 rfl rfl (by first | exact Y.fieldAddrJ rfl fo46_2 rfl nqq | exact Y.fieldAddr rfl fo46_2 rfl nqq) ?_
    refine TA.one0 17 (by kernel_rfl) rfl rfl rfl (X.store (cs' := netC { n with now := n.now + (w : Int), ab := ⟨a319, c319, n.ab.l ++ o.l⟩ }) rfl (by kernel_rfl) rfl rfl rfl pul (by show 2 < 9; decide) rfl) ?_
    rintro _ _ rfl
    refine ⟨(Or.inl (by kernel_rfl)), ?_⟩
    refine TA.done (by kernel_rfl) ?_
    refine TQ.next ?_
    refine TC.to (Ent.addAll (o := o) (ys := n.ab.l) pul pul) ?_
    refine TC.draws 17 [nB nb { n with now := n.now + (w : Int), ab := ⟨a319, c319, n.ab.l ++ o.l⟩ }] (by kernel_rfl) (by kernel_rfl) hld ?_
    refine TA.tk 0 rfl rfl (Y.move rfl rfl) ?_
    refine TA.tk 1 rfl rfl (Y.move rfl rfl) ?_
    refine TA.tk 2 rfl rfl (Y.nilCheck rfl rfl) ?_
    refine TA.tk 3 rfl rfl (by first | exact Y.fieldAddrJ rfl fo46_3 rfl nqq | exact Y.fieldAddr rfl fo46_3 rfl nqq) ?_
    refine TA.tk 4 rfl rfl (Y.load rfl sc24 rfl celD) ?_
    refine TA.as (.slice n.ba.a n.ba.l.length n.ba.cap) (by rfl) ?_
    refine TA.tk 5 rfl rfl (Y.move rfl rfl) ?_
    refine TA.tk 6 rfl rfl (Y.nilCheck rfl rfl) ?_
    refine TA.tk 7 rfl rfl (by first | exact Y.fieldAddrJ rfl fo46_1 rfl nqq | exact Y.fieldAddr rfl fo46_1 rfl nqq) ?_
    refine TA.tk 8 rfl rfl (Y.load rfl sc26 rfl celD) ?_
    refine TA.as (pt n.b 0) (by rfl) ?_
    refine TA.tk 9 rfl rfl (Y.move rfl rfl) ?_
    refine TA.tk 10 rfl rfl (Y.nilCheck rfl rfl) ?_
    refine TA.tk 11 rfl rfl (by first | exact Y.fieldAddrJ rfl fo46_8 rfl nqq | exact Y.fieldAddr rfl fo46_8 rfl nqq) ?_
    refine TA.tk 12 rfl rfl (Y.load rfl sc2 rfl celN) ?_
    refine TA.as (vI (n.now + (w : Int))) (by rfl) ?_
    refine TA.one 13 (by kernel_rfl) rfl rfl rfl rfl (X.cl rfl Try.func20 rfl (h := (Tick_fn n.b B hF.b.toInvP (n.now + (w : Int)) _))) ?_
    rintro _ _ ⟨o2, rfl, ho2, rfl⟩
    have hlo2 : o2.l.length ≤ 16 := by have := congrArg List.length ho2; rw [List.length_map] at this; rw [this]; exact tick_len B hF.b _
    refine ⟨(Or.inr hld), ?_⟩
    refine TA.one 14 (by kernel_rfl) rfl rfl rfl rfl (X.appendS rfl el24 rfl pul rfl (Src.reads (Reads.dat (s := o2)) Try.underlying24 inn) (by simp only [maxLen]; omega) (by omega)) ?_
    rintro _ _ ⟨a336, c336, rfl, rfl⟩
    rw [show Dat.cs n.ba.l ++ Dat.cs o2.l = Dat.cs (n.ba.l ++ o2.l) from (Dat.cs_app _ _).symm, ← List.length_append]
    refine ⟨(Or.inr hld), ?_⟩
    refine TA.tp 15 rfl rfl (Y.nilCheck rfl rfl) ?_
    refine TA.tk 16 rfl rfl (by first | exact Y.fieldAddrJ rfl fo46_3 rfl nqq | exact Y.fieldAddr rfl fo46_3 rfl nqq) ?_
    refine TA.one0 17 (by kernel_rfl) rfl rfl rfl (X.store (cs' := netC { n with now := n.now + (w : Int), ab := ⟨a319, c319, n.ab.l ++ o.l⟩, ba := ⟨a336, c336, n.ba.l ++ o2.l⟩ }) rfl (by kernel_rfl) rfl rfl rfl pul (by show 3 < 9; decide) rfl) ?_
    rintro _ _ rfl
    refine ⟨(Or.inl (by kernel_rfl)), ?_⟩
    refine TA.done (by kernel_rfl) ?_
    refine TQ.block_normal ?_
    refine TQ.to (Ent.addAll (o := o2) (ys := n.ba.l) pul pul) ?_
    refine TQ.meetF (ι := NP × PS × PS) (I := fun i => absN i.1 i.2.1 i.2.2 = (absN n A B).tick w) (C := fun (_ : NP × PS × PS) => []) (U := []) (({ n with now := n.now + (w : Int), ab := ⟨a319, c319, n.ab.l ++ o.l⟩, ba := ⟨a336, c336, n.ba.l ++ o2.l⟩ }, (A.tickP (n.now + (w : Int))).1, (B.tickP (n.now + (w : Int))).1)) (absN_eq rfl rfl ((outs_app _ _ _ _).trans (congrArg _ ho)) ((outs_app _ _ _ _).trans (congrArg _ ho2)) rfl rfl rfl rfl rfl) trivial grw ?_ ?_
    · kernel_rfl
    · simp only [List.cons_append, List.nil_append]
      exact ett
  · rintro ⟨n1, A1, B1⟩ hX1 F' L' rfl hL'
    simp only [List.cons_append, List.nil_append] at hL'
    subst hL'
    simp only at hX1 ⊢
    refine TC.cutF (ι := Unit) [] (fun _ => True) (fun _ => []) (fun _ => [nB nb { n1 with ab := clipS n1.ab }, oP (clipS n1.ab), rP (clipS n1.ab)]) (Ao := [nB nb n1, oP n1.ab, rP n1.ab]) (Pulls.cons pul (Pulls.cons pul (Pulls.cons pul Pulls.nil))) ?_ ?_
    · rintro L' hL'
      simp only [List.cons_append, List.nil_append] at hL'
      subst hL'
      refine TC.seq (TC.region ?_)
      refine TL.mv ?_
      refine TL.nc ?_
      refine TL.val rfl rfl rfl (by first | exact Y.fieldAddrJ rfl fo46_2 rfl nqq | exact Y.fieldAddr rfl fo46_2 rfl nqq) ?_
      refine TL.val rfl rfl rfl (Y.load rfl sc24 rfl celD) ?_
      refine TL.as (.slice n1.ab.a n1.ab.l.length n1.ab.cap) (by rfl) ?_
      refine TL.val rfl rfl rfl (Y.len rfl Try.underlying24 rfl) ?_
      refine TL.val rfl rfl rfl (Y.bin rfl rfl rfl (br_gtN (n := 200))) ?_
      refine TL.nil (TQ.next ?_)
      refine TC.cond rfl (fun c7 => ?_) (fun c7 => ?_)
      · try simp only [zA, zB, zC, zD, zE, zF, zG, zH, zI, zJ] at c7
        refine TC.know (reads_cap Reads.owns (a := n1.ab.a) (n := n1.ab.l.length) (cap := n1.ab.cap) (cs := Dat.cs n1.ab.l) inn) ?_
        rintro ⟨hcap, -, -, -⟩
        refine TC.region ?_
        refine TL.mv ?_
        refine TL.mv ?_
        refine TL.nc ?_
        refine TL.val rfl rfl rfl (by first | exact Y.fieldAddrJ rfl fo46_2 rfl nqq | exact Y.fieldAddr rfl fo46_2 rfl nqq) ?_
        refine TL.val rfl rfl rfl (Y.load rfl sc24 rfl celD) ?_
        refine TL.as (.slice n1.ab.a n1.ab.l.length n1.ab.cap) (by rfl) ?_
        refine TL.val rfl rfl rfl (Y.sliceHi2 (k := 200) rfl Try.underlying24 sz23 rfl rfl (by omega)) ?_
        refine TL.as (.slice n1.ab.a (n1.ab.l.take 200).length n1.ab.cap) (by (rw [List.length_take, Nat.min_eq_left (by omega)])) ?_
        refine TL.nc ?_
        refine TL.val rfl rfl rfl (by first | exact Y.fieldAddrJ rfl fo46_2 rfl nqq | exact Y.fieldAddr rfl fo46_2 rfl nqq) ?_
        refine TL.eff0 rfl rfl (X.store (cs' := netC { n1 with ab := clipS n1.ab }) rfl (by kernel_rfl) rfl rfl rfl pul (by show 2 < 9; decide) rfl) ?_
        rintro _ _ rfl
        refine TL.nil ?_
        refine TQ.to (Ent.clipO (s := n1.ab) pul pul (by omega) hcap) ?_
        refine TQ.meetF (ι := Unit) (I := fun _ => True) (C := fun (_ : Unit) => []) (U := []) (()) (trivial) trivial grw ?_ ?_
        · kernel_rfl
        · simp only [List.cons_append, List.nil_append]
          exact (by first | (rw [hcl, hcm]; exact ett) | exact ett)
      · try simp only [zA, zB, zC, zD, zE, zF, zG, zH, zI, zJ] at c7
        have hcl : ({ n1 with ab := clipS n1.ab } : NP) = n1 := by rw [clipS_id (by omega)]
        have hcm : clipS n1.ab = n1.ab := clipS_id (by omega)
        refine TC.skip ?_
        refine TQ.meetF (ι := Unit) (I := fun _ => True) (C := fun (_ : Unit) => []) (U := []) (()) (trivial) trivial grw ?_ ?_
        · kernel_rfl
        · simp only [List.cons_append, List.nil_append]
          exact (by first | (rw [hcl, hcm]; exact ett) | exact ett)
    · rintro ⟨⟩ - F' L' rfl hL'
      simp only [List.cons_append, List.nil_append] at hL'
      subst hL'
      refine TC.seq (TC.region ?_)
      refine TL.mv ?_
      refine TL.nc ?_
      refine TL.val rfl rfl rfl (by first | exact Y.fieldAddrJ rfl fo46_3 rfl nqq | exact Y.fieldAddr rfl fo46_3 rfl nqq) ?_
      refine TL.val rfl rfl rfl (Y.load rfl sc24 rfl celD) ?_
      refine TL.as (.slice n1.ba.a n1.ba.l.length n1.ba.cap) (by rfl) ?_
      refine TL.val rfl rfl rfl (Y.len rfl Try.underlying24 rfl) ?_
      refine TL.val rfl rfl rfl (Y.bin rfl rfl rfl (br_gtN (n := 200))) ?_
      refine TL.nil (TQ.next ?_)
      refine TC.cond rfl (fun c8 => ?_) (fun c8 => ?_)
      · try simp only [zA, zB, zC, zD, zE, zF, zG, zH, zI, zJ] at c8
        refine TC.know (reads_cap Reads.owns (a := n1.ba.a) (n := n1.ba.l.length) (cap := n1.ba.cap) (cs := Dat.cs n1.ba.l) inn) ?_
        rintro ⟨hcap, -, -, -⟩
        refine TC.region ?_
        refine TL.mv ?_
        refine TL.mv ?_
        refine TL.nc ?_
        refine TL.val rfl rfl rfl (by first | exact Y.fieldAddrJ rfl fo46_3 rfl nqq | exact Y.fieldAddr rfl fo46_3 rfl nqq) ?_
        refine TL.val rfl rfl rfl (Y.load rfl sc24 rfl celD) ?_
        refine TL.as (.slice n1.ba.a n1.ba.l.length n1.ba.cap) (by rfl) ?_
        refine TL.val rfl rfl rfl (Y.sliceHi2 (k := 200) rfl Try.underlying24 sz23 rfl rfl (by omega)) ?_
        refine TL.as (.slice n1.ba.a (n1.ba.l.take 200).length n1.ba.cap) (by (rw [List.length_take, Nat.min_eq_left (by omega)])) ?_
        refine TL.nc ?_
        refine TL.val rfl rfl rfl (by first | exact Y.fieldAddrJ rfl fo46_3 rfl nqq | exact Y.fieldAddr rfl fo46_3 rfl nqq) ?_
        refine TL.eff0 rfl rfl (X.store (cs' := netC { n1 with ab := clipS n1.ab, ba := clipS n1.ba }) rfl (by kernel_rfl) rfl rfl rfl pul (by show 3 < 9; decide) rfl) ?_
        rintro _ _ rfl
        refine TL.nil ?_
        refine TQ.to (Ent.clipO (s := n1.ba) pul pul (by omega) hcap) ?_
        refine TQ.endE (res0 rfl) (⟨{ n1 with ab := clipS n1.ab, ba := clipS n1.ba }, A1, B1, (absN_clip n1 A1 B1).trans (congrArg PN.clip hX1), rfl⟩) ?_
        exact (by simp only [NAt, List.cons_append, List.nil_append]; first | (rw [hcl, hcm]; exact ett) | exact ett)
      · try simp only [zA, zB, zC, zD, zE, zF, zG, zH, zI, zJ] at c8
        have hcl : ({ n1 with ab := clipS n1.ab, ba := clipS n1.ba } : NP) = { n1 with ab := clipS n1.ab } := by rw [clipS_id (s := n1.ba) (by omega)]
        have hcm : clipS n1.ba = n1.ba := clipS_id (by omega)
        refine TC.skip ?_
        refine TQ.endE (res0 rfl) (⟨{ n1 with ab := clipS n1.ab, ba := clipS n1.ba }, A1, B1, (absN_clip n1 A1 B1).trans (congrArg PN.clip hX1), rfl⟩) ?_
        exact (by simp only [NAt, List.cons_append, List.nil_append]; first | (rw [hcl, hcm]; exact ett) | exact ett)
set_option maxHeartbeats 4000000 in
theorem stp0_fn (nb : Nat) (n : NP) (A B : PS) (hF : Fits (absN n A B)) (N : Int) (kind : Int) (hk : ¬ (1 ≤ kind ∧ kind ≤ 7)) (kp : Bool) (d : Value) (hd1 : d.oneCell' = true) (nw : UInt16) (L : List SA) :
    Fn Try.prog 16 [pt nb 0, .agg (netArg kind N kp d nw)] (NAt nb n A B ++ L) (StepR nb ((absN n A B)).clip (L)) := by
  obtain ⟨hn1, hn2, hn3, hn4, hn5, hn6⟩ := hF.lens
  have hnow : 0 ≤ n.now ∧ n.now ≤ 1000000000000 := hF.now
  simp only [NAt, List.cons_append, List.nil_append]
  refine Fn.of (N := 367) Try.func16 rfl rfl ?_
  intro Xh
  refine TC.seq (TC.region ?_)
  refine TL.eff rfl rfl rfl (X.box (cs := netArg kind N kp d nw) rfl rfl rfl) ?_
  rintro _ _ ⟨b3, rfl, rfl⟩
  refine TL.nil (TQ.next ?_)
  refine TC.cutF (ι := NP × PS × PS) [] (fun i => absN i.1 i.2.1 i.2.2 = (absN n A B)) (fun i => []) (fun i => [nB nb i.1, SD i.1.a i.2.1, SD i.1.b i.2.2, oP i.1.ab, rP i.1.ab, oP i.1.ba, rP i.1.ba, oM i.1.sent, rMs i.1.sent, oM i.1.back, rMs i.1.back, oM i.1.gB, rMs i.1.gB, oM i.1.gA, rMs i.1.gA]) (Ao := [nB nb n, SD n.a A, SD n.b B, oP n.ab, rP n.ab, oP n.ba, rP n.ba, oM n.sent, rMs n.sent, oM n.back, rMs n.back, oM n.gB, rMs n.gB, oM n.gA, rMs n.gA]) (Pulls.cons pul (Pulls.cons pul (Pulls.cons pul (Pulls.cons pul (Pulls.cons pul (Pulls.cons pul (Pulls.cons pul (Pulls.cons pul (Pulls.cons pul (Pulls.cons pul (Pulls.cons pul (Pulls.cons pul (Pulls.cons pul (Pulls.cons pul (Pulls.cons pul Pulls.nil))))))))))))))) ?_ ?_
  · rintro L' hL'
    simp only [List.cons_append, List.nil_append] at hL'
    subst hL'
    refine TC.seq (TC.region ?_)
    refine TL.val rfl rfl rfl (by first | exact Y.fieldAddrJ rfl fo42_0 rfl nqq | exact Y.fieldAddr rfl fo42_0 rfl nqq) ?_
    refine TL.val rfl rfl rfl (Y.load rfl sc3 rfl celN) ?_
    refine TL.as (vI kind) (by rfl) ?_
    refine TL.nil (TQ.next (TC.block (TC.seq (TC.seq (TC.region ?_)))))
    refine TL.val rfl rfl rfl (Y.bin rfl rfl rfl (br_eqI (n := 1))) ?_
    refine TL.is false (by (rw [decide_eq_false_iff_not]; omega)) ?_
    refine TL.sg ?_
    refine TL.nil (TQ.next ?_)
    refine TC.cond_f rfl ?_
    refine TC.region ?_
    refine TL.val rfl rfl rfl (Y.bin rfl rfl rfl (br_eqI (n := 2))) ?_
    refine TL.is false (by (rw [decide_eq_false_iff_not]; omega)) ?_
    refine TL.sg ?_
    refine TL.nil (TQ.next ?_)
    refine TC.cond_f rfl ?_
    refine TC.seq (TC.seq (TC.region ?_))
    refine TL.val rfl rfl rfl (Y.bin rfl rfl rfl (br_eqI (n := 3))) ?_
    refine TL.is false (by (rw [decide_eq_false_iff_not]; omega)) ?_
    refine TL.sg ?_
    refine TL.nil (TQ.next ?_)
    refine TC.cond_f rfl ?_
    refine TC.region ?_
    refine TL.val rfl rfl rfl (Y.bin rfl rfl rfl (br_eqI (n := 5))) ?_
    refine TL.is false (by (rw [decide_eq_false_iff_not]; omega)) ?_
    refine TL.sg ?_
    refine TL.nil (TQ.next ?_)
    refine TC.cond_f rfl ?_
    refine TC.seq (TC.seq (TC.region ?_))
    refine TL.val rfl rfl rfl (Y.bin rfl rfl rfl (br_eqI (n := 4))) ?_
    refine TL.is false (by (rw [decide_eq_false_iff_not]; omega)) ?_
    refine TL.sg ?_
    refine TL.nil (TQ.next ?_)
    refine TC.cond_f rfl ?_
    refine TC.region ?_
    refine TL.val rfl rfl rfl (Y.bin rfl rfl rfl (br_eqI (n := 6))) ?_
    refine TL.is false (by (rw [decide_eq_false_iff_not]; omega)) ?_
    refine TL.sg ?_
    refine TL.nil (TQ.next ?_)
    refine TC.cond_f rfl ?_
    refine TC.seq (TC.region ?_)
    refine TL.val rfl rfl rfl (Y.bin rfl rfl rfl (br_eqI (n := 7))) ?_
    refine TL.is false (by (rw [decide_eq_false_iff_not]; omega)) ?_
    refine TL.sg ?_
    refine TL.nil (TQ.next ?_)
    refine TC.cond_f rfl ?_
    refine TC.skip (TQ.block_normal ?_)
    refine TQ.meetF (ι := NP × PS × PS) (I := fun i => absN i.1 i.2.1 i.2.2 = (absN n A B)) (C := fun (_ : NP × PS × PS) => []) (U := []) ((n, A, B)) (rfl) trivial grw ?_ ?_
    · kernel_rfl
    · simp only [List.cons_append, List.nil_append]
      exact ett
  · rintro ⟨n1, A1, B1⟩ hX1 F' L' rfl hL'
    simp only [List.cons_append, List.nil_append] at hL'
    subst hL'
    simp only at hX1 ⊢
    refine TC.cutF (ι := Unit) [] (fun _ => True) (fun _ => []) (fun _ => [nB nb { n1 with ab := clipS n1.ab }, oP (clipS n1.ab), rP (clipS n1.ab)]) (Ao := [nB nb n1, oP n1.ab, rP n1.ab]) (Pulls.cons pul (Pulls.cons pul (Pulls.cons pul Pulls.nil))) ?_ ?_
    · rintro L' hL'
      simp only [List.cons_append, List.nil_append] at hL'
      subst hL'
      refine TC.seq (TC.region ?_)
      refine TL.mv ?_
      refine TL.nc ?_
      refine TL.val rfl rfl rfl (by first | exact Y.fieldAddrJ rfl fo46_2 rfl nqq | exact Y.fieldAddr rfl fo46_2 rfl nqq) ?_
      refine TL.val rfl rfl rfl (Y.load rfl sc24 rfl celD) ?_
      refine TL.as (.slice n1.ab.a n1.ab.l.length n1.ab.cap) (by rfl) ?_
      refine TL.val rfl rfl rfl (Y.len rfl Try.underlying24 rfl) ?_
      refine TL.val rfl rfl rfl (Y.bin rfl rfl rfl (br_gtN (n := 200))) ?_
      refine TL.nil (TQ.next ?_)
      refine TC.cond rfl (fun c7 => ?_) (fun c7 => ?_)
      · try simp only [zA, zB, zC, zD, zE, zF, zG, zH, zI, zJ] at c7
        refine TC.know (reads_cap Reads.owns (a := n1.ab.a) (n := n1.ab.l.length) (cap := n1.ab.cap) (cs := Dat.cs n1.ab.l) inn) ?_
        rintro ⟨hcap, -, -, -⟩
        refine TC.region ?_
        refine TL.mv ?_
        refine TL.mv ?_
        refine TL.nc ?_
        refine TL.val rfl rfl rfl (by first | exact Y.fieldAddrJ rfl fo46_2 rfl nqq | exact Y.fieldAddr rfl fo46_2 rfl nqq) ?_
        refine TL.val rfl rfl rfl (Y.load rfl sc24 rfl celD) ?_
        refine TL.as (.slice n1.ab.a n1.ab.l.length n1.ab.cap) (by rfl) ?_
        refine TL.val rfl rfl rfl (Y.sliceHi2 (k := 200) rfl Try.underlying24 sz23 rfl rfl (by omega)) ?_
        refine TL.as (.slice n1.ab.a (n1.ab.l.take 200).length n1.ab.cap) (by (rw [List.length_take, Nat.min_eq_left (by omega)])) ?_
        refine TL.nc ?_
        refine TL.val rfl rfl rfl (by first | exact Y.fieldAddrJ rfl fo46_2 rfl nqq | exact Y.fieldAddr rfl fo46_2 rfl nqq) ?_
        refine TL.eff0 rfl rfl (X.store (cs' := netC { n1 with ab := clipS n1.ab }) rfl (by kernel_rfl) rfl rfl rfl pul (by show 2 < 9; decide) rfl) ?_
        rintro _ _ rfl
        refine TL.nil ?_
        refine TQ.to (Ent.clipO (s := n1.ab) pul pul (by omega) hcap) ?_
        refine TQ.meetF (ι := Unit) (I := fun _ => True) (C := fun (_ : Unit) => []) (U := []) (()) (trivial) trivial grw ?_ ?_
        · kernel_rfl
        · simp only [List.cons_append, List.nil_append]
          exact (by first | (rw [hcl, hcm]; exact ett) | exact ett)
      · try simp only [zA, zB, zC, zD, zE, zF, zG, zH, zI, zJ] at c7
        have hcl : ({ n1 with ab := clipS n1.ab } : NP) = n1 := by rw [clipS_id (by omega)]
        have hcm : clipS n1.ab = n1.ab := clipS_id (by omega)
        refine TC.skip ?_
        refine TQ.meetF (ι := Unit) (I := fun _ => True) (C := fun (_ : Unit) => []) (U := []) (()) (trivial) trivial grw ?_ ?_
        · kernel_rfl
        · simp only [List.cons_append, List.nil_append]
          exact (by first | (rw [hcl, hcm]; exact ett) | exact ett)
    · rintro ⟨⟩ - F' L' rfl hL'
      simp only [List.cons_append, List.nil_append] at hL'
      subst hL'
      refine TC.seq (TC.region ?_)
      refine TL.mv ?_
      refine TL.nc ?_
      refine TL.val rfl rfl rfl (by first | exact Y.fieldAddrJ rfl fo46_3 rfl nqq | exact Y.fieldAddr rfl fo46_3 rfl nqq) ?_
      refine TL.val rfl rfl rfl (Y.load rfl sc24 rfl celD) ?_
      refine TL.as (.slice n1.ba.a n1.ba.l.length n1.ba.cap) (by rfl) ?_
      refine TL.val rfl rfl rfl (Y.len rfl Try.underlying24 rfl) ?_
      refine TL.val rfl rfl rfl (Y.bin rfl rfl rfl (br_gtN (n := 200))) ?_
      refine TL.nil (TQ.next ?_)
      refine TC.cond rfl (fun c8 => ?_) (fun c8 => ?_)
      · try simp only [zA, zB, zC, zD, zE, zF, zG, zH, zI, zJ] at c8
        refine TC.know (reads_cap Reads.owns (a := n1.ba.a) (n := n1.ba.l.length) (cap := n1.ba.cap) (cs := Dat.cs n1.ba.l) inn) ?_
        rintro ⟨hcap, -, -, -⟩
        refine TC.region ?_
        refine TL.mv ?_
        refine TL.mv ?_
        refine TL.nc ?_
        refine TL.val rfl rfl rfl (by first | exact Y.fieldAddrJ rfl fo46_3 rfl nqq | exact Y.fieldAddr rfl fo46_3 rfl nqq) ?_
        refine TL.val rfl rfl rfl (Y.load rfl sc24 rfl celD) ?_
        refine TL.as (.slice n1.ba.a n1.ba.l.length n1.ba.cap) (by rfl) ?_
        refine TL.val rfl rfl rfl (Y.sliceHi2 (k := 200) rfl Try.underlying24 sz23 rfl rfl (by omega)) ?_
        refine TL.as (.slice n1.ba.a (n1.ba.l.take 200).length n1.ba.cap) (by (rw [List.length_take, Nat.min_eq_left (by omega)])) ?_
        refine TL.nc ?_
        refine TL.val rfl rfl rfl (by first | exact Y.fieldAddrJ rfl fo46_3 rfl nqq | exact Y.fieldAddr rfl fo46_3 rfl nqq) ?_
        refine TL.eff0 rfl rfl (X.store (cs' := netC { n1 with ab := clipS n1.ab, ba := clipS n1.ba }) rfl (by kernel_rfl) rfl rfl rfl pul (by show 3 < 9; decide) rfl) ?_
        rintro _ _ rfl
        refine TL.nil ?_
        refine TQ.to (Ent.clipO (s := n1.ba) pul pul (by omega) hcap) ?_
        refine TQ.endE (res0 rfl) (⟨{ n1 with ab := clipS n1.ab, ba := clipS n1.ba }, A1, B1, (absN_clip n1 A1 B1).trans (congrArg PN.clip hX1), rfl⟩) ?_
        exact (by simp only [NAt, List.cons_append, List.nil_append]; first | (rw [hcl, hcm]; exact ett) | exact ett)
      · try simp only [zA, zB, zC, zD, zE, zF, zG, zH, zI, zJ] at c8
        have hcl : ({ n1 with ab := clipS n1.ab, ba := clipS n1.ba } : NP) = { n1 with ab := clipS n1.ab } := by rw [clipS_id (s := n1.ba) (by omega)]
        have hcm : clipS n1.ba = n1.ba := clipS_id (by omega)
        refine TC.skip ?_
        refine TQ.endE (res0 rfl) (⟨{ n1 with ab := clipS n1.ab, ba := clipS n1.ba }, A1, B1, (absN_clip n1 A1 B1).trans (congrArg PN.clip hX1), rfl⟩) ?_
        exact (by simp only [NAt, List.cons_append, List.nil_append]; first | (rw [hcl, hcm]; exact ett) | exact ett)
theorem step5_nil (nb : Nat) (n : NP) (N : Int) (kp : Bool) (d : Value) (hd : d.oneCell' = true) (nw : UInt16) (h : n.ab.l = []) (L : List SA) : Fn Try.prog 16 [pt nb 0, .agg (netArg 5 N kp d nw)] (nB nb n :: L) (fun _ L' => L' = nB nb n :: L) := by
  refine Fn.of (N := 367) Try.func16 rfl rfl ?_
  intro Xh
  refine TC.seq (TC.region ?_)
  refine TL.eff rfl rfl rfl (X.box (cs := netArg 5 N kp d nw) rfl rfl rfl) ?_
  rintro _ _ ⟨b3, rfl, rfl⟩
  refine TL.nil (TQ.next (TC.seq (TC.seq (TC.region ?_))))
  refine TL.val rfl rfl rfl (by first | exact Y.fieldAddrJ rfl fo42_0 rfl nqq | exact Y.fieldAddr rfl fo42_0 rfl nqq) ?_
  refine TL.val rfl rfl rfl (Y.load rfl sc3 rfl celN) ?_
  refine TL.as (vI 5) (by rfl) ?_
  refine TL.nil (TQ.next (TC.block (TC.seq (TC.seq (TC.region ?_)))))
  refine TL.val rfl rfl rfl (Y.bin rfl rfl rfl (br_eqN (n := 1))) ?_
  refine TL.is false isf ?_
  refine TL.sg ?_
  refine TL.nil (TQ.next ?_)
  refine TC.cond_f rfl ?_
  refine TC.region ?_
  refine TL.val rfl rfl rfl (Y.bin rfl rfl rfl (br_eqN (n := 2))) ?_
  refine TL.is false isf ?_
  refine TL.sg ?_
  refine TL.nil (TQ.next ?_)
  refine TC.cond_f rfl ?_
  refine TC.seq (TC.seq (TC.region ?_))
  refine TL.val rfl rfl rfl (Y.bin rfl rfl rfl (br_eqN (n := 3))) ?_
  refine TL.is false isf ?_
  refine TL.sg ?_
  refine TL.nil (TQ.next ?_)
  refine TC.cond_f rfl ?_
  refine TC.region ?_
  refine TL.val rfl rfl rfl (Y.bin rfl rfl rfl (br_eqN (n := 5))) ?_
  refine TL.is true isf ?_
  refine TL.sg ?_
  refine TL.nil (TQ.next ?_)
  refine TC.cond_t rfl ?_
  refine TC.seq (TC.seq (TC.region ?_))
  refine TL.mv ?_
  refine TL.nc ?_
  refine TL.val rfl rfl rfl (by first | exact Y.fieldAddrJ rfl fo46_2 rfl nqq | exact Y.fieldAddr rfl fo46_2 rfl nqq) ?_
  refine TL.val rfl rfl rfl (Y.load rfl sc24 rfl celD) ?_
  refine TL.as (.slice n.ab.a n.ab.l.length n.ab.cap) (by rfl) ?_
  refine TL.val rfl rfl rfl (Y.len rfl Try.underlying24 rfl) ?_
  refine TL.val rfl rfl rfl (Y.bin rfl rfl rfl (br_eqN (n := 0))) ?_
  refine TL.is true (by (rw [h]; rfl)) ?_
  refine TL.nil (TQ.next ?_)
  refine TC.cond_t rfl ?_
  refine TC.ret (TQ.then_ret (TQ.block_ret (TQ.then_ret ?_)))
  refine TQ.retE (res0 rfl) (rfl) ?_
  exact ett
theorem step6_nil (nb : Nat) (n : NP) (N : Int) (kp : Bool) (d : Value) (hd : d.oneCell' = true) (nw : UInt16) (h : n.ba.l = []) (L : List SA) : Fn Try.prog 16 [pt nb 0, .agg (netArg 6 N kp d nw)] (nB nb n :: L) (fun _ L' => L' = nB nb n :: L) := by
  refine Fn.of (N := 367) Try.func16 rfl rfl ?_
  intro Xh
  refine TC.seq (TC.region ?_)
  refine TL.eff rfl rfl rfl (X.box (cs := netArg 6 N kp d nw) rfl rfl rfl) ?_
  rintro _ _ ⟨b3, rfl, rfl⟩
  refine TL.nil (TQ.next (TC.seq (TC.seq (TC.region ?_))))
  refine TL.val rfl rfl rfl (by first | exact Y.fieldAddrJ rfl fo42_0 rfl nqq | exact Y.fieldAddr rfl fo42_0 rfl nqq) ?_
  refine TL.val rfl rfl rfl (Y.load rfl sc3 rfl celN) ?_
  refine TL.as (vI 6) (by rfl) ?_
  refine TL.nil (TQ.next (TC.block (TC.seq (TC.seq (TC.region ?_)))))
  refine TL.val rfl rfl rfl (Y.bin rfl rfl rfl (br_eqN (n := 1))) ?_
  refine TL.is false isf ?_
  refine TL.sg ?_
  refine TL.nil (TQ.next ?_)
  refine TC.cond_f rfl ?_
  refine TC.region ?_
  refine TL.val rfl rfl rfl (Y.bin rfl rfl rfl (br_eqN (n := 2))) ?_
  refine TL.is false isf ?_
  refine TL.sg ?_
  refine TL.nil (TQ.next ?_)
  refine TC.cond_f rfl ?_
  refine TC.seq (TC.seq (TC.region ?_))
  refine TL.val rfl rfl rfl (Y.bin rfl rfl rfl (br_eqN (n := 3))) ?_
  refine TL.is false isf ?_
  refine TL.sg ?_
  refine TL.nil (TQ.next ?_)
  refine TC.cond_f rfl ?_
  refine TC.region ?_
  refine TL.val rfl rfl rfl (Y.bin rfl rfl rfl (br_eqN (n := 5))) ?_
  refine TL.is false isf ?_
  refine TL.sg ?_
  refine TL.nil (TQ.next ?_)
  refine TC.cond_f rfl ?_
  refine TC.seq (TC.seq (TC.region ?_))
  refine TL.val rfl rfl rfl (Y.bin rfl rfl rfl (br_eqN (n := 4))) ?_
  refine TL.is false isf ?_
  refine TL.sg ?_
  refine TL.nil (TQ.next ?_)
  refine TC.cond_f rfl ?_
  refine TC.region ?_
  refine TL.val rfl rfl rfl (Y.bin rfl rfl rfl (br_eqN (n := 6))) ?_
  refine TL.is true isf ?_
  refine TL.sg ?_
  refine TL.nil (TQ.next ?_)
  refine TC.cond_t rfl ?_
  refine TC.seq (TC.seq (TC.region ?_))
  refine TL.mv ?_
  refine TL.nc ?_
  refine TL.val rfl rfl rfl (by first | exact Y.fieldAddrJ rfl fo46_3 rfl nqq | exact Y.fieldAddr rfl fo46_3 rfl nqq) ?_
  refine TL.val rfl rfl rfl (Y.load rfl sc24 rfl celD) ?_
  refine TL.as (.slice n.ba.a n.ba.l.length n.ba.cap) (by rfl) ?_
  refine TL.val rfl rfl rfl (Y.len rfl Try.underlying24 rfl) ?_
  refine TL.val rfl rfl rfl (Y.bin rfl rfl rfl (br_eqN (n := 0))) ?_
  refine TL.is true (by (rw [h]; rfl)) ?_
  refine TL.nil (TQ.next ?_)
  refine TC.cond_t rfl ?_
  refine TC.ret (TQ.then_ret (TQ.block_ret (TQ.then_ret ?_)))
  refine TQ.retE (res0 rfl) (rfl) ?_
  exact ett
theorem idxN_lt {N : Int} {m : Nat} (h : 0 < m) : idxN N m < m := Nat.mod_lt _ h
theorem same_net {nb : Nat} {n : NP} {A B : PS} {L : List SA} : ∀ (v : Value) (L' : List SA), (L' = nB nb n :: (SD n.a A :: SD n.b B :: oP n.ab :: rP n.ab :: oP n.ba :: rP n.ba :: oM n.sent :: rMs n.sent :: oM n.back :: rMs n.back :: oM n.gB :: rMs n.gB :: oM n.gA :: rMs n.gA :: L)) → ∃ L2, Ent L' L2 ∧ StepR nb (absN n A B) L v L2 := by
  rintro v L' rfl
  exact ⟨_, Ent.refl, n, A, B, rfl, rfl⟩
theorem step_at (nb : Nat) (n : NP) (A B : PS) (hF : Fits (absN n A B)) (kind N : Int) (kp : Bool) (d : Bs) (hd : d.l.length ≤ 140737488351232) (nw : UInt16) (L : List SA) :
    Fn Try.prog 16 [pt nb 0, .agg (netArg kind N kp d.v nw)] (NAt nb n A B ++ SA.dat d :: L) (StepR nb ((absN n A B).step kind N kp d.l nw) (SA.dat d :: L)) := by
  unfold PN.step
  by_cases k1 : kind = 1
  · subst k1; rw [if_pos rfl]; exact stp1_fn nb n A B hF N kp d hd nw L
  rw [if_neg k1]
  by_cases k2 : kind = 2
  · subst k2; rw [if_pos rfl]; exact stp2_fn nb n A B hF N kp d hd nw L
  rw [if_neg k2]
  by_cases k3 : kind = 3 ∨ kind = 5
  · rw [if_pos k3]
    by_cases he : n.ab.l = []
    · have he2 : (absN n A B).ab = [] := by show outs n.ab = []; unfold outs; rw [he]; rfl
      rw [if_pos he2]
      rcases k3 with rfl | rfl
      · exact (step3_nil nb n N kp d.v rfl nw he _).mono same_net
      · exact (step5_nil nb n N kp d.v rfl nw he _).mono same_net
    · have hpos : 0 < n.ab.l.length := List.length_pos_iff.2 he
      have he2 : ¬ (absN n A B).ab = [] := fun h => he (List.map_eq_nil_iff.1 (show n.ab.l.map (·.l) = [] from h))
      have hlen : (absN n A B).ab.length = n.ab.l.length := outs_len _
      rw [if_neg he2, hlen]
      obtain ⟨k, hk⟩ : ∃ k, k = idxN N n.ab.l.length := ⟨_, rfl⟩
      have hkl : k < n.ab.l.length := by rw [hk]; exact idxN_lt hpos
      obtain ⟨x, hx⟩ : ∃ x, n.ab.l[k]? = some x := ⟨_, List.getElem?_eq_getElem hkl⟩
      have hp : (absN n A B).ab.getD k [] = x.l := outs_get hx
      have hxl : x.l.length ≤ 140737488351232 := Nat.le_trans (hF.ab x.l (List.mem_map_of_mem (List.mem_of_getElem? hx))) (by decide)
      rw [← hk, hp]
      rcases k3 with rfl | rfl
      · cases kp with
        | false => exact stp3_fn nb n A B hF N k x hk hx hxl d.v rfl nw _
        | true => exact stp3k_fn nb n A B hF N k x hk hx hxl d.v rfl nw _
      · cases kp with
        | false => exact stp5_fn nb n A B hF N k x hk hx hxl d.v rfl nw _
        | true => exact stp5k_fn nb n A B hF N k x hk hx hxl d.v rfl nw _
  rw [if_neg k3]
  by_cases k3 : kind = 4 ∨ kind = 6
  · rw [if_pos k3]
    by_cases he : n.ba.l = []
    · have he2 : (absN n A B).ba = [] := by show outs n.ba = []; unfold outs; rw [he]; rfl
      rw [if_pos he2]
      rcases k3 with rfl | rfl
      · exact (step4_nil nb n N kp d.v rfl nw he _).mono same_net
      · exact (step6_nil nb n N kp d.v rfl nw he _).mono same_net
    · have hpos : 0 < n.ba.l.length := List.length_pos_iff.2 he
      have he2 : ¬ (absN n A B).ba = [] := fun h => he (List.map_eq_nil_iff.1 (show n.ba.l.map (·.l) = [] from h))
      have hlen : (absN n A B).ba.length = n.ba.l.length := outs_len _
      rw [if_neg he2, hlen]
      obtain ⟨k, hk⟩ : ∃ k, k = idxN N n.ba.l.length := ⟨_, rfl⟩
      have hkl : k < n.ba.l.length := by rw [hk]; exact idxN_lt hpos
      obtain ⟨x, hx⟩ : ∃ x, n.ba.l[k]? = some x := ⟨_, List.getElem?_eq_getElem hkl⟩
      have hp : (absN n A B).ba.getD k [] = x.l := outs_get hx
      have hxl : x.l.length ≤ 140737488351232 := Nat.le_trans (hF.ba x.l (List.mem_map_of_mem (List.mem_of_getElem? hx))) (by decide)
      rw [← hk, hp]
      rcases k3 with rfl | rfl
      · cases kp with
        | false => exact stp4_fn nb n A B hF N k x hk hx hxl d.v rfl nw _
        | true => exact stp4k_fn nb n A B hF N k x hk hx hxl d.v rfl nw _
      · cases kp with
        | false => exact stp6_fn nb n A B hF N k x hk hx hxl d.v rfl nw _
        | true => exact stp6k_fn nb n A B hF N k x hk hx hxl d.v rfl nw _
  rw [if_neg k3]
  by_cases k7 : kind = 7
  · subst k7; rw [if_pos rfl]
    exact stp7_fn nb n A B hF N kp d.v rfl nw _ rfl (by rw [UInt16.toNat_mod]; exact Nat.mod_lt _ (by decide)) _
  rw [if_neg k7]
  exact stp0_fn nb n A B hF N kind (by omega) kp d.v rfl nw _
theorem step_fn (nb : Nat) (X : PN) (hF : Fits X) (kind N : Int) (kp : Bool) (d : Bs) (hd : d.l.length ≤ 140737488351232) (nw : UInt16) (L : List SA) :
    Fn Try.prog 16 [pt nb 0, .agg (netArg kind N kp d.v nw)] (ND nb X :: SA.dat d :: L) (fun _ L' => L' = ND nb (X.step kind N kp d.l nw) :: SA.dat d :: L) := by
  refine Fn.ND fun n A B hX => ?_
  subst hX
  exact (step_at nb n A B hF kind N kp d hd nw L).mono StepR.nd
end ac
end Go.Proofs.Ytomplpdeeomehaa


/- assoc: the net in numbers; what the net does is what they say. -/
namespace Go.Proofs.Ytomplpdeeomehaa
set_option linter.unusedVariables false
set_option linter.unusedSimpArgs false
open Go.RowKit
namespace ac
open wr (be16 be32)
open rd (num)
structure NQ where
  a : Q
  b : Q
  ab : List Pk
  ba : List Pk
  now : Int
namespace NQ
variable (Y : NQ)
def clip : NQ := { Y with ab := Y.ab.take 200, ba := Y.ba.take 200 }
noncomputable def send1 (m : PM) : NQ := { Y with a := (Y.a.send m Y.now).1, ab := Y.ab ++ (Y.a.send m Y.now).2 }
noncomputable def send2 (m : PM) : NQ := { Y with b := (Y.b.send m Y.now).1, ba := Y.ba ++ (Y.b.send m Y.now).2 }
def pop3 (k : Nat) : NQ := { Y with ab := Y.ab.eraseIdx k }
def pop4 (k : Nat) : NQ := { Y with ba := Y.ba.eraseIdx k }
def hand3 (p : Pk) : NQ := { Y with b := (Y.b.handle Y.now p).1, ba := Y.ba ++ (Y.b.handle Y.now p).2 }
def hand4 (p : Pk) : NQ := { Y with a := (Y.a.handle Y.now p).1, ab := Y.ab ++ (Y.a.handle Y.now p).2 }
noncomputable def tick (d : Nat) : NQ := { Y with now := Y.now + (d : Int), a := (Y.a.tick (Y.now + (d : Int))).1, ab := Y.ab ++ (Y.a.tick (Y.now + (d : Int))).2, b := (Y.b.tick (Y.now + (d : Int))).1, ba := Y.ba ++ (Y.b.tick (Y.now + (d : Int))).2 }
def swap : NQ := ⟨Y.b, Y.a, Y.ba, Y.ab, Y.now⟩
noncomputable def step (kind N : Int) (keep : Bool) (d : List UInt8) (nw : UInt16) : NQ :=
  if kind = 1 then (Y.send1 (mkM N d)).clip
  else if kind = 2 then (Y.send2 (mkM N d)).clip
  else if kind = 3 ∨ kind = 5 then
    (if Y.ab = [] then Y else
      let p := Y.ab.getD (idxN N Y.ab.length) .cack
      let Y1 := if keep = false ∨ kind = 5 then Y.pop3 (idxN N Y.ab.length) else Y
      (if kind = 3 then Y1.hand3 p else Y1).clip)
  else if kind = 4 ∨ kind = 6 then
    (if Y.ba = [] then Y else
      let p := Y.ba.getD (idxN N Y.ba.length) .cack
      let Y1 := if keep = false ∨ kind = 6 then Y.pop4 (idxN N Y.ba.length) else Y
      (if kind = 4 then Y1.hand4 p else Y1).clip)
  else if kind = 7 then (Y.tick (nw % 4000).toNat).clip
  else Y.clip
end NQ
def PN.swap (X : PN) : PN := ⟨X.B, X.A, X.ba, X.ab, X.back, X.sent, X.gA, X.gB, X.now⟩
def Quiet (f : Bool) (q : Q) (l : List Pk) : Prop := f = false → q.state ≠ 1 ∧ q.state ≠ 2 ∧ ∀ p ∈ l, p ≠ .init ∧ p ≠ .echo
structure Sim (P : SP) (fa fb : Bool) (X : PN) (Y : NQ) : Prop where
  ra : R P fa X.A Y.a Y.b.msgs
  rb : R P.flip fb X.B Y.b Y.a.msgs
  ia : InvA X.A
  ib : InvA X.B
  qa : QB Y.a Y.b.msgs.length
  qb : QB Y.b Y.a.msgs.length
  pab : ∀ p ∈ Y.ab, PkOk Y.a.msgs.length Y.b.msgs.length p
  pba : ∀ p ∈ Y.ba, PkOk Y.b.msgs.length Y.a.msgs.length p
  fab : Quiet fb Y.a Y.ab
  fba : Quiet fa Y.b Y.ba
  ab : X.ab = Y.ab.map (enc P Y.a.msgs)
  ba : X.ba = Y.ba.map (enc P.flip Y.b.msgs)
  sent : X.sent = Y.a.msgs
  back : X.back = Y.b.msgs
  gB : X.gB = Y.a.msgs.take Y.b.got
  gA : X.gA = Y.b.msgs.take Y.a.got
  now : X.now = Y.now
theorem Sim.swap {P : SP} {fa fb : Bool} {X : PN} {Y : NQ} (h : Sim P fa fb X Y) : Sim P.flip fb fa X.swap Y.swap :=
  ⟨h.rb, h.ra, h.ib, h.ia, h.qb, h.qa, h.pba, h.pab, h.fba, h.fab, h.ba, h.ab, h.back, h.sent, h.gA, h.gB, h.now⟩
/-! ### what a side sends -/
theorem Q.hand_state (q : Q) (p : Pk) : q.state ≠ 1 → q.state ≠ 2 → (q.hand p).1.state ≠ 1 ∧ (q.hand p).1.state ≠ 2 := by
  intro h1 h2
  cases p with
  | init => exact ⟨h1, h2⟩
  | iack => simp only [Q.hand]; rw [if_neg h1]; exact ⟨h1, h2⟩
  | echo =>
    simp only [Q.hand]
    split
    · exact ⟨by show (3 : Nat) ≠ 1; decide, by show (3 : Nat) ≠ 2; decide⟩
    · exact ⟨h1, h2⟩
  | cack => simp only [Q.hand]; rw [if_neg h2]; exact ⟨h1, h2⟩
  | data i =>
    simp only [Q.hand]
    split
    · rw [(Q.recv_same q i).1]; exact ⟨h1, h2⟩
    · exact ⟨h1, h2⟩
  | sack c l =>
    simp only [Q.hand]
    split
    · rw [(Q.more_same _).1, (Q.ack1_same q c l).1]; exact ⟨h1, h2⟩
    · exact ⟨h1, h2⟩
theorem moreOut_ok {q : Q} {ol : Nat} (h : QB q ol) {x : Pk} (hx : x ∈ q.moreOut) : ∃ i, x = .data i ∧ i < q.msgs.length ∧ q.acked + q.sent ≤ i := by
  unfold Q.moreOut Q.win at hx
  obtain ⟨i, hi, rfl⟩ := List.mem_map.1 hx
  have hi2 := List.mem_range'_1.1 hi
  have hl : q.len = q.msgs.length - q.acked := rfl
  exact ⟨q.acked + i, rfl, by omega, by omega⟩
theorem sackP_ok {q : Q} {ol : Nat} (h : QB q ol) : PkOk q.msgs.length ol q.sackP := by
  refine ⟨h.got, by rw [List.length_take]; omega, fun i hi => ?_⟩
  have h1 := List.mem_of_mem_take hi
  unfold Q.beyond at h1
  exact (h.kept i (List.mem_filter.1 h1).2).2.2
theorem Q.hand_out {q : Q} {ol : Nat} (h : QB q ol) (p : Pk) (hp : PkOk ol q.msgs.length p) : ∀ x ∈ (q.hand p).2, PkOk q.msgs.length ol x ∧ x ≠ .init ∧ (x = .echo → q.state = 1) := by
  intro x hx
  cases p with
  | init =>
    simp only [Q.hand] at hx
    split at hx
    · rw [List.mem_singleton.1 hx]; exact ⟨trivial, nofun, nofun⟩
    · cases hx
  | iack =>
    simp only [Q.hand] at hx
    split at hx
    · rename_i hs; rw [List.mem_singleton.1 hx]; exact ⟨trivial, nofun, fun _ => hs⟩
    · cases hx
  | echo =>
    simp only [Q.hand] at hx
    split at hx
    · rw [List.mem_singleton.1 hx]; exact ⟨trivial, nofun, nofun⟩
    · simp only at hx
      split at hx
      · rw [List.mem_singleton.1 hx]; exact ⟨trivial, nofun, nofun⟩
      · cases hx
  | cack => cases hx
  | data i =>
    simp only [Q.hand] at hx
    split at hx
    · rename_i hs
      rw [List.mem_singleton.1 hx]
      have := sackP_ok (h.recv hs i hp)
      rw [(Q.recv_same q i).2.1] at this
      exact ⟨this, nofun, nofun⟩
    · cases hx
  | sack c l =>
    simp only [Q.hand] at hx
    split at hx
    · rename_i hs
      obtain ⟨i, rfl, hi, _⟩ := moreOut_ok (h.ack1 hs c l) hx
      rw [(Q.ack1_same q c l).2.1] at hi
      exact ⟨hi, nofun, nofun⟩
    · cases hx
theorem Q.hand_msgs (q : Q) (p : Pk) : (q.hand p).1.msgs = q.msgs := by
  cases p with
  | init => rfl
  | iack => simp only [Q.hand]; split <;> rfl
  | echo => simp only [Q.hand]; split <;> rfl
  | cack => simp only [Q.hand]; split <;> rfl
  | data i => simp only [Q.hand]; split; exact (Q.recv_same q i).2.1; rfl
  | sack c l => simp only [Q.hand]; split; exact (Q.more_same _).2.1.trans (Q.ack1_same q c l).2.1; rfl
theorem Q.recv_mono (q : Q) (i : Nat) : q.got ≤ (q.recv i).got := by
  have := Q.deliver_mono 33 (q.keep i)
  rwa [(Q.keep_same q i).2.2.2.2.2.2.2.2.2.2] at this
theorem Q.hand_got (q : Q) (p : Pk) : q.got ≤ (q.hand p).1.got := by
  cases p with
  | init => exact Nat.le_refl _
  | iack => simp only [Q.hand]; split <;> exact Nat.le_refl _
  | echo => simp only [Q.hand]; split <;> exact Nat.le_refl _
  | cack => simp only [Q.hand]; split <;> exact Nat.le_refl _
  | data i => simp only [Q.hand]; split; exact Q.recv_mono q i; exact Nat.le_refl _
  | sack c l =>
    simp only [Q.hand]; split
    · rw [(Q.more_same _).2.2.1, (Q.ack1_same q c l).2.2.1]; exact Nat.le_refl _
    · exact Nat.le_refl _
theorem Q.tick_out {q : Q} {ol : Nat} (h : QB q ol) (now : Int) : ∀ x ∈ (q.tick now).2, PkOk q.msgs.length ol x ∧ (x = .init ∨ x = .echo → q.state = 1 ∨ q.state = 2) := by
  intro x hx
  unfold Q.tick at hx
  split at hx
  · cases hx
  rename_i hd
  have hd : (q.clocked now).due := Classical.not_not.1 hd
  split at hx
  · cases hx
  split at hx
  · rename_i hs
    have ht := h.tset hd.1
    rw [List.mem_singleton.1 hx]
    refine ⟨?_, fun _ => by omega⟩
    unfold Q.shake; split <;> exact trivial
  · obtain ⟨i, hi, rfl⟩ := List.mem_map.1 hx
    have hi2 := List.mem_range.1 (List.mem_filter.1 hi).1
    refine ⟨by show q.acked + i < q.msgs.length; have := h.win; omega, fun e => ?_⟩
    rcases e with e | e <;> cases e
theorem Q.tick_state (q : Q) (now : Int) : (q.tick now).1.state = q.state ∨ (q.tick now).1.state = 4 := by
  unfold Q.tick
  split
  · exact .inl rfl
  split
  · exact .inr rfl
  split <;> exact .inl rfl
theorem Q.send_state (q : Q) (m : PM) (now : Int) : (q.send m now).1.state = q.state := by
  unfold Q.send
  split
  · exact (Q.more_same _).1
  · rfl
theorem Q.send_out {q : Q} {ol : Nat} (h : QB q ol) (m : PM) (now : Int) (hl : q.msgs.length < 100000) : ∀ x ∈ (q.send m now).2, ∃ i, x = .data i ∧ i < (q.send m now).1.msgs.length := by
  intro x hx
  have hb := h.send m now hl
  unfold Q.send at hx hb ⊢
  split at hx
  · rename_i hc
    rw [if_pos hc]
    obtain ⟨i, hi, rfl⟩ := List.mem_map.1 hx
    unfold Q.win at hi
    have hi2 := List.mem_range'_1.1 hi
    have hl2 : (q.taken m now).len = (q.taken m now).msgs.length - (q.taken m now).acked := rfl
    refine ⟨_, rfl, ?_⟩
    show _ < (q.taken m now).more.msgs.length
    rw [(Q.more_same _).2.1]
    omega
  · cases hx
theorem Q.send_got (q : Q) (m : PM) (now : Int) : (q.send m now).1.got = q.got := by
  unfold Q.send
  split
  · exact (Q.more_same _).2.2.1
  · rfl
theorem PkOk.grow {ml ol ml' ol' : Nat} {p : Pk} (h : PkOk ml ol p) (h1 : ml ≤ ml') (h2 : ol ≤ ol') : PkOk ml' ol' p := by
  cases p with
  | data i => exact Nat.lt_of_lt_of_le h h1
  | sack c l => exact ⟨Nat.le_trans h.1 h2, h.2.1, fun i hi => Nat.lt_of_lt_of_le (h.2.2 i hi) h2⟩
  | _ => trivial
/-! ### the net's steps -/
section
variable {P : SP} {fa fb : Bool} {X : PN} {Y : NQ}
theorem Sim.send1 (h : Sim P fa fb X Y) (m : PM) (hl : Y.a.msgs.length < 100000) : Sim P fa fb (X.send1 m) (Y.send1 m) := by
  obtain ⟨s1, s2, s3, s4⟩ := h.ra.send h.qa m Y.now
  have hbb := h.qa.send m Y.now hl
  have hout := Q.send_out h.qa m Y.now hl
  have hst := Q.send_state Y.a m Y.now
  have hgt := Q.send_got Y.a m Y.now
  have hen : ∀ p ∈ Y.ab, enc P (Y.a.send m Y.now).1.msgs p = enc P Y.a.msgs p := fun p hp => by rw [s4]; exact enc_grow _ p (h.pab p hp)
  have hlen : Y.a.msgs.length ≤ (Y.a.send m Y.now).1.msgs.length := by rw [s4, List.length_append]; omega
  have hnow := h.now
  refine { ra := ?_, rb := ?_, ia := inv_send h.ia _ _, ib := h.ib, qa := hbb, qb := h.qb.grow hlen hbb.ml, pab := ?_, pba := fun p hp => (h.pba p hp).grow (Nat.le_refl _) hlen, fab := ?_, fba := h.fba, ab := ?_, ba := h.ba, sent := ?_, back := h.back, gB := ?_, gA := ?_, now := hnow }
  · show R P fa (X.A.sendP m X.now).1 _ _; rw [hnow]; exact s1
  · show R P.flip fb X.B Y.b (Y.a.send m Y.now).1.msgs; rw [s4]; exact h.rb.grow h.qb _
  · intro p hp
    rcases List.mem_append.1 hp with hp | hp
    · exact (h.pab p hp).grow hlen (Nat.le_refl _)
    · obtain ⟨i, rfl, hi⟩ := hout p hp; exact hi
  · intro hf
    obtain ⟨f1, f2, f3⟩ := h.fab hf
    refine ⟨by show (Y.a.send m Y.now).1.state ≠ 1; rw [hst]; exact f1, by show (Y.a.send m Y.now).1.state ≠ 2; rw [hst]; exact f2, fun p hp => ?_⟩
    rcases List.mem_append.1 hp with hp | hp
    · exact f3 p hp
    · obtain ⟨i, rfl, hi⟩ := hout p hp; exact ⟨nofun, nofun⟩
  · show X.ab ++ (X.A.sendP m X.now).2.1 = (Y.ab ++ (Y.a.send m Y.now).2).map (enc P (Y.a.send m Y.now).1.msgs)
    rw [hnow, s2, h.ab, List.map_append, List.map_congr_left hen]
  · show X.sent ++ _ = (Y.a.send m Y.now).1.msgs
    rw [hnow, h.sent, s4]
  · show X.gB = (Y.a.send m Y.now).1.msgs.take Y.b.got
    rw [s4, List.take_append_of_le_length h.qb.got, h.gB]
  · show X.gA = Y.b.msgs.take (Y.a.send m Y.now).1.got
    rw [hgt, h.gA]
theorem Sim.pop3 (h : Sim P fa fb X Y) (k : Nat) : Sim P fa fb (X.pop3 k) (Y.pop3 k) := by
  refine { h with pab := fun p hp => h.pab p (List.mem_of_mem_eraseIdx hp), fab := fun hf => ?_, ab := ?_ }
  · obtain ⟨f1, f2, f3⟩ := h.fab hf
    exact ⟨f1, f2, fun p hp => f3 p (List.mem_of_mem_eraseIdx hp)⟩
  · show X.ab.eraseIdx k = (Y.ab.eraseIdx k).map (enc P Y.a.msgs)
    rw [h.ab, List.eraseIdx_eq_take_drop_succ, List.eraseIdx_eq_take_drop_succ, List.map_append, List.map_take, List.map_drop]
theorem Sim.hand3 (h : Sim P fa fb X Y) (hP : SPok P) (p : Pk) (hp : PkOk Y.a.msgs.length Y.b.msgs.length p) (hf : p = .init ∨ p = .echo → fb = true) : Sim P fa fb (X.hand3 (enc P Y.a.msgs p)) (Y.hand3 p) := by
  obtain ⟨s1, s2, s3⟩ := h.rb.handle h.qb hP.flip h.qa.short Y.now p hp hf
  have hbb := h.qb.handle Y.now p hp
  have hout := Q.hand_out (h.qb.clocked Y.now) p hp
  have hms : (Y.b.handle Y.now p).1.msgs = Y.b.msgs := Q.hand_msgs (Y.b.clocked Y.now) p
  have hnow := h.now
  have hgt : Y.b.got ≤ (Y.b.handle Y.now p).1.got := Q.hand_got (Y.b.clocked Y.now) p
  refine { ra := ?_, rb := ?_, ia := h.ia, ib := inv_handle h.ib _ _, qa := ?_, qb := hbb, pab := ?_, pba := ?_, fab := h.fab, fba := ?_, ab := h.ab, ba := ?_, sent := h.sent, back := ?_, gB := ?_, gA := ?_, now := hnow }
  · show R P fa X.A Y.a (Y.b.handle Y.now p).1.msgs; rw [hms]; exact h.ra
  · show R P.flip fb (X.B.handle X.now _).1 _ _; rw [hnow]; exact s1
  · show QB Y.a (Y.b.handle Y.now p).1.msgs.length; rw [hms]; exact h.qa
  · show ∀ x ∈ Y.ab, PkOk Y.a.msgs.length (Y.b.handle Y.now p).1.msgs.length x; rw [hms]; exact h.pab
  · intro x hx
    show PkOk (Y.b.handle Y.now p).1.msgs.length Y.a.msgs.length x
    rw [hms]
    rcases List.mem_append.1 hx with hx | hx
    · exact h.pba x hx
    · exact (hout x hx).1
  · intro hf2
    obtain ⟨f1, f2, f3⟩ := h.fba hf2
    obtain ⟨g1, g2⟩ := Q.hand_state (Y.b.clocked Y.now) p f1 f2
    refine ⟨g1, g2, fun x hx => ?_⟩
    rcases List.mem_append.1 hx with hx | hx
    · exact f3 x hx
    · exact ⟨(hout x hx).2.1, fun e => f1 ((hout x hx).2.2 e)⟩
  · show X.ba ++ (X.B.handle X.now _).2.1 = (Y.ba ++ (Y.b.handle Y.now p).2).map (enc P.flip (Y.b.handle Y.now p).1.msgs)
    rw [hnow, hms, List.map_append, ← h.ba]
    exact congrArg _ s2
  · show X.back = (Y.b.handle Y.now p).1.msgs; rw [hms]; exact h.back
  · show X.gB ++ (X.B.handle X.now _).2.2.1 = Y.a.msgs.take (Y.b.handle Y.now p).1.got
    rw [hnow, h.gB]
    refine (congrArg _ s3).trans ?_
    show Y.a.msgs.take Y.b.got ++ (Y.a.msgs.drop Y.b.got).take ((Y.b.handle Y.now p).1.got - Y.b.got) = _
    rw [← List.take_add]; congr 1; omega
  · show X.gA = (Y.b.handle Y.now p).1.msgs.take Y.a.got
    rw [hms]; exact h.gA
theorem Sim.clip (h : Sim P fa fb X Y) : Sim P fa fb X.clip Y.clip := by
  refine { h with pab := fun p hp => h.pab p (List.mem_of_mem_take hp), pba := fun p hp => h.pba p (List.mem_of_mem_take hp), fab := fun hf => ?_, fba := fun hf => ?_, ab := ?_, ba := ?_ }
  · obtain ⟨f1, f2, f3⟩ := h.fab hf; exact ⟨f1, f2, fun p hp => f3 p (List.mem_of_mem_take hp)⟩
  · obtain ⟨f1, f2, f3⟩ := h.fba hf; exact ⟨f1, f2, fun p hp => f3 p (List.mem_of_mem_take hp)⟩
  · show X.ab.take 200 = (Y.ab.take 200).map (enc P Y.a.msgs); rw [h.ab, List.map_take]
  · show X.ba.take 200 = (Y.ba.take 200).map (enc P.flip Y.b.msgs); rw [h.ba, List.map_take]
noncomputable def PN.tickA' (X : PN) (t : Int) : PN := { X with A := (X.A.tickP t).1, ab := X.ab ++ (X.A.tickP t).2 }
noncomputable def NQ.tickA (Y : NQ) (t : Int) : NQ := { Y with a := (Y.a.tick t).1, ab := Y.ab ++ (Y.a.tick t).2 }
theorem Sim.tickA (h : Sim P fa fb X Y) (t : Int) : Sim P fa fb (X.tickA' t) (Y.tickA t) := by
  obtain ⟨s1, s2, s3, s4⟩ := h.ra.tick h.qa t
  have hbb := h.qa.tick t
  have hout := Q.tick_out h.qa t
  refine { ra := s1, rb := ?_, ia := inv_tick h.ia _, ib := h.ib, qa := hbb, qb := ?_, pab := ?_, pba := ?_, fab := ?_, fba := h.fba, ab := ?_, ba := h.ba, sent := ?_, back := h.back, gB := ?_, gA := ?_, now := h.now }
  · show R P.flip fb X.B Y.b (Y.a.tick t).1.msgs; rw [s3]; exact h.rb
  · show QB Y.b (Y.a.tick t).1.msgs.length; rw [s3]; exact h.qb
  · intro x hx
    show PkOk (Y.a.tick t).1.msgs.length Y.b.msgs.length x
    rw [s3]
    rcases List.mem_append.1 hx with hx | hx
    · exact h.pab x hx
    · exact (hout x hx).1
  · intro x hx
    show PkOk Y.b.msgs.length (Y.a.tick t).1.msgs.length x
    rw [s3]; exact h.pba x hx
  · intro hf
    obtain ⟨f1, f2, f3⟩ := h.fab hf
    have hs := Q.tick_state Y.a t
    refine ⟨by show (Y.a.tick t).1.state ≠ 1; omega, by show (Y.a.tick t).1.state ≠ 2; omega, fun x hx => ?_⟩
    rcases List.mem_append.1 hx with hx | hx
    · exact f3 x hx
    · have := (hout x hx).2
      exact ⟨fun e => by have := this (.inl e); omega, fun e => by have := this (.inr e); omega⟩
  · show X.ab ++ (X.A.tickP t).2 = (Y.ab ++ (Y.a.tick t).2).map (enc P (Y.a.tick t).1.msgs)
    rw [s3, s2, h.ab, List.map_append]
  · show X.sent = (Y.a.tick t).1.msgs; rw [s3]; exact h.sent
  · show X.gB = (Y.a.tick t).1.msgs.take Y.b.got; rw [s3]; exact h.gB
  · show X.gA = Y.b.msgs.take (Y.a.tick t).1.got; rw [s4]; exact h.gA
theorem Sim.later (h : Sim P fa fb X Y) (t : Int) : Sim P fa fb { X with now := t } { Y with now := t } := { h with now := rfl }
theorem Sim.tick (h : Sim P fa fb X Y) (d : Nat) : Sim P fa fb (X.tick d) (Y.tick d) := by
  have h1 := (((h.later (Y.now + (d : Int))).tickA (Y.now + (d : Int))).swap.tickA (Y.now + (d : Int))).swap
  have e := h.now
  unfold PN.tick
  rw [e]
  exact h1
theorem Sim.send2 (h : Sim P fa fb X Y) (m : PM) (hl : Y.b.msgs.length < 100000) : Sim P fa fb (X.send2 m) (Y.send2 m) := (h.swap.send1 m hl).swap
theorem Sim.pop4 (h : Sim P fa fb X Y) (k : Nat) : Sim P fa fb (X.pop4 k) (Y.pop4 k) := (h.swap.pop3 k).swap
theorem Sim.hand4 (h : Sim P fa fb X Y) (hP : SPok P) (p : Pk) (hp : PkOk Y.b.msgs.length Y.a.msgs.length p) (hf : p = .init ∨ p = .echo → fa = true) : Sim P fa fb (X.hand4 (enc P.flip Y.b.msgs p)) (Y.hand4 p) := (h.swap.hand3 hP.flip p hp hf).swap
theorem getD_map {α β : Type} (f : α → β) (l : List α) (k : Nat) (d : α) (e : β) (hk : k < l.length) : (l.map f).getD k e = f (l.getD k d) := by
  rw [List.getD_eq_getElem?_getD, List.getD_eq_getElem?_getD, List.getElem?_map, List.getElem?_eq_getElem hk]; rfl
theorem getD_mem {α : Type} (l : List α) (k : Nat) (d : α) (hk : k < l.length) : l.getD k d ∈ l := by
  rw [List.getD_eq_getElem?_getD, List.getElem?_eq_getElem hk]; exact List.getElem_mem hk
theorem Sim.step (h : Sim P fa fb X Y) (hP : SPok P) (kind N : Int) (keep : Bool) (d : List UInt8) (nw : UInt16) (h1 : Y.a.msgs.length < 100000) (h2 : Y.b.msgs.length < 100000) : Sim P fa fb (X.step kind N keep d nw) (Y.step kind N keep d nw) := by
  unfold PN.step NQ.step
  by_cases k1 : kind = 1
  · rw [if_pos k1, if_pos k1]; exact (h.send1 _ h1).clip
  rw [if_neg k1, if_neg k1]
  by_cases k2 : kind = 2
  · rw [if_pos k2, if_pos k2]; exact (h.send2 _ h2).clip
  rw [if_neg k2, if_neg k2]
  by_cases k3 : kind = 3 ∨ kind = 5
  · rw [if_pos k3, if_pos k3]
    by_cases he : Y.ab = []
    · rw [if_pos he, if_pos (by rw [h.ab, he]; rfl)]; exact h
    · have he2 : ¬ X.ab = [] := fun x => he (List.map_eq_nil_iff.1 (h.ab.symm.trans x))
      rw [if_neg he, if_neg he2]
      have hlen : X.ab.length = Y.ab.length := by rw [h.ab, List.length_map]
      have hk := idxN_lt (N := N) (List.length_pos_iff.2 he)
      rw [hlen]
      generalize idxN N Y.ab.length = k at hk ⊢
      have hm := getD_mem Y.ab k .cack hk
      have hp : X.ab.getD k [] = enc P Y.a.msgs (Y.ab.getD k .cack) := by rw [h.ab]; exact getD_map _ _ _ _ _ hk
      have hf : Y.ab.getD k .cack = .init ∨ Y.ab.getD k .cack = .echo → fb = true := fun e => by
        cases hb : fb with
        | true => rfl
        | false => have := (h.fab hb).2.2 _ hm; rcases e with e | e; exact absurd e this.1; exact absurd e this.2
      simp only [hp]
      refine Sim.clip ?_
      by_cases kp : keep = false ∨ kind = 5
      · rw [if_pos kp, if_pos kp]
        by_cases k4 : kind = 3
        · rw [if_pos k4, if_pos k4]; exact (h.pop3 k).hand3 hP _ (h.pab _ hm) hf
        · rw [if_neg k4, if_neg k4]; exact h.pop3 k
      · rw [if_neg kp, if_neg kp]
        by_cases k4 : kind = 3
        · rw [if_pos k4, if_pos k4]; exact h.hand3 hP _ (h.pab _ hm) hf
        · rw [if_neg k4, if_neg k4]; exact h
  rw [if_neg k3, if_neg k3]
  by_cases k5 : kind = 4 ∨ kind = 6
  · rw [if_pos k5, if_pos k5]
    by_cases he : Y.ba = []
    · rw [if_pos he, if_pos (by rw [h.ba, he]; rfl)]; exact h
    · have he2 : ¬ X.ba = [] := fun x => he (List.map_eq_nil_iff.1 (h.ba.symm.trans x))
      rw [if_neg he, if_neg he2]
      have hlen : X.ba.length = Y.ba.length := by rw [h.ba, List.length_map]
      have hk := idxN_lt (N := N) (List.length_pos_iff.2 he)
      rw [hlen]
      generalize idxN N Y.ba.length = k at hk ⊢
      have hm := getD_mem Y.ba k .cack hk
      have hp : X.ba.getD k [] = enc P.flip Y.b.msgs (Y.ba.getD k .cack) := by rw [h.ba]; exact getD_map _ _ _ _ _ hk
      have hf : Y.ba.getD k .cack = .init ∨ Y.ba.getD k .cack = .echo → fa = true := fun e => by
        cases hb : fa with
        | true => rfl
        | false => have := (h.fba hb).2.2 _ hm; rcases e with e | e; exact absurd e this.1; exact absurd e this.2
      simp only [hp]
      refine Sim.clip ?_
      by_cases kp : keep = false ∨ kind = 6
      · rw [if_pos kp, if_pos kp]
        by_cases k4 : kind = 4
        · rw [if_pos k4, if_pos k4]; exact (h.pop4 k).hand4 hP _ (h.pba _ hm) hf
        · rw [if_neg k4, if_neg k4]; exact h.pop4 k
      · rw [if_neg kp, if_neg kp]
        by_cases k4 : kind = 4
        · rw [if_pos k4, if_pos k4]; exact h.hand4 hP _ (h.pba _ hm) hf
        · rw [if_neg k4, if_neg k4]; exact h
  rw [if_neg k5, if_neg k5]
  by_cases k7 : kind = 7
  · rw [if_pos k7, if_pos k7]; exact (h.tick _).clip
  rw [if_neg k7, if_neg k7]; exact h.clip
end
end ac
end Go.Proofs.Ytomplpdeeomehaa


/- assoc: SameMessages, prefix; begun as the net in one atom. -/
namespace Go.Proofs.Ytomplpdeeomehaa
set_option linter.unusedVariables false
set_option linter.unusedSimpArgs false
open Go.RowKit
namespace ac
open wr (be16 be32)
open rd (num)
namespace FxAsOd
set_option maxRecDepth 100000
theorem sl44 : Program.slI Try.prog 44 = some 3 := by kernel_rfl
end FxAsOd
open Go.Proofs.Ytomplpdeeomehaa.ac.FxAsNd Go.Proofs.Ytomplpdeeomehaa.sha.FxShaBlock Go.Proofs.Ytomplpdeeomehaa.rd.FxWireR Go.Proofs.Ytomplpdeeomehaa.ac.FxAsC Go.Proofs.Ytomplpdeeomehaa.ac.FxAsN1 FxAsOd
theorem Reads.msgB {s : Sl Msg} {m : Msg} (hm : m ∈ s.l) : Reads (SA.dat s) 1 (.slice m.2.2.a m.2.2.l.length m.2.2.cap) m.2.2.l.length (m.2.2.l.map v8) := fun w O R h =>
  (h ⟨1, .slice m.2.2.a m.2.2.l.length m.2.2.cap, m.2.2.l.length, m.2.2.l.map v8⟩ (List.mem_cons_of_mem _ (List.mem_flatMap.2 ⟨m, hm, show _ ∈ ([] : List G) ++ ([] ++ (_ :: _)) from List.mem_cons_self⟩))).2
set_option maxHeartbeats 1000000 in
theorem same_dat (l m : Sl Msg) (he : l.l.map pm = m.l.map pm) (hl : l.l.length ≤ 1000000) (L : List SA) :
    Fn Try.prog 21 [l.v, m.v] (SA.dat l :: SA.dat m :: L) (fun v L' => v = .bool true ∧ L' = SA.dat l :: SA.dat m :: L) := by
  have hlen : m.l.length = l.l.length := by have := congrArg List.length he; simpa using this.symm
  obtain ⟨la, lc, ll⟩ := l
  obtain ⟨ma, mc, ml⟩ := m
  simp only at he hl hlen
  refine Fn.of (N := 56) Try.func21 rfl rfl ?_
  intro Xh
  refine TC.seq (TC.region ?_)
  refine TL.sg ?_
  refine TL.nil (TQ.next (TC.seq (TC.seq (TC.region ?_))))
  refine TL.mv ?_
  refine TL.val rfl rfl rfl (Y.len rfl Try.underlying44 rfl) ?_
  refine TL.as (vN ll.length) (by rfl) ?_
  refine TL.mv ?_
  refine TL.val rfl rfl rfl (Y.len rfl Try.underlying44 rfl) ?_
  refine TL.as (vN ll.length) (by (show Value.int .i64 _ = _; rw [hlen])) ?_
  refine TL.val rfl rfl rfl (Y.bin rfl rfl rfl (br_neN)) ?_
  refine TL.is false (by simp) ?_
  refine TL.nil (TQ.next ?_)
  refine TC.cond_f rfl ?_
  refine TC.skip (TQ.next (TC.seq (TC.seq (TC.region ?_))))
  refine TL.mv ?_
  refine TL.val rfl rfl rfl (Y.len rfl Try.underlying44 rfl) ?_
  refine TL.as (vN ll.length) (by rfl) ?_
  refine TL.mv ?_
  refine TL.nil (TQ.next (TC.block ?_))
  refine TC.loopF (ι := Nat) [4] (fun k => k ≤ ll.length) (fun k => [(13, some (vN k))]) (fun k => []) (fun k => ll.length - k) (0) (by omega) ⟨rfl, trivial⟩ Pulls.nil ?_
  rintro k hk F' L' rfl hL'
  simp only [List.cons_append, List.nil_append] at hL'
  subst hL'
  refine TC.seq (TC.region ?_)
  refine TL.val rfl rfl rfl (Y.bin rfl rfl rfl (br_ltN)) ?_
  refine TL.nil (TQ.next (TC.seq ?_))
  refine TC.cond rfl (fun c1 => ?_) (fun c1 => ?_)
  · try simp only [zA, zB, zC, zD, zE, zF, zG, zH, zI, zJ] at c1
    obtain ⟨⟨st, kd, bs⟩, hx, hxm⟩ := getS (l := ll) (i := k) (by omega)
    obtain ⟨⟨st', kd', bs'⟩, hy, hym⟩ := getS (l := ml) (i := k) (by omega)
    have hxy : pm (st, kd, bs) = pm (st', kd', bs') := by
      have h1 := congrArg (fun z => z[k]?) he
      simp only [List.getElem?_map, hx, hy] at h1
      exact Option.some.inj h1
    obtain ⟨x1, x2, x3⟩ : st = st' ∧ kd = kd' ∧ bs.l = bs'.l := by unfold pm at hxy; simpa using hxy
    refine TC.know (dat_some (a := la) (l := ll) inn (by omega)) ?_
    rintro ⟨lg, lo, rfl⟩
    refine TC.know (dat_some (a := ma) (l := ml) inn (by omega)) ?_
    rintro ⟨mg, mo, rfl⟩
    refine TC.skip (TQ.next (TC.seq (TC.block (TC.seq (TC.region ?_)))))
    refine TL.mv ?_
    refine TL.sg ?_
    refine TL.nil (TQ.next (TC.seq ?_))
    refine TC.draws 39 [SA.dat (⟨some ⟨lg, lo, none⟩, lc, ll⟩ : Sl Msg), SA.dat (⟨some ⟨mg, mo, none⟩, mc, ml⟩ : Sl Msg)] (by kernel_rfl) (by kernel_rfl) hld ?_
    refine TA.tk 0 rfl rfl (Y.move rfl rfl) ?_
    refine TA.as (.slice (some ⟨lg, lo, none⟩) ll.length lc) (by rfl) ?_
    refine TA.tk 1 rfl rfl (Y.move rfl rfl) ?_
    refine TA.tk 2 rfl rfl (by first | exact Y.indexSlB rfl sl44 rfl rfl (by omega) nqq | exact Y.indexSl rfl sl44 rfl rfl (by omega) nqq) ?_
    refine TA.tk 3 rfl rfl (by first | exact Y.fieldAddrJ rfl fo77_0 rfl nqq | exact Y.fieldAddr rfl fo77_0 rfl nqq) ?_
    refine TA.tk 4 rfl rfl (Y.load rfl sc40 rfl cel16) ?_
    refine TA.as (v16 st) (by rfl) ?_
    refine TA.tk 5 rfl rfl (Y.move rfl rfl) ?_
    refine TA.as (.slice (some ⟨mg, mo, none⟩) ll.length mc) (by (show Value.slice _ ml.length _ = _; rw [hlen])) ?_
    refine TA.tk 6 rfl rfl (Y.move rfl rfl) ?_
    refine TA.tk 7 rfl rfl (by first | exact Y.indexSlB rfl sl44 rfl rfl (by omega) nqq | exact Y.indexSl rfl sl44 rfl rfl (by omega) nqq) ?_
    refine TA.tk 8 rfl rfl (by first | exact Y.fieldAddrJ rfl fo77_0 rfl nqq | exact Y.fieldAddr rfl fo77_0 rfl nqq) ?_
    refine TA.tk 9 rfl rfl (Y.load rfl sc40 rfl cel16) ?_
    refine TA.as (v16 st') (by rfl) ?_
    refine TA.tk 10 rfl rfl (Y.bin rfl rfl rfl (br_ne16)) ?_
    refine TA.is false (by (rw [x1]; simp)) ?_
    refine TA.tk 11 rfl rfl (Y.move rfl rfl) ?_
    refine TA.tk 12 rfl rfl (Y.move rfl rfl) ?_
    refine TA.as (.slice (some ⟨lg, lo, none⟩) ll.length lc) (by rfl) ?_
    refine TA.tk 13 rfl rfl (Y.move rfl rfl) ?_
    refine TA.tk 14 rfl rfl (by first | exact Y.indexSlB rfl sl44 rfl rfl (by omega) nqq | exact Y.indexSl rfl sl44 rfl rfl (by omega) nqq) ?_
    refine TA.tk 15 rfl rfl (by first | exact Y.fieldAddrJ rfl fo77_1 rfl nqq | exact Y.fieldAddr rfl fo77_1 rfl nqq) ?_
    refine TA.tk 16 rfl rfl (Y.load rfl sc22 rfl cel32) ?_
    refine TA.as (v32 kd) (by rfl) ?_
    refine TA.tk 17 rfl rfl (Y.move rfl rfl) ?_
    refine TA.as (.slice (some ⟨mg, mo, none⟩) ll.length mc) (by (show Value.slice _ ml.length _ = _; rw [hlen])) ?_
    refine TA.tk 18 rfl rfl (Y.move rfl rfl) ?_
    refine TA.tk 19 rfl rfl (by first | exact Y.indexSlB rfl sl44 rfl rfl (by omega) nqq | exact Y.indexSl rfl sl44 rfl rfl (by omega) nqq) ?_
    refine TA.tk 20 rfl rfl (by first | exact Y.fieldAddrJ rfl fo77_1 rfl nqq | exact Y.fieldAddr rfl fo77_1 rfl nqq) ?_
    refine TA.tk 21 rfl rfl (Y.load rfl sc22 rfl cel32) ?_
    refine TA.as (v32 kd') (by rfl) ?_
    refine TA.tk 22 rfl rfl (Y.bin rfl rfl rfl (br_ne32)) ?_
    refine TA.is false (by (rw [x2]; simp)) ?_
    refine TA.tk 23 rfl rfl (Y.pick_f rfl rfl rfl) ?_
    refine TA.tk 24 rfl rfl (Y.move rfl rfl) ?_
    refine TA.tk 25 rfl rfl (Y.move rfl rfl) ?_
    refine TA.as (.slice (some ⟨lg, lo, none⟩) ll.length lc) (by rfl) ?_
    refine TA.tk 26 rfl rfl (Y.move rfl rfl) ?_
    refine TA.tk 27 rfl rfl (by first | exact Y.indexSlB rfl sl44 rfl rfl (by omega) nqq | exact Y.indexSl rfl sl44 rfl rfl (by omega) nqq) ?_
    refine TA.tk 28 rfl rfl (by first | exact Y.fieldAddrJ rfl fo77_2 rfl nqq | exact Y.fieldAddr rfl fo77_2 rfl nqq) ?_
    refine TA.tk 29 rfl rfl (Y.load rfl sc23 rfl celD) ?_
    refine TA.as (.slice bs.a bs.l.length bs.cap) (by rfl) ?_
    refine TA.tk 30 rfl rfl (Y.str rfl Try.underlying23 Try.underlying9 Try.underlying5 rfl (Reads.msgB (s := ⟨some ⟨lg, lo, none⟩, lc, ll⟩) hxm) inn) ?_
    refine TA.tk 31 rfl rfl (Y.move rfl rfl) ?_
    refine TA.as (.slice (some ⟨mg, mo, none⟩) ll.length mc) (by (show Value.slice _ ml.length _ = _; rw [hlen])) ?_
    refine TA.tk 32 rfl rfl (Y.move rfl rfl) ?_
    refine TA.tk 33 rfl rfl (by first | exact Y.indexSlB rfl sl44 rfl rfl (by omega) nqq | exact Y.indexSl rfl sl44 rfl rfl (by omega) nqq) ?_
    refine TA.tk 34 rfl rfl (by first | exact Y.fieldAddrJ rfl fo77_2 rfl nqq | exact Y.fieldAddr rfl fo77_2 rfl nqq) ?_
    refine TA.tk 35 rfl rfl (Y.load rfl sc23 rfl celD) ?_
    refine TA.as (.slice bs'.a bs'.l.length bs'.cap) (by rfl) ?_
    refine TA.tk 36 rfl rfl (Y.str rfl Try.underlying23 Try.underlying9 Try.underlying5 rfl (Reads.msgB (s := ⟨some ⟨mg, mo, none⟩, mc, ml⟩) hym) inn) ?_
    refine TA.tk 37 rfl rfl (Y.neB rfl rfl rfl) ?_
    refine TA.is false (by (rw [x3]; simp)) ?_
    refine TA.tk 38 rfl rfl (Y.pick_f rfl rfl rfl) ?_
    refine TA.done (by kernel_rfl) ?_
    refine TQ.next ?_
    refine TC.cond_f rfl ?_
    refine TC.skip (TQ.block_normal (TQ.next (TC.region ?_)))
    refine TL.val rfl rfl rfl (Y.bin rfl rfl rfl (br_addN (n := 1) (by omega))) ?_
    refine TL.mv ?_
    refine TL.nil ?_
    refine TQ.loopF (k + 1) (by omega) (by show ll.length - (k + 1) < ll.length - k; omega) ⟨rfl, trivial⟩ grw ?_ ?_ ?_
    · kernel_rfl
    · rfl
    · simp only [List.cons_append, List.nil_append]
      exact ett
  · try simp only [zA, zB, zC, zD, zE, zF, zG, zH, zI, zJ] at c1
    refine TC.exit (TQ.then_exit (TQ.then_exit (TQ.block_exit (TQ.next (TC.seq (TC.region ?_))))))
    refine TL.sg ?_
    refine TL.nil (TQ.next (TC.ret ?_))
    refine TQ.retE (res1 rfl rfl) (⟨rfl, rfl⟩) ?_
    exact ett
theorem Ent.takeD {s : Sl Msg} {k : Nat} (hk : k ≤ s.l.length) {L : List SA} : Ent (SA.dat s :: L) (SA.dat (⟨s.a, s.cap, s.l.take k⟩ : Sl Msg) :: SA.dat s :: L) := by
  refine (Ent.dup Dup.dat).trans ?_
  refine (Ent.rdsOf (s := s)).trans ?_
  refine Ent.trans (Ent.takeRds hk) ?_
  refine (Ent.under _ (Ent.rdss_sub (hs := (s.l.take k).flatMap Dat.g) fun q hq => ?_)).trans ?_
  · obtain ⟨z, hz, hq⟩ := List.mem_flatMap.1 hq
    exact List.mem_cons_of_mem _ (List.mem_flatMap.2 ⟨z, List.mem_of_mem_take hz, hq⟩)
  · refine Ent.trans (Ent.mkSl (l := s.l.take k) (by rw [List.length_take]; omega) rfl (by rw [Dat.cs_take])) ?_
    exact Ent.under _ Ent.drop
theorem prefix_dat (l m : Sl Msg) (hp : l.l.map pm = (m.l.map pm).take l.l.length) (hlm : l.l.length ≤ m.l.length) (hl : m.l.length ≤ 1000000) (L : List SA) :
    Fn Try.prog 17 [l.v, m.v] (SA.dat l :: SA.dat m :: L) (fun v L' => v = .bool true ∧ L' = SA.dat l :: SA.dat m :: L) := by
  refine Fn.of (N := 18) Try.func17 rfl rfl ?_
  intro Xh
  refine TC.seq (TC.region ?_)
  refine TL.sg ?_
  refine TL.nil (TQ.next (TC.seq ?_))
  refine TC.know (dat_cap (a := m.a) (cap := m.cap) (l := m.l) inn) ?_
  rintro ⟨hcap, -, -⟩
  refine TC.to ((Pull.ent (A := SA.dat m) pul).trans (Ent.takeD hlm)) ?_
  refine TC.region ?_
  refine TL.mv ?_
  refine TL.val rfl rfl rfl (Y.len rfl Try.underlying44 rfl) ?_
  refine TL.as (vN l.l.length) (by rfl) ?_
  refine TL.mv ?_
  refine TL.val rfl rfl rfl (Y.len rfl Try.underlying44 rfl) ?_
  refine TL.as (vN m.l.length) (by rfl) ?_
  refine TL.val rfl rfl rfl (Y.bin rfl rfl rfl (br_leN)) ?_
  refine TL.is true (by (simp; omega)) ?_
  refine TL.mv ?_
  refine TL.mg ?_
  refine TL.mg ?_
  refine TL.as (m.v) (by rfl) ?_
  refine TL.mg ?_
  refine TL.valG rfl rfl rfl (Y.len rfl Try.underlying44 rfl) ?_
  refine TL.as (vN l.l.length) (by rfl) ?_
  refine TL.valG rfl rfl rfl (Y.sliceHi2 rfl Try.underlying44 sz77 rfl rfl (by omega)) ?_
  refine TL.as (.slice m.a (m.l.take l.l.length).length m.cap) (by (rw [List.length_take, Nat.min_eq_left hlm])) ?_
  refine TL.effG rfl rfl rfl (X.cl rfl Try.func21 rfl (h := (same_dat l ⟨m.a, m.cap, m.l.take l.l.length⟩ (by rw [hp, List.map_take]) (by omega) _))) ?_
  rintro _ _ ⟨rfl, rfl⟩
  refine TL.val rfl rfl rfl (Y.pick_t rfl rfl rfl) ?_
  refine TL.sg ?_
  refine TL.nil (TQ.next (TC.ret ?_))
  refine TQ.retE (res1 rfl rfl) (⟨rfl, rfl⟩) ?_
  exact ett
theorem Lend.two {l m : Sl Msg} : Lend [oM l, rMs l, oM m, rMs m] [SA.rds 3 (.slice l.a l.l.length l.cap) l.l.length (Dat.cs l.l), rMs l, SA.rds 3 (.slice m.a m.l.length m.cap) m.l.length (Dat.cs m.l), rMs m] :=
  Lend.cons Lend1.own (Lend.cons (Lend1.same Dup.rdss) (Lend.cons Lend1.own (Lend.cons (Lend1.same Dup.rdss) Lend.nil)))
theorem Fn.two {f : FuncId} {args : List Value} {l m : Sl Msg} {φ : Value → Prop} (h : Fn Try.prog f args [SA.dat l, SA.dat m] (fun v L' => φ v ∧ L' = [SA.dat l, SA.dat m])) (L : List SA) :
    Fn Try.prog f args (oM l :: rMs l :: oM m :: rMs m :: L) (fun v L' => φ v ∧ L' = oM l :: rMs l :: oM m :: rMs m :: L) := by
  refine Fn.lend0 (As := [oM l, rMs l, oM m, rMs m]) Lend.two ?_ L
  refine Fn.preE (L' := [SA.dat l, SA.dat m]) ?_ (h.mono ?_)
  · refine (Ent.mkSl (l := l.l) (a := l.a) (cap := l.cap) rfl rfl rfl).trans (Ent.under _ ?_)
    exact Ent.mkSl (l := m.l) (a := m.a) (cap := m.cap) rfl rfl rfl
  · rintro v L' ⟨h1, rfl⟩
    refine ⟨_, ?_, h1, rfl⟩
    have e : ∀ (s : Sl Msg) (L0 : List SA), Ent (SA.dat s :: L0) (SA.rds 3 (.slice s.a s.l.length s.cap) s.l.length (Dat.cs s.l) :: rMs s :: L0) := fun s L0 =>
      (Ent.rdsOf (s := s)).trans (Ent.under _ ((Ent.rdss_sub (hs := s.l.flatMap Dat.g) fun q hq => List.mem_cons_of_mem _ hq).trans (Ent.under _ Ent.drop)))
    exact (e l _).trans (Ent.under _ (Ent.under _ (e m _)))
theorem prefix_fn (l m : Sl Msg) (hp : l.l.map pm = (m.l.map pm).take l.l.length) (hlm : l.l.length ≤ m.l.length) (hl : m.l.length ≤ 1000000) (L : List SA) :
    Fn Try.prog 17 [l.v, m.v] (oM l :: rMs l :: oM m :: rMs m :: L) (fun v L' => v = .bool true ∧ L' = oM l :: rMs l :: oM m :: rMs m :: L) :=
  Fn.two (prefix_dat l m hp hlm hl []) L
theorem same_fn (l m : Sl Msg) (he : l.l.map pm = m.l.map pm) (hl : l.l.length ≤ 1000000) (L : List SA) :
    Fn Try.prog 21 [l.v, m.v] (oM l :: rMs l :: oM m :: rMs m :: L) (fun v L' => v = .bool true ∧ L' = oM l :: rMs l :: oM m :: rMs m :: L) :=
  Fn.two (same_dat l m he hl []) L
theorem TC.nd {κ : Ctx} {P : Program} {N : Nat} {code : Code} {F : FE} {L L0 : List SA} {Qx : Exit → Act → World → Prop} {nb : Nat} {X : PN} (hp : Pull (ac.ND nb X) L L0) (k : ∀ n A B, absN n A B = X → TC κ P N code F (nB nb n :: ac.SD n.a A :: ac.SD n.b B :: oP n.ab :: rP n.ab :: oP n.ba :: rP n.ba :: oM n.sent :: rMs n.sent :: oM n.back :: rMs n.back :: oM n.gB :: rMs n.gB :: oM n.gA :: rMs n.gA :: L0) Qx) : TC κ P N code F L Qx := fun ds a w ha hd hw => by
  obtain ⟨n, A, B, hX, h1⟩ := ND_st ((Pull.there hp).st hw)
  refine k n A B hX ds a w ha hd ?_
  exact (show Ent (NAt nb n A B ++ SA.hid κ.X ds :: L0) (SA.hid κ.X ds :: (NAt nb n A B ++ L0)) by
    generalize ac.SD n.a A = A1
    generalize ac.SD n.b B = A2
    generalize SA.hid κ.X ds = A3
    simp only [List.cons_append, List.nil_append]
    exact ett).st h1
theorem Ent.nd {nb : Nat} {n : NP} {A B : PS} {X : PN} {L L0 : List SA} (h : absN n A B = X) (hp : Pulls (NAt nb n A B) L L0) : Ent L (ac.ND nb X :: L0) := hp.ent.trans (Ent.ND h)
/-! ### begun -/
def parS (tag tsn other first : UInt32) : SP := ⟨tagOf tag, tsn, tagOf other, first, ck tag tsn other first⟩
theorem parS_ok (tag tsn other first : UInt32) : SPok (parS tag tsn other first) := ⟨tagOf_nz tag, tagOf_nz other, ck_len tag tsn other first⟩
def netX0 (tag tsn other first : UInt32) : PN := ⟨begA tag tsn, begB other first, [initB (abs (newS tag tsn [97]))], [], [], [], [], [], 0⟩
def qA0 : Q := { state := 1, msgs := [], acked := 0, sent := 0, come := fun _ => false, got := 0, kept := fun _ => false, clock := 0, tset := true, moment := 0, delay := 1000, fires := 0 }
def qB0 : Q := { state := 0, msgs := [], acked := 0, sent := 0, come := fun _ => false, got := 0, kept := fun _ => false, clock := 0, tset := false, moment := 0, delay := 0, fires := 0 }
def netY0 : NQ := ⟨qA0, qB0, [.init], [], 0⟩
theorem sim0 (tag tsn other first : UInt32) : Sim (parS tag tsn other first) false true (netX0 tag tsn other first) netY0 := by
  have z : ∀ x : UInt32, x = x + UInt32.ofNat 0 := fun x => by have : UInt32.ofNat 0 = 0 := rfl; grind
  have hk : ∀ (P : SP) (om : List PM), (fun _ : UInt32 => (none : Option PM)) = fun t => if (fun _ : Nat => false) (t - P.on).toNat = true then om[(t - P.on).toNat]? else none := fun P om => by funext t; rfl
  refine { ra := ?_, rb := ?_, ia := inv_started (inv_new tag tsn (by show 1 ≤ _; decide)) rfl 0, ib := inv_new other first (by show 1 ≤ _; decide), qa := ?_, qb := ?_, pab := ?_, pba := fun p hp => (by cases hp), fab := fun hf => (by cases hf), fba := fun _ => ⟨by show (0 : Nat) ≠ 1; decide, by show (0 : Nat) ≠ 2; decide, fun p hp => by cases hp⟩, ab := ?_, ba := rfl, sent := rfl, back := rfl, gB := rfl, gA := rfl, now := rfl }
  · exact ⟨rfl, rfl, rfl, z _, rfl, fun i hi => absurd (show i < 0 from hi) (by omega), rfl, rfl, rfl, rfl, rfl, rfl, fun h => absurd (show (1 : Nat) = 2 ∨ (1 : Nat) = 3 from h) (by decide), hk _ _, fun _ => by
      show pkt 0 1 ++ be32 (tagOf tag) ++ be32 tsn = _
      simp only [enc, List.append_nil, List.append_assoc]; rfl, fun h => absurd (show (1 : Nat) = 2 from h) (by decide), fun h => by cases h⟩
  · exact ⟨rfl, rfl, rfl, z _, rfl, fun i hi => absurd (show i < 0 from hi) (by omega), rfl, rfl, rfl, rfl, rfl, rfl, fun h => absurd (show (0 : Nat) = 2 ∨ (0 : Nat) = 3 from h) (by decide), hk _ _, fun h => absurd (show (0 : Nat) = 1 from h) (by decide), fun h => absurd (show (0 : Nat) = 2 from h) (by decide), fun _ => rfl⟩
  · exact ⟨Nat.le_refl _, Nat.zero_le _, Nat.zero_le _, Nat.zero_le _, Nat.zero_le _, fun m hm => (nomatch hm), fun i hi => Bool.noConfusion hi, fun i hi => Bool.noConfusion hi, Nat.le_refl _, fun _ => ⟨Nat.le_refl 1, by show 1 ≤ 3; decide⟩, fun _ => ⟨rfl, fun _ => rfl⟩⟩
  · exact ⟨Nat.le_refl _, Nat.zero_le _, Nat.zero_le _, Nat.zero_le _, Nat.zero_le _, fun m hm => (nomatch hm), fun i hi => Bool.noConfusion hi, fun i hi => Bool.noConfusion hi, Nat.le_refl _, fun h => (by cases h), fun _ => ⟨rfl, fun _ => rfl⟩⟩
  · intro p hp; rw [List.mem_singleton.1 hp]; trivial
  · show [initB _] = [enc _ _ _]
    unfold initB
    simp only [enc, List.append_nil, List.append_assoc]; rfl
theorem begun_nd (tag tsn other first : UInt32) (L : List SA) : Fn Try.prog 15 [v32 tag, v32 tsn, v32 other, v32 first] L (fun v L' => ∃ nb, v = pt nb 0 ∧ L' = ND nb (netX0 tag tsn other first) :: L) := by
  refine (begun_fn tag tsn other first L).mono ?_
  rintro v L' ⟨nb, n, a, c, rfl, e1, e2, e3, e4, e5, e6, e7, rfl⟩
  refine ⟨_, Ent.ND (n := n) (A := begA tag tsn) (B := begB other first) (X := netX0 tag tsn other first) ?_, nb, rfl, rfl⟩
  unfold absN netX0 outs
  rw [e1, e2, e3, e4, e5, e6, e7]; rfl
theorem enc_short {P : SP} (hP : SPok P) {ms : List PM} {ol : Nat} (hs : ∀ m ∈ ms, m.2.2.length ≤ 1024) (p : Pk) (hp : PkOk ms.length ol p) : (enc P ms p).length ≤ 2000 := by
  cases p with
  | init => show 16 ≤ 2000; decide
  | iack => unfold enc; simp only [List.length_append, pkt_len, wr.be32_len, hP.cl]; decide
  | echo => unfold enc; simp only [List.length_append, pkt_len, hP.cl]; decide
  | cack => show 8 ≤ 2000; decide
  | data i =>
    have hp : i < ms.length := hp
    have hm := hs (ms.getD i pdef) (getD_mem ms i pdef hp)
    unfold enc
    simp only [List.length_append, pkt_len, wr.be32_len, wr.be16_len]; omega
  | sack c l =>
    have h2 := hp.2.1
    unfold enc
    simp only [List.length_append, pkt_len, wr.be32_len, flat4_len, List.length_map]; omega
theorem Sim.fits {P : SP} {fa fb : Bool} {X : PN} {Y : NQ} (h : Sim P fa fb X Y) (hP : SPok P) (h1 : Y.ab.length ≤ 200) (h2 : Y.ba.length ≤ 200) (h3 : 0 ≤ Y.now ∧ Y.now ≤ 1000000000000) : Fits X := by
  have la := h.qa.ml; have lb := h.qb.ml
  refine ⟨h.ia, h.ib, ?_, ?_, by rw [h.ab, List.length_map]; exact h1, by rw [h.ba, List.length_map]; exact h2, by rw [h.sent]; omega, by rw [h.back]; omega, by rw [h.gB, List.length_take]; omega, by rw [h.gA, List.length_take]; omega, by rw [h.now]; exact h3⟩
  · intro p hp
    rw [h.ab] at hp
    obtain ⟨q, hq, rfl⟩ := List.mem_map.1 hp
    exact enc_short hP h.qa.short q (h.pab q hq)
  · intro p hp
    rw [h.ba] at hp
    obtain ⟨q, hq, rfl⟩ := List.mem_map.1 hp
    exact enc_short hP.flip h.qb.short q (h.pba q hq)
structure Room (Y Y' : NQ) : Prop where
  a : Y'.a.msgs.length ≤ Y.a.msgs.length + 1
  b : Y'.b.msgs.length ≤ Y.b.msgs.length + 1
  ab : Y'.ab.length ≤ 200
  ba : Y'.ba.length ≤ 200
  now : Y.now ≤ Y'.now ∧ Y'.now ≤ Y.now + 4000
theorem Q.send_more (q : Q) (m : PM) (now : Int) : (q.send m now).1.msgs.length ≤ q.msgs.length + 1 := by
  unfold Q.send
  split
  · show (q.taken m now).more.msgs.length ≤ _
    rw [(Q.more_same _).2.1]
    show (q.msgs ++ [m]).length ≤ _
    rw [List.length_append]; exact Nat.le_refl _
  · exact Nat.le_succ _
theorem Q.tick_msgs (q : Q) (now : Int) : (q.tick now).1.msgs = q.msgs := by
  unfold Q.tick
  split
  · rfl
  split
  · rfl
  split <;> rfl
theorem room_step (Y : NQ) (h1 : Y.ab.length ≤ 200) (h2 : Y.ba.length ≤ 200) (kind N : Int) (keep : Bool) (d : List UInt8) (nw : UInt16) : Room Y (Y.step kind N keep d nw) := by
  have hc : ∀ Z : NQ, Z.a.msgs.length ≤ Y.a.msgs.length + 1 → Z.b.msgs.length ≤ Y.b.msgs.length + 1 → Y.now ≤ Z.now ∧ Z.now ≤ Y.now + 4000 → Room Y Z.clip := fun Z g1 g2 g3 =>
    ⟨g1, g2, by show (Z.ab.take 200).length ≤ 200; rw [List.length_take]; omega, by show (Z.ba.take 200).length ≤ 200; rw [List.length_take]; omega, g3⟩
  have hn : Y.now ≤ Y.now ∧ Y.now ≤ Y.now + 4000 := by omega
  have hh : ∀ (q : Q) (now : Int) (p : Pk), (q.handle now p).1.msgs.length ≤ q.msgs.length + 1 := fun q now p => by
    rw [show (q.handle now p).1.msgs = q.msgs from Q.hand_msgs _ p]; omega
  unfold NQ.step
  split
  · exact hc (Y.send1 (mkM N d)) (Q.send_more _ _ _) (by show Y.b.msgs.length ≤ _; omega) hn
  split
  · exact hc (Y.send2 (mkM N d)) (by show Y.a.msgs.length ≤ _; omega) (Q.send_more _ _ _) hn
  split
  · split
    · exact ⟨by omega, by omega, h1, h2, hn⟩
    · simp only
      split
      · split
        · exact hc _ (by show Y.a.msgs.length ≤ _; omega) (hh _ _ _) hn
        · exact hc _ (by show Y.a.msgs.length ≤ _; omega) (hh _ _ _) hn
      · split
        · exact hc _ (by show Y.a.msgs.length ≤ _; omega) (by show Y.b.msgs.length ≤ _; omega) hn
        · exact hc _ (by show Y.a.msgs.length ≤ _; omega) (by show Y.b.msgs.length ≤ _; omega) hn
  split
  · split
    · exact ⟨by omega, by omega, h1, h2, hn⟩
    · simp only
      split
      · split
        · exact hc _ (hh _ _ _) (by show Y.b.msgs.length ≤ _; omega) hn
        · exact hc _ (hh _ _ _) (by show Y.b.msgs.length ≤ _; omega) hn
      · split
        · exact hc _ (by show Y.a.msgs.length ≤ _; omega) (by show Y.b.msgs.length ≤ _; omega) hn
        · exact hc _ (by show Y.a.msgs.length ≤ _; omega) (by show Y.b.msgs.length ≤ _; omega) hn
  split
  · have hw : (nw % 4000).toNat < 4000 := by rw [UInt16.toNat_mod]; exact Nat.mod_lt _ (by decide)
    refine hc (Y.tick (nw % 4000).toNat) ?_ ?_ ?_
    · show (Y.a.tick _).1.msgs.length ≤ _; rw [Q.tick_msgs]; omega
    · show (Y.b.tick _).1.msgs.length ≤ _; rw [Q.tick_msgs]; omega
    · show Y.now ≤ Y.now + ((nw % 4000).toNat : Int) ∧ Y.now + ((nw % 4000).toNat : Int) ≤ Y.now + 4000; omega
  · exact hc Y (by omega) (by omega) hn
end ac
end Go.Proofs.Ytomplpdeeomehaa


/- assoc: AssocOrder, walked and opened. -/
namespace Go.Proofs.Ytomplpdeeomehaa
set_option linter.unusedVariables false
set_option linter.unusedSimpArgs false
open Go.ChangeShapes Go.WideShapes Go.ChangeAt Go.RowKit
namespace ac
open wr (be16 be32)
open rd (num)
namespace FxAsOe
set_option maxRecDepth 100000
theorem ag42 : Program.aggN Try.prog 42 = some 5 := by kernel_rfl
theorem sl36 : Program.slI Try.prog 36 = some 5 := by kernel_rfl
end FxAsOe
open Go.Proofs.Ytomplpdeeomehaa.ac.FxAsN1 Go.Proofs.Ytomplpdeeomehaa.ac.FxAsNet Go.Proofs.Ytomplpdeeomehaa.ac.FxAsNet4 FxAsOe
abbrev NetT := Int × Int × Bool × Bs × UInt16
theorem Ent.netD {s : Sl NetT} {x : NetT} (hx : x ∈ s.l) {L : List SA} : Ent (SA.dat s :: L) (SA.dat x.2.2.2.1 :: SA.dat s :: L) := Ent.rdss_sub fun q hq =>
  List.mem_cons_of_mem _ (List.mem_flatMap.2 ⟨x, hx, show q ∈ ([] : List G) ++ ([] ++ ([] ++ (Dat.g x.2.2.2.1 ++ []))) by rw [List.append_nil]; exact hq⟩)
theorem Sim.pre {P : SP} {fa fb : Bool} {n : NP} {A B : PS} {Y : NQ} (h : Sim P fa fb (absN n A B) Y) :
    (n.gB.l.map pm = (n.sent.l.map pm).take n.gB.l.length ∧ n.gB.l.length ≤ n.sent.l.length ∧ n.sent.l.length ≤ 1000000) ∧ (n.gA.l.map pm = (n.back.l.map pm).take n.gA.l.length ∧ n.gA.l.length ≤ n.back.l.length ∧ n.back.l.length ≤ 1000000) := by
  have e1 : n.gB.l.map pm = Y.a.msgs.take Y.b.got := h.gB
  have e2 : n.sent.l.map pm = Y.a.msgs := h.sent
  have e3 : n.gA.l.map pm = Y.b.msgs.take Y.a.got := h.gA
  have e4 : n.back.l.map pm = Y.b.msgs := h.back
  have g1 := h.qb.got; have g2 := h.qa.got; have m1 := h.qa.ml; have m2 := h.qb.ml
  have l1 : n.gB.l.length = Y.b.got := by have := congrArg List.length e1; rw [List.length_map, List.length_take] at this; omega
  have l2 : n.gA.l.length = Y.a.got := by have := congrArg List.length e3; rw [List.length_map, List.length_take] at this; omega
  have l3 : n.sent.l.length = Y.a.msgs.length := by have := congrArg List.length e2; rwa [List.length_map] at this
  have l4 : n.back.l.length = Y.b.msgs.length := by have := congrArg List.length e4; rwa [List.length_map] at this
  exact ⟨⟨by rw [e1, e2, l1], by omega, by omega⟩, ⟨by rw [e3, e4, l2], by omega, by omega⟩⟩
set_option maxHeartbeats 4000000 in
theorem order_fn (tag tsn other first : UInt32) (s : Sl NetT) (hs : ∀ x ∈ s.l, x.2.2.2.1.l.length ≤ 140737488351232) (hl : s.l.length ≤ 140737488351232) (L : List SA) :
    Fn Try.prog 4 [v32 tag, v32 tsn, v32 other, v32 first, s.v] (SA.dat s :: L) (fun v L' => v = .bool true ∧ L' = SA.dat s :: L) := by
  obtain ⟨sa, sc, sl⟩ := s
  simp only at hs hl
  have hP := parS_ok tag tsn other first
  refine Fn.of (N := 56) Try.func4 rfl rfl ?_
  intro Xh
  refine TC.seq (TC.region ?_)
  refine TL.sg ?_
  refine TL.nil (TQ.next (TC.seq (TC.seq (TC.region ?_))))
  refine TL.eff rfl rfl rfl (X.cl rfl Try.func10 rfl (h := (ac.awake_fn _))) ?_
  rintro _ _ ⟨rfl, rfl⟩
  refine TL.val rfl rfl rfl (Y.not rfl rfl) ?_
  refine TL.nil (TQ.next ?_)
  refine TC.cond_f rfl ?_
  refine TC.skip (TQ.next (TC.seq (TC.region ?_)))
  refine TL.mv ?_
  refine TL.mv ?_
  refine TL.mv ?_
  refine TL.mv ?_
  refine TL.eff rfl rfl rfl (X.cl rfl Try.func15 rfl (h := (begun_nd tag tsn other first _))) ?_
  rintro _ _ ⟨nb, rfl, rfl⟩
  refine TL.sg ?_
  refine TL.nil (TQ.next (TC.seq (TC.seq (TC.region ?_))))
  refine TL.mv ?_
  refine TL.val rfl rfl rfl (Y.len rfl Try.underlying36 rfl) ?_
  refine TL.as (vN sl.length) (by rfl) ?_
  refine TL.mv ?_
  refine TL.nil (TQ.next (TC.block ?_))
  refine TC.loopF (ι := Nat × PN × NQ) [10] (fun i => i.1 ≤ sl.length ∧ i.1 ≤ 150 ∧ Sim (parS tag tsn other first) false true i.2.1 i.2.2 ∧ i.2.2.a.msgs.length ≤ i.1 ∧ i.2.2.b.msgs.length ≤ i.1 ∧ i.2.2.ab.length ≤ 200 ∧ i.2.2.ba.length ≤ 200 ∧ 0 ≤ i.2.2.now ∧ i.2.2.now ≤ 4000 * (i.1 : Int)) (fun i => [(22, some (vN i.1))]) (fun i => [ND nb i.2.1]) (fun i => sl.length - i.1) ((0, netX0 tag tsn other first, netY0)) (⟨Nat.zero_le _, Nat.zero_le _, sim0 tag tsn other first, Nat.le_refl 0, Nat.le_refl 0, by show 1 ≤ 200; decide, by show 0 ≤ 200; decide, Int.le_refl 0, by show (0 : Int) ≤ 4000 * ((0 : Nat) : Int); decide⟩) ⟨rfl, trivial⟩ (Pulls.cons pul Pulls.nil) ?_
  rintro ⟨k, x0, y0⟩ ⟨hk, hk2, hS, ha, hb, hab, hba, hn0, hn1⟩ F' L' rfl hL'
  simp only [List.cons_append, List.nil_append] at hL'
  subst hL'
  simp only at hk hk2 hS ha hb hab hba hn0 hn1 ⊢
  refine TC.seq (TC.region ?_)
  refine TL.val rfl rfl rfl (Y.bin rfl rfl rfl (br_ltN)) ?_
  refine TL.nil (TQ.next (TC.seq ?_))
  refine TC.cond rfl (fun c1 => ?_) (fun c1 => ?_)
  · try simp only [zA, zB, zC, zD, zE, zF, zG, zH, zI, zJ] at c1
    refine TC.skip (TQ.next (TC.seq (TC.block (TC.seq (TC.region ?_)))))
    refine TL.mv ?_
    refine TL.sg ?_
    refine TL.nil (TQ.next (TC.seq (TC.seq (TC.region ?_))))
    refine TL.mv ?_
    refine TL.val rfl rfl rfl (Y.bin rfl rfl rfl (br_geN (n := 150))) ?_
    refine TL.nil (TQ.next ?_)
    refine TC.cond rfl (fun c2 => ?_) (fun c2 => ?_)
    · try simp only [zA, zB, zC, zD, zE, zF, zG, zH, zI, zJ] at c2
      refine TC.exit (TQ.then_exit (TQ.block_out rfl (TQ.then_exit (TQ.then_exit (TQ.block_exit (TQ.next (TC.seq (TC.region ?_))))))))
      refine TL.sg ?_
      refine TL.nil (TQ.next (TC.ret ?_))
      refine TQ.retE (res1 rfl rfl) (⟨rfl, rfl⟩) ?_
      exact ett
    · try simp only [zA, zB, zC, zD, zE, zF, zG, zH, zI, zJ] at c2
      obtain ⟨⟨kd, N, kp, d, nw⟩, hx, hxm⟩ := getS (l := sl) (i := k) (by omega)
      refine TC.know (dat_some (a := sa) (l := sl) (cap := sc) inn (by omega)) ?_
      rintro ⟨sg, so, rfl⟩
      have hF := hS.fits hP hab hba (by omega)
      have hR := room_step y0 hab hba kd N kp d.l nw
      have hS' := hS.step hP kd N kp d.l nw (by omega) (by omega)
      have hd := hs _ hxm
      simp only at hd
      refine TC.to ((Pull.ent (A := SA.dat (⟨some ⟨sg, so, none⟩, sc, sl⟩ : Sl NetT)) pul).trans (Ent.netD hxm)) ?_
      refine TC.skip (TQ.next (TC.seq (TC.region ?_)))
      refine TL.mv ?_
      refine TL.mv ?_
      refine TL.as (.slice (some ⟨sg, so, none⟩) sl.length sc) (by rfl) ?_
      refine TL.mv ?_
      refine TL.val rfl rfl rfl (by first | exact Y.indexSlB rfl sl36 rfl rfl (by omega) nqq | exact Y.indexSl rfl sl36 rfl rfl (by omega) nqq) ?_
      refine TL.val rfl rfl rfl (Y.loadAgg rfl ag42 rfl (by first | exact Cels.datAt inn (by assumption) | exact Cels.full inn) (by first | rfl | ((try simp only [List.length_map, List.length_set, List.length_replicate]); omega))) ?_
      refine TL.as (.agg (netArg kd N kp d.v nw)) (by rfl) ?_
      refine TL.eff rfl rfl rfl (X.cl rfl Try.func16 rfl (h := (step_fn nb x0 hF kd N kp d hd nw _))) ?_
      rintro _ _ rfl
      refine TL.nil (TQ.next (TC.seq ?_))
      obtain ⟨x1, hX'⟩ : ∃ x1, x1 = x0.step kd N kp d.l nw := ⟨_, rfl⟩
      rw [← hX'] at hS' ⊢
      refine TC.nd (X := x1) pul ?_
      rintro n A B hX
      obtain ⟨⟨p1, p2, p3⟩, ⟨p4, p5, p6⟩⟩ := Sim.pre (hX.symm ▸ hS')
      refine TC.draws 22 [nB nb n] (by kernel_rfl) (by kernel_rfl) hld ?_
      refine TA.tk 0 rfl rfl (Y.move rfl rfl) ?_
      refine TA.tk 1 rfl rfl (Y.nilCheck rfl rfl) ?_
      refine TA.tk 2 rfl rfl (by first | exact Y.fieldAddrJ rfl fo46_6 rfl nqq | exact Y.fieldAddr rfl fo46_6 rfl nqq) ?_
      refine TA.tk 3 rfl rfl (Y.load rfl sc44 rfl celD) ?_
      refine TA.as (.slice n.gB.a n.gB.l.length n.gB.cap) (by rfl) ?_
      refine TA.tk 4 rfl rfl (Y.move rfl rfl) ?_
      refine TA.tk 5 rfl rfl (Y.nilCheck rfl rfl) ?_
      refine TA.tk 6 rfl rfl (by first | exact Y.fieldAddrJ rfl fo46_4 rfl nqq | exact Y.fieldAddr rfl fo46_4 rfl nqq) ?_
      refine TA.tk 7 rfl rfl (Y.load rfl sc44 rfl celD) ?_
      refine TA.as (.slice n.sent.a n.sent.l.length n.sent.cap) (by rfl) ?_
      refine TA.one 8 (by kernel_rfl) rfl rfl rfl rfl (X.cl rfl Try.func17 rfl (h := (prefix_fn n.gB n.sent p1 p2 p3 _))) ?_
      rintro _ _ ⟨rfl, rfl⟩
      refine ⟨(Or.inr hld), ?_⟩
      refine TA.tk 9 rfl rfl (Y.not rfl rfl) ?_
      refine TA.is false isf ?_
      refine TA.tk 10 rfl rfl (Y.move rfl rfl) ?_
      refine TA.tk 11 rfl rfl (Y.move rfl rfl) ?_
      refine TA.tk 12 rfl rfl (Y.nilCheck rfl rfl) ?_
      refine TA.tk 13 rfl rfl (by first | exact Y.fieldAddrJ rfl fo46_7 rfl nqq | exact Y.fieldAddr rfl fo46_7 rfl nqq) ?_
      refine TA.tk 14 rfl rfl (Y.load rfl sc44 rfl celD) ?_
      refine TA.as (.slice n.gA.a n.gA.l.length n.gA.cap) (by rfl) ?_
      refine TA.tk 15 rfl rfl (Y.move rfl rfl) ?_
      refine TA.tk 16 rfl rfl (Y.nilCheck rfl rfl) ?_
      refine TA.tk 17 rfl rfl (by first | exact Y.fieldAddrJ rfl fo46_5 rfl nqq | exact Y.fieldAddr rfl fo46_5 rfl nqq) ?_
      refine TA.tk 18 rfl rfl (Y.load rfl sc44 rfl celD) ?_
      refine TA.as (.slice n.back.a n.back.l.length n.back.cap) (by rfl) ?_
      refine TA.one 19 (by kernel_rfl) rfl rfl rfl rfl (X.cl rfl Try.func17 rfl (h := (prefix_fn n.gA n.back p4 p5 p6 _))) ?_
      rintro _ _ ⟨rfl, rfl⟩
      refine ⟨(Or.inr hld), ?_⟩
      refine TA.tk 20 rfl rfl (Y.not rfl rfl) ?_
      refine TA.is false isf ?_
      refine TA.tk 21 rfl rfl (Y.pick_f rfl rfl rfl) ?_
      refine TA.done (by kernel_rfl) ?_
      refine TQ.next ?_
      refine TC.cond_f rfl ?_
      refine TC.skip (TQ.block_normal (TQ.next (TC.region ?_)))
      refine TL.val rfl rfl rfl (Y.bin rfl rfl rfl (br_addN (n := 1) (by omega))) ?_
      refine TL.mv ?_
      refine TL.nil ?_
      refine TQ.to (Ent.nd hX (Pulls.cons pul (Pulls.cons pul (Pulls.cons pul (Pulls.cons pul (Pulls.cons pul (Pulls.cons pul (Pulls.cons pul (Pulls.cons pul (Pulls.cons pul (Pulls.cons pul (Pulls.cons pul (Pulls.cons pul (Pulls.cons pul (Pulls.cons pul (Pulls.cons pul Pulls.nil)))))))))))))))) ?_
      refine TQ.loopF ((k + 1, x1, y0.step kd N kp d.l nw)) (⟨by show k + 1 ≤ sl.length; omega, by show k + 1 ≤ 150; omega, hS', Nat.le_trans hR.a (by show y0.a.msgs.length + 1 ≤ k + 1; omega), Nat.le_trans hR.b (by show y0.b.msgs.length + 1 ≤ k + 1; omega), hR.ab, hR.ba, Int.le_trans hn0 hR.now.1, Int.le_trans hR.now.2 (by show y0.now + 4000 ≤ 4000 * ((k + 1 : Nat) : Int); omega)⟩) (by show sl.length - (k + 1) < sl.length - k; omega) ⟨rfl, trivial⟩ grw ?_ ?_ ?_
      · kernel_rfl
      · rfl
      · simp only [List.cons_append, List.nil_append]
        exact ett
  · try simp only [zA, zB, zC, zD, zE, zF, zG, zH, zI, zJ] at c1
    refine TC.exit (TQ.then_exit (TQ.then_exit (TQ.block_exit (TQ.next (TC.seq (TC.region ?_))))))
    refine TL.sg ?_
    refine TL.nil (TQ.next (TC.ret ?_))
    refine TQ.retE (res1 rfl rfl) (⟨rfl, rfl⟩) ?_
    exact ett
theorem datNet : DatT Try.prog 42 NetT (fun x => inI x.1 ∧ inI x.2.1 ∧ True ∧ (x.2.2.2.1.l.length * 1 ≤ reachBytes ∧ ∀ y ∈ x.2.2.2.1.l, True) ∧ True) :=
  DatF.all (DatF.cons (n := 1) Try.underlying42 (i := 0) rfl (by kernel_rfl) (DatT.int Try.underlying3)
    (DatF.cons (n := 1) Try.underlying42 (i := 1) rfl (by kernel_rfl) (DatT.int Try.underlying3)
    (DatF.cons (n := 1) Try.underlying42 (i := 2) rfl (by kernel_rfl) (DatT.bool Try.underlying4)
    (DatF.cons (n := 1) Try.underlying42 (i := 3) rfl (by kernel_rfl) (DatT.slice (B := 1) Try.underlying23 (by kernel_rfl) (by kernel_rfl) (DatT.u8 Try.underlying5))
    (DatF.last (n := 1) Try.underlying42 (i := 4) rfl (by kernel_rfl) (DatT.u16 Try.underlying40) (by kernel_rfl))))))
variable {H : Type} {enc : TypeId × Value → H} {W : World} {base : Nat}
set_option maxRecDepth 100000 in
theorem order_open {v4 : Value} {t1 t2 t3 t4 : Int} {d0 d1 d2 d3 d4 : DataW H} {p4 : List MemPlace} (h1 : (Lit.int .u32 t1).wf = true) (h2 : (Lit.int .u32 t2).wf = true) (h3 : (Lit.int .u32 t3).wf = true) (h4 : (Lit.int .u32 t4).wf = true)
    (o4 : Value.okWide Try.prog W .any base 36 v4) (k4 : DataW.Trod enc Try.prog W 0 (fun _ => true) true 36 v4 d4 p4)
    (hsz : (DataW.weightsEach Try.prog ([22, 22, 22, 22, 36] ++ []) ([d0, d1, d2, d3, d4] ++ [])).all (· ≤ reachBytes) = true) :
    Calls Try.prog 4 #[.int .u32 t1, .int .u32 t2, .int .u32 t3, .int .u32 t4, v4] W fun e w' => e = .returned (.bool true) ∧ Fr [] W w' := by
  rw [wf_u32 h1, wf_u32 h2, wf_u32 h3, wf_u32 h4]
  obtain ⟨⟨a, cap, ls⟩, rfl, g1, g0, g2⟩ := open_slice (DatT.slice (B := 56) Try.underlying36 (by kernel_rfl) (by kernel_rfl) datNet) Try.underlying36 4 o4 k4 hsz rfl rfl
  exact Fn.topD (As := [SA.dat (⟨a, cap, ls⟩ : Sl NetT)]) (order_fn _ _ _ _ ⟨a, cap, ls⟩ (fun x hx => Nat.le_trans (by have := (g2 x hx).2.2.2.1.1; omega) (show reachBytes ≤ 140737488351232 by decide)) (by
    have h0 : ls.length * 56 ≤ reachBytes := g0
    have h9 : reachBytes ≤ 140737488351232 := by decide
    show ls.length ≤ 140737488351232
    omega) [SA.old W]) (fun A hA => by rw [hA.one]; exact SA.dat_arg g1)
end ac
end Go.Proofs.Ytomplpdeeomehaa


/- assoc: what holds of the net in numbers always: what was acknowledged has come; who waits has a timer. -/
namespace Go.Proofs.Ytomplpdeeomehaa
set_option linter.unusedVariables false
set_option linter.unusedSimpArgs false
open Go.RowKit
namespace ac
def Has (r : Q) (i : Nat) : Prop := i < r.got ∨ r.kept i = true
def Held (s r : Q) (bwd : List Pk) (i : Nat) : Prop := s.come i = true ∨ (∃ c l, Pk.sack c l ∈ bwd ∧ i ∈ l) ∨ r.kept i = true
structure G (s r : Q) (fwd bwd : List Pk) : Prop where
  data : ∀ i, Pk.data i ∈ fwd → i < s.acked + s.sent
  kept : ∀ i, r.kept i = true → i < s.acked + s.sent
  got : r.got ≤ s.acked + s.sent
  acked : s.acked ≤ r.got
  cum : ∀ c l, Pk.sack c l ∈ bwd → c ≤ r.got
  held : ∀ i, Held s r bwd i → Has r i ∧ s.acked ≠ i ∧ ∀ c l, Pk.sack c l ∈ bwd → c ≠ i
section
variable {s r : Q} {fwd bwd : List Pk}
theorem G.less (h : G s r fwd bwd) {f' b' : List Pk} (hf : ∀ p ∈ f', p ∈ fwd) (hb : ∀ p ∈ b', p ∈ bwd) : G s r f' b' :=
  ⟨fun i hi => h.data i (hf _ hi), h.kept, h.got, h.acked, fun c l hc => h.cum c l (hb _ hc), fun i hi => by
    have hi2 : Held s r bwd i := hi.imp id (fun x => x.imp (fun ⟨c, l, h1, h2⟩ => ⟨c, l, hb _ h1, h2⟩) id)
    obtain ⟨g1, g2, g3⟩ := h.held i hi2
    exact ⟨g1, g2, fun c l hc => g3 c l (hb _ hc)⟩⟩
theorem G.says (h : G s r fwd bwd) {r' : Q} (h1 : r'.got = r.got) (h2 : r'.kept = r.kept) {o : List Pk} (ho : ∀ c l, Pk.sack c l ∉ o) : G s r' fwd (bwd ++ o) := by
  have hin : ∀ c l, Pk.sack c l ∈ bwd ++ o → Pk.sack c l ∈ bwd := fun c l hc => (List.mem_append.1 hc).elim id fun hx => absurd hx (ho c l)
  refine ⟨h.data, fun i hi => h.kept i (by rwa [h2] at hi), by rw [h1]; exact h.got, by rw [h1]; exact h.acked, fun c l hc => by rw [h1]; exact h.cum c l (hin c l hc), fun i hi => ?_⟩
  have hi2 : Held s r bwd i := by
    rcases hi with hi | ⟨c, l, h3, h4⟩ | hi
    · exact .inl hi
    · exact .inr (.inl ⟨c, l, hin c l h3, h4⟩)
    · exact .inr (.inr (by rwa [h2] at hi))
  obtain ⟨g1, g2, g3⟩ := h.held i hi2
  exact ⟨by unfold Has; rw [h1, h2]; exact g1, g2, fun c l hc => g3 c l (hin c l hc)⟩
theorem G.more (h : G s r fwd bwd) {s' : Q} (h1 : s'.acked = s.acked) (h2 : s'.come = s.come) (h3 : s.sent ≤ s'.sent) {o : List Pk} (ho : ∀ i, Pk.data i ∈ o → i < s'.acked + s'.sent) : G s' r (fwd ++ o) bwd := by
  refine ⟨fun i hi => ?_, fun i hi => by have := h.kept i hi; omega, by have := h.got; omega, by rw [h1]; exact h.acked, h.cum, fun i hi => ?_⟩
  · rcases List.mem_append.1 hi with hi | hi
    · have := h.data i hi; omega
    · exact ho i hi
  · have hi2 : Held s r bwd i := by unfold Held at hi ⊢; rwa [h2] at hi
    obtain ⟨g1, g2, g3⟩ := h.held i hi2
    exact ⟨g1, by rw [h1]; exact g2, g3⟩
theorem deliver_has (f : Nat) : ∀ (q : Q) (i : Nat), Has q i → Has (q.deliver f) i := by
  induction f with
  | zero => intro q i h; exact h
  | succ f ih =>
    intro q i h
    rw [Q.deliver]
    split
    · refine ih q.step1 i ?_
      rcases h with h | h
      · exact .inl (by show i < q.got + 1; omega)
      · by_cases e : i = q.got
        · exact .inl (by show i < q.got + 1; omega)
        · exact .inr (by show (q.kept i && !decide (i = q.got)) = true; rw [h]; simp [e])
    · exact h
theorem keep_has (q : Q) (i j : Nat) (h : Has q j) : Has (q.keep i) j := by
  unfold Q.keep
  split
  · rcases h with h | h
    · exact .inl h
    · exact .inr (by show (decide (j = i) || q.kept j) = true; rw [h, Bool.or_true])
  · exact h
theorem keep_kept (q : Q) (i j : Nat) (h : (q.keep i).kept j = true) : q.kept j = true ∨ (j = i ∧ q.got ≤ i) := by
  unfold Q.keep at h
  split at h
  · rename_i hc
    have h : (decide (j = i) || q.kept j) = true := h
    by_cases e : j = i
    · exact .inr ⟨e, hc.2.1⟩
    · exact .inl (by simpa [e] using h)
  · exact .inl h
theorem recv_has (q : Q) (i j : Nat) (h : Has q j) : Has (q.recv i) j := deliver_has 33 _ j (keep_has q i j h)
theorem keep_near (q : Q) (i : Nat) (h : q.got ≤ i) (h2 : i < q.got + 32) : Has (q.keep i) i := by
  unfold Q.keep
  by_cases hc : q.kept i = false ∧ q.got ≤ i ∧ i < q.got + 32
  · rw [if_pos hc]; exact .inr (by show (decide (i = i) || q.kept i) = true; simp)
  · rw [if_neg hc]
    refine .inr ?_
    cases hk : q.kept i with
    | true => rfl
    | false => exact absurd ⟨hk, h, h2⟩ hc
theorem recv_come (q : Q) (i : Nat) (h2 : i < q.got + 32) : Has (q.recv i) i := by
  refine deliver_has 33 _ i ?_
  by_cases h : q.got ≤ i
  · exact keep_near q i h h2
  · exact keep_has q i i (.inl (by omega))
theorem G.recv (h : G s r fwd bwd) {ol : Nat} (hb : QB r ol) (hs : r.state = 3) (i : Nat) (hi : Pk.data i ∈ fwd) (hio : i < ol) : G s (r.recv i) fwd (bwd ++ [(r.recv i).sackP]) := by
  have hiB := h.data i hi
  have hk := Q.keep_same r i
  have hmid : Mid (r.keep i) (r.got + 32) (s.acked + s.sent) := by
    refine ⟨by rw [hk.2.2.2.2.2.2.2.2.2.2]; exact h.got, fun j hj => ?_⟩
    rw [hk.2.2.2.2.2.2.2.2.2.2]
    have hm := (hb.keepMid i hio).2 j hj
    rw [hk.2.2.2.2.2.2.2.2.2.2] at hm
    refine ⟨hm.1, hm.2.1, ?_⟩
    rcases keep_kept r i j hj with h1 | ⟨rfl, _⟩
    · exact h.kept j h1
    · exact hiB
  obtain ⟨m1, m2⟩ := Mid.deliver 33 (r.keep i) hmid (by rw [hk.2.2.2.2.2.2.2.2.2.2]; omega)
  have hr := hb.recv hs i hio
  have hmono := Q.recv_mono r i
  have hbey : ∀ j ∈ (r.recv i).beyond.take 16, (r.recv i).kept j = true := fun j hj => by
    have h1 := List.mem_of_mem_take hj
    unfold Q.beyond at h1
    exact (List.mem_filter.1 h1).2
  have hsk : ∀ c l, Pk.sack c l ∈ bwd ++ [(r.recv i).sackP] → Pk.sack c l ∈ bwd ∨ (c = (r.recv i).got ∧ l = (r.recv i).beyond.take 16) := fun c l hc => by
    rcases List.mem_append.1 hc with hc | hc
    · exact .inl hc
    · have := List.mem_singleton.1 hc
      unfold Q.sackP at this
      injection this with e1 e2
      exact .inr ⟨e1, e2⟩
  refine ⟨h.data, fun j hj => (m1.2 j hj).2.2, m1.1, Nat.le_trans h.acked hmono, fun c l hc => ?_, fun j hj => ?_⟩
  · rcases hsk c l hc with h1 | ⟨rfl, _⟩
    · exact Nat.le_trans (h.cum c l h1) hmono
    · exact Nat.le_refl _
  · -- held before, or kept now
    have hcase : Held s r bwd j ∨ (r.recv i).kept j = true := by
      rcases hj with hj | ⟨c, l, h1, h2⟩ | hj
      · exact .inl (.inl hj)
      · rcases hsk c l h1 with h3 | ⟨_, rfl⟩
        · exact .inl (.inr (.inl ⟨c, l, h3, h2⟩))
        · exact .inr (hbey j h2)
      · exact .inr hj
    by_cases hkp : (r.recv i).kept j = true
    · have hlt := (hr.kept j hkp).1
      refine ⟨.inr hkp, by have := h.acked; omega, fun c l hc => ?_⟩
      rcases hsk c l hc with h3 | ⟨rfl, _⟩
      · have := h.cum c l h3; omega
      · omega
    · have hold := hcase.resolve_right hkp
      obtain ⟨g1, g2, g3⟩ := h.held j hold
      have hhas := recv_has r i j g1
      refine ⟨hhas, g2, fun c l hc => ?_⟩
      rcases hsk c l hc with h3 | ⟨rfl, _⟩
      · exact g3 c l h3
      · rcases hhas with hx | hx
        · omega
        · exact absurd hx hkp
theorem marks_come (l : List Nat) : ∀ (q : Q) (j : Nat), (l.foldl Q.mark q).come j = true → q.come j = true ∨ j ∈ l := by
  induction l with
  | nil => intro q j h; exact .inl h
  | cons k l ih =>
    intro q j h
    rcases ih (q.mark k) j h with h1 | h1
    · unfold Q.mark at h1
      split at h1
      · have h1 : (decide (j = k) || q.come j) = true := h1
        by_cases e : j = k
        · exact .inr (e ▸ List.mem_cons_self)
        · exact .inl (by simpa [e] using h1)
      · exact .inl h1
    · exact .inr (List.mem_cons_of_mem _ h1)
theorem ack1_nums (q : Q) (c : Nat) (l : List Nat) : (q.ack1 c l).acked + (q.ack1 c l).sent = q.acked + q.sent ∧ ((q.ack1 c l).acked = q.acked ∧ q.left c = false ∨ (q.ack1 c l).acked = c ∧ q.left c = true) := by
  have hm := Q.marks_same l (q.drop1 c)
  unfold Q.ack1
  cases hl : q.left c with
  | true =>
    have hl2 : q.acked < c ∧ c ≤ q.acked + q.sent := of_decide_eq_true hl
    rw [if_pos rfl]
    have e1 : (q.drop1 c).acked = c := by unfold Q.drop1; rw [if_pos hl]
    have e2 : (q.drop1 c).sent = q.sent - (c - q.acked) := by unfold Q.drop1; rw [if_pos hl]
    refine ⟨?_, .inr ⟨hm.2.2.1.trans e1, rfl⟩⟩
    show (l.foldl Q.mark (q.drop1 c)).acked + (l.foldl Q.mark (q.drop1 c)).sent = _
    rw [hm.2.2.1, hm.2.2.2.1, e1, e2]; omega
  | false =>
    rw [if_neg (by simp)]
    have e1 : (q.drop1 c) = q := by unfold Q.drop1; rw [if_neg (by rw [hl]; simp)]
    rw [e1] at hm ⊢
    exact ⟨by rw [hm.2.2.1, hm.2.2.2.1], .inl ⟨hm.2.2.1, rfl⟩⟩
theorem ack1_come (q : Q) (c : Nat) (l : List Nat) (j : Nat) (h : (q.ack1 c l).come j = true) : q.come j = true ∨ j ∈ l := by
  have h1 : (l.foldl Q.mark (q.drop1 c)).come j = true := by
    unfold Q.ack1 at h
    split at h
    · exact h
    · exact h
  rcases marks_come l _ j h1 with h2 | h2
  · rw [(Q.drop1_same q c).2.2.2.2.2.2.1] at h2; exact .inl h2
  · exact .inr h2
theorem G.ack (h : G s r fwd bwd) (c : Nat) (l : List Nat) (hc : Pk.sack c l ∈ bwd) : G (s.ack1 c l) r fwd bwd := by
  obtain ⟨n1, n2⟩ := ack1_nums s c l
  refine ⟨fun i hi => by have := h.data i hi; omega, fun i hi => by have := h.kept i hi; omega, by have := h.got; omega, ?_, h.cum, fun i hi => ?_⟩
  · rcases n2 with ⟨e, _⟩ | ⟨e, _⟩
    · rw [e]; exact h.acked
    · rw [e]; exact h.cum c l hc
  · have hi2 : Held s r bwd i := by
      rcases hi with hi | hi | hi
      · rcases ack1_come s c l i hi with h1 | h1
        · exact .inl h1
        · exact .inr (.inl ⟨c, l, hc, h1⟩)
      · exact .inr (.inl hi)
      · exact .inr (.inr hi)
    obtain ⟨g1, g2, g3⟩ := h.held i hi2
    refine ⟨g1, ?_, g3⟩
    rcases n2 with ⟨e, _⟩ | ⟨e, _⟩
    · rw [e]; exact g2
    · rw [e]; exact g3 c l hc
theorem more_out {q : Q} {i : Nat} (h : Pk.data i ∈ q.moreOut) : i < q.more.acked + q.more.sent := by
  obtain ⟨e1, e2, e3, e4, e5, e6, e7, e8⟩ := Q.more_same q
  unfold Q.moreOut Q.win at h
  obtain ⟨j, hj, he⟩ := List.mem_map.1 h
  injection he with he
  have := List.mem_range'_1.1 hj
  rw [e6, e8]; omega
theorem G.sack (h : G s r fwd bwd) (c : Nat) (l : List Nat) (hc : Pk.sack c l ∈ bwd) : G (s.ack1 c l).more r (fwd ++ (s.ack1 c l).moreOut) bwd := by
  obtain ⟨e1, e2, e3, e4, e5, e6, e7, e8⟩ := Q.more_same (s.ack1 c l)
  exact (h.ack c l hc).more e6 e7 (by rw [e8]; omega) fun i hi => more_out hi
end
/-! ### timers -/
structure T (q : Q) (now : Int) : Prop where
  clock : q.clock ≤ now
  moment : 0 ≤ q.moment ∧ q.moment ≤ now
  delay : q.delay ≤ 8000
  shake : q.state = 1 ∨ q.state = 2 → q.tset = true
  sent : q.state = 3 → 0 < q.sent → q.tset = true
  all : q.state = 3 → q.sent = min q.len 16
  none : q.state < 3 → q.msgs = []
  c0 : 0 ≤ q.clock
section
variable {q : Q} {now : Int} {ol : Nat}
theorem T.later (h : T q now) {now' : Int} (hn : now ≤ now') : T q now' := ⟨Int.le_trans h.clock hn, ⟨h.moment.1, Int.le_trans h.moment.2 hn⟩, h.delay, h.shake, h.sent, h.all, h.none, h.c0⟩
theorem T.clocked (h : T q now) : T (q.clocked now) now := by
  have h1 := h.clock; have h2 := h.c0
  exact ⟨by show max q.clock now ≤ now; omega, h.moment, h.delay, h.shake, h.sent, h.all, h.none, by show 0 ≤ max q.clock now; omega⟩
theorem T.more (h1 : q.clock ≤ now) (h2 : 0 ≤ q.moment ∧ q.moment ≤ now) (h3 : q.delay ≤ 8000) (h4 : q.state = 3) (h5 : 0 < q.sent → q.tset = true) (h6 : q.sent ≤ q.len) (h7 : q.sent ≤ 16) (h8 : 0 ≤ q.clock) : T q.more now := by
  obtain ⟨e1, e2, e3, e4, e5, e6, e7, e8⟩ := Q.more_same q
  have hl : q.more.len = q.len := by show q.more.msgs.length - q.more.acked = _; rw [e2, e6]; rfl
  have hall : q.more.sent = min q.len 16 := by rw [e8]; omega
  refine ⟨by rw [e5]; exact h1, ?_, ?_, fun hx => by rw [e1, h4] at hx; omega, fun _ hp => ?_, fun _ => by rw [hl]; exact hall, fun hx => by rw [e1, h4] at hx; omega, by rw [e5]; exact h8⟩
  · unfold Q.more
    split
    · exact ⟨h8, h1⟩
    · exact h2
  · unfold Q.more
    split
    · exact (by decide : (1000 : Int) ≤ 8000)
    · exact h3
  · rw [hall] at hp
    unfold Q.more
    split
    · rfl
    · rename_i hc
      show q.tset = true
      by_cases hw : q.win = []
      · refine h5 ?_
        unfold Q.win at hw
        have : (List.range' q.sent (min q.len 16 - q.sent)).length = 0 := by rw [hw]; rfl
        rw [List.length_range'] at this
        omega
      · cases ht : q.tset with
        | true => rfl
        | false => exact absurd ⟨hw, ht⟩ hc
theorem T.hand (h : T q now) (hb : QB q ol) (p : Pk) (hp : PkOk ol q.msgs.length p) : T (q.hand p).1 now := by
  cases p with
  | init => exact h
  | iack =>
    simp only [Q.hand]
    split
    · rename_i hs
      exact ⟨h.clock, ⟨h.c0, h.clock⟩, (by decide : (1000 : Int) ≤ 8000), fun _ => rfl, fun hx => absurd (show (2 : Nat) = 3 from hx) (by decide), fun hx => absurd (show (2 : Nat) = 3 from hx) (by decide), fun _ => h.none (by omega), h.c0⟩
    · exact h
  | echo =>
    simp only [Q.hand]
    split
    · rename_i hs
      have hm := h.none (by omega)
      have hw := hb.win
      rw [hm] at hw
      have hw : q.acked + q.sent ≤ 0 := hw
      exact ⟨h.clock, h.moment, h.delay, fun hx => absurd (show (3 : Nat) = 1 ∨ (3 : Nat) = 2 from hx) (by decide), fun _ hx => absurd (show 0 < q.sent from hx) (by omega), fun _ => by show q.sent = min (q.msgs.length - q.acked) 16; rw [hm]; show q.sent = min (0 - q.acked) 16; omega, fun hx => absurd (show (3 : Nat) < 3 from hx) (by decide), h.c0⟩
    · exact h
  | cack =>
    simp only [Q.hand]
    split
    · rename_i hs
      have hm := h.none (by omega)
      have hw := hb.win
      rw [hm] at hw
      have hw : q.acked + q.sent ≤ 0 := hw
      exact ⟨h.clock, h.moment, h.delay, fun hx => absurd (show (3 : Nat) = 1 ∨ (3 : Nat) = 2 from hx) (by decide), fun _ hx => absurd (show 0 < q.sent from hx) (by omega), fun _ => by show q.sent = min (q.msgs.length - q.acked) 16; rw [hm]; show q.sent = min (0 - q.acked) 16; omega, fun hx => absurd (show (3 : Nat) < 3 from hx) (by decide), h.c0⟩
    · exact h
  | data i =>
    simp only [Q.hand]
    split
    · rename_i hs
      obtain ⟨e1, e2, e3, e4, e5, e6, e7, e8, e9, e10⟩ := Q.recv_same q i
      exact ⟨by rw [e6]; exact h.clock, by rw [e8]; exact h.moment, by rw [e9]; exact h.delay, by rw [e1, e7]; exact h.shake, by rw [e1, e4, e7]; exact h.sent, fun hx => by show (q.recv i).sent = min ((q.recv i).msgs.length - (q.recv i).acked) 16; rw [e4, e2, e3]; exact h.all hs, by rw [e1, e2]; exact h.none, by rw [e6]; exact h.c0⟩
    · exact h
  | sack c l =>
    simp only [Q.hand]
    split
    · rename_i hs
      have hb2 := hb.ack1 hs c l
      have hsm := Q.ack1_same q c l
      have hw := hb2.win; have h16 := hb2.s16
      have hm := Q.marks_same l (q.drop1 c)
      have hd := Q.drop1_same q c
      have hclk : (q.ack1 c l).clock = q.clock := hsm.2.2.2.2
      refine T.more (by rw [hclk]; exact h.clock) ?_ ?_ (hsm.1.trans hs) ?_ (by show _ ≤ (q.ack1 c l).msgs.length - (q.ack1 c l).acked; omega) h16 (by rw [hclk]; exact h.c0)
      · unfold Q.ack1
        split
        · show 0 ≤ (l.foldl Q.mark (q.drop1 c)).clock ∧ (l.foldl Q.mark (q.drop1 c)).clock ≤ now
          rw [hm.2.2.2.2.2.2.1, hd.2.2.2.2.1]; exact ⟨h.c0, h.clock⟩
        · rw [hm.2.2.2.2.2.2.2.2.1, hd.2.2.2.2.2.2.2.1]; exact h.moment
      · unfold Q.ack1
        split
        · exact (by decide : (1000 : Int) ≤ 8000)
        · rw [hm.2.2.2.2.2.2.2.2.2.1, hd.2.2.2.2.2.2.2.2.1]; exact h.delay
      · unfold Q.ack1
        split
        · exact fun hx => decide_eq_true hx
        · rename_i hl
          have hdq : q.drop1 c = q := by unfold Q.drop1; rw [if_neg hl]
          rw [hm.2.2.2.1, hm.2.2.2.2.2.2.2.1, hdq]
          exact h.sent hs
    · exact h
theorem T.handle (h : T q now) (hb : QB q ol) (p : Pk) (hp : PkOk ol q.msgs.length p) : T (q.handle now p).1 now := h.clocked.hand (hb.clocked now) p hp
theorem T.send (h : T q now) (hb : QB q ol) (m : PM) : T (q.send m now).1 now := by
  unfold Q.send
  split
  · rename_i hc
    have h1 := h.clock; have h2 := h.c0; have h3 := hb.win; have h4 := hb.s16
    exact T.more (q := q.taken m now) (by show max q.clock now ≤ now; omega) h.moment h.delay hc.1 (h.sent hc.1) (by show q.sent ≤ (q.msgs ++ [m]).length - q.acked; rw [List.length_append]; omega) h4 (by show 0 ≤ max q.clock now; omega)
  · exact h
theorem T.tick (h : T q now) : T (q.tick now).1 now := by
  have hc := h.clocked
  unfold Q.tick
  split
  · exact hc
  split
  · exact ⟨hc.clock, hc.moment, hc.delay, fun hx => absurd (show (4 : Nat) = 1 ∨ (4 : Nat) = 2 from hx) (by decide), fun hx => absurd (show (4 : Nat) = 3 from hx) (by decide), fun hx => absurd (show (4 : Nat) = 3 from hx) (by decide), fun hx => absurd (show (4 : Nat) < 3 from hx) (by decide), hc.c0⟩
  have hf : T (q.clocked now).fired now := ⟨hc.clock, ⟨hc.c0, hc.clock⟩, by show min (2 * q.delay) 8000 ≤ 8000; omega, fun _ => rfl, fun _ _ => rfl, hc.all, hc.none, hc.c0⟩
  split <;> exact hf
end
end ac
end Go.Proofs.Ytomplpdeeomehaa


/- assoc: once nothing is lost all comes: the law, in numbers. -/
namespace Go.Proofs.Ytomplpdeeomehaa
set_option linter.unusedVariables false
set_option linter.unusedSimpArgs false
open Go.RowKit
namespace ac
/-! ### what a packet does, in brief -/
theorem hand_cases (q : Q) (p : Pk) :
    (∃ i, p = .data i ∧ q.state = 3 ∧ q.hand p = (q.recv i, [(q.recv i).sackP])) ∨
    (∃ c l, p = .sack c l ∧ q.state = 3 ∧ q.hand p = ((q.ack1 c l).more, (q.ack1 c l).moreOut)) ∨
    ((q.hand p).1.got = q.got ∧ (q.hand p).1.kept = q.kept ∧ (q.hand p).1.acked = q.acked ∧ (q.hand p).1.sent = q.sent ∧ (q.hand p).1.come = q.come ∧ (q.hand p).1.msgs = q.msgs ∧
      (∀ x ∈ (q.hand p).2, x = .iack ∨ x = .echo ∨ x = .cack) ∧ (∀ i, p = .data i → q.state ≠ 3) ∧ (∀ c l, p = .sack c l → q.state ≠ 3)) := by
  cases p with
  | init =>
    refine .inr (.inr ⟨rfl, rfl, rfl, rfl, rfl, rfl, fun x hx => ?_, nofun, nofun⟩)
    simp only [Q.hand] at hx
    split at hx
    · exact .inl (List.mem_singleton.1 hx)
    · cases hx
  | iack =>
    simp only [Q.hand]
    split
    · exact .inr (.inr ⟨rfl, rfl, rfl, rfl, rfl, rfl, fun x hx => .inr (.inl (List.mem_singleton.1 hx)), nofun, nofun⟩)
    · exact .inr (.inr ⟨rfl, rfl, rfl, rfl, rfl, rfl, fun x hx => (by cases hx), nofun, nofun⟩)
  | echo =>
    simp only [Q.hand]
    split
    · exact .inr (.inr ⟨rfl, rfl, rfl, rfl, rfl, rfl, fun x hx => .inr (.inr (List.mem_singleton.1 hx)), nofun, nofun⟩)
    · refine .inr (.inr ⟨rfl, rfl, rfl, rfl, rfl, rfl, fun x hx => ?_, nofun, nofun⟩)
      simp only at hx
      split at hx
      · exact .inr (.inr (List.mem_singleton.1 hx))
      · cases hx
  | cack =>
    simp only [Q.hand]
    split
    · exact .inr (.inr ⟨rfl, rfl, rfl, rfl, rfl, rfl, fun x hx => (by cases hx), nofun, nofun⟩)
    · exact .inr (.inr ⟨rfl, rfl, rfl, rfl, rfl, rfl, fun x hx => (by cases hx), nofun, nofun⟩)
  | data i =>
    simp only [Q.hand]
    by_cases hs : q.state = 3
    · rw [if_pos hs]; exact .inl ⟨i, rfl, hs, rfl⟩
    · rw [if_neg hs]; exact .inr (.inr ⟨rfl, rfl, rfl, rfl, rfl, rfl, fun x hx => (by cases hx), fun _ _ => hs, nofun⟩)
  | sack c l =>
    simp only [Q.hand]
    by_cases hs : q.state = 3
    · rw [if_pos hs]; exact .inr (.inl ⟨c, l, rfl, hs, rfl⟩)
    · rw [if_neg hs]; exact .inr (.inr ⟨rfl, rfl, rfl, rfl, rfl, rfl, fun x hx => (by cases hx), nofun, fun _ _ _ => hs⟩)
theorem hand_st (q : Q) (p : Pk) : (q.hand p).1.state = q.state ∨ (q.state = 0 ∧ p = .echo ∧ (q.hand p).1.state = 3) ∨ (q.state = 1 ∧ p = .iack ∧ (q.hand p).1.state = 2) ∨ (q.state = 2 ∧ p = .cack ∧ (q.hand p).1.state = 3) := by
  cases p with
  | init => exact .inl rfl
  | iack =>
    simp only [Q.hand]
    by_cases hs : q.state = 1
    · rw [if_pos hs]; exact .inr (.inr (.inl ⟨hs, trivial, rfl⟩))
    · rw [if_neg hs]; exact .inl rfl
  | echo =>
    simp only [Q.hand]
    by_cases hs : q.state = 0
    · rw [if_pos hs]; exact .inr (.inl ⟨hs, trivial, rfl⟩)
    · rw [if_neg hs]; exact .inl rfl
  | cack =>
    simp only [Q.hand]
    by_cases hs : q.state = 2
    · rw [if_pos hs]; exact .inr (.inr (.inr ⟨hs, trivial, rfl⟩))
    · rw [if_neg hs]; exact .inl rfl
  | data i =>
    simp only [Q.hand]
    split
    · exact .inl (Q.recv_same q i).1
    · exact .inl rfl
  | sack c l =>
    simp only [Q.hand]
    split
    · exact .inl ((Q.more_same _).1.trans (Q.ack1_same q c l).1)
    · exact .inl rfl
theorem hand_cack (q : Q) (p : Pk) (h : Pk.cack ∈ (q.hand p).2) : (q.hand p).1.state = 3 := by
  cases p with
  | init =>
    simp only [Q.hand] at h
    split at h
    · exact absurd (List.mem_singleton.1 h) (by nofun)
    · cases h
  | iack =>
    simp only [Q.hand] at h
    split at h
    · exact absurd (List.mem_singleton.1 h) (by nofun)
    · cases h
  | echo =>
    simp only [Q.hand] at h ⊢
    by_cases hs : q.state = 0
    · rw [if_pos hs]
    · rw [if_neg hs] at h ⊢
      simp only at h
      split at h
      · rename_i h3; exact h3
      · cases h
  | cack => cases h
  | data i =>
    simp only [Q.hand] at h
    split at h
    · exact absurd (List.mem_singleton.1 h) (by unfold Q.sackP; nofun)
    · cases h
  | sack c l =>
    simp only [Q.hand] at h
    split at h
    · unfold Q.moreOut at h
      obtain ⟨i, _, hi⟩ := List.mem_map.1 h
      cases hi
    · cases h
/-! ### what holds always -/
structure Net (Y : NQ) : Prop where
  qa : QB Y.a Y.b.msgs.length
  qb : QB Y.b Y.a.msgs.length
  pab : ∀ p ∈ Y.ab, PkOk Y.a.msgs.length Y.b.msgs.length p
  pba : ∀ p ∈ Y.ba, PkOk Y.b.msgs.length Y.a.msgs.length p
theorem Sim.net {P : SP} {fa fb : Bool} {X : PN} {Y : NQ} (h : Sim P fa fb X Y) : Net Y := ⟨h.qa, h.qb, h.pab, h.pba⟩
theorem Net.swap {Y : NQ} (h : Net Y) : Net Y.swap := ⟨h.qb, h.qa, h.pba, h.pab⟩
structure GT (Y : NQ) : Prop where
  g1 : G Y.a Y.b Y.ab Y.ba
  g2 : G Y.b Y.a Y.ba Y.ab
  ta : T Y.a Y.now
  tb : T Y.b Y.now
theorem GT.swap {Y : NQ} (h : GT Y) : GT Y.swap := ⟨h.g2, h.g1, h.tb, h.ta⟩
structure HS (Y : NQ) : Prop where
  a1 : Y.a.state ≠ 0
  b1 : Y.b.state ≠ 1 ∧ Y.b.state ≠ 2
  four : Y.a.state ≤ 4 ∧ Y.b.state ≤ 4
  ck : Pk.cack ∈ Y.ba → 3 ≤ Y.b.state
  op : Y.a.state = 3 → 3 ≤ Y.b.state
  ini : ∀ p ∈ Y.ba, p ≠ .init ∧ p ≠ .echo
section
variable {Y : NQ}
theorem G.clk {s r : Q} {f b : List Pk} (h : G s r f b) (now : Int) : G (s.clocked now) r f b := ⟨h.data, h.kept, h.got, h.acked, h.cum, h.held⟩
theorem G.clk2 {s r : Q} {f b : List Pk} (h : G s r f b) (now : Int) : G s (r.clocked now) f b := ⟨h.data, h.kept, h.got, h.acked, h.cum, h.held⟩
theorem GT.hand3 (h : GT Y) (hn : Net Y) (p : Pk) (hp : p ∈ Y.ab) : GT (Y.hand3 p) := by
  have hok := hn.pab p hp
  have hqb := hn.qb.clocked Y.now
  have g1 := h.g1.clk2 Y.now
  have g2 := h.g2.clk Y.now
  refine ⟨?_, ?_, h.ta, h.tb.handle hn.qb p hok⟩
  · show G Y.a ((Y.b.clocked Y.now).hand p).1 Y.ab (Y.ba ++ ((Y.b.clocked Y.now).hand p).2)
    rcases hand_cases (Y.b.clocked Y.now) p with ⟨i, rfl, hs, e⟩ | ⟨c, l, rfl, hs, e⟩ | ⟨e1, e2, e3, e4, e5, e6, e7, e8, e9⟩
    · rw [e]; exact g1.recv hqb hs i hp hok
    · rw [e]
      have m := Q.more_same ((Y.b.clocked Y.now).ack1 c l)
      have k := Q.ack1_same (Y.b.clocked Y.now) c l
      refine g1.says (m.2.2.1.trans k.2.2.1) (m.2.2.2.1.trans k.2.2.2.1) fun c' l' hx => ?_
      unfold Q.moreOut at hx
      obtain ⟨i, _, hi⟩ := List.mem_map.1 hx
      cases hi
    · refine g1.says e1 e2 fun c l hx => ?_
      rcases e7 _ hx with x | x | x <;> cases x
  · show G ((Y.b.clocked Y.now).hand p).1 Y.a (Y.ba ++ ((Y.b.clocked Y.now).hand p).2) Y.ab
    rcases hand_cases (Y.b.clocked Y.now) p with ⟨i, rfl, hs, e⟩ | ⟨c, l, rfl, hs, e⟩ | ⟨e1, e2, e3, e4, e5, e6, e7, e8, e9⟩
    · rw [e]
      have k := Q.recv_same (Y.b.clocked Y.now) i
      refine g2.more k.2.2.1 k.2.2.2.2.1 (Nat.le_of_eq k.2.2.2.1.symm) fun j hx => ?_
      exact absurd (List.mem_singleton.1 hx) (by unfold Q.sackP; nofun)
    · rw [e]; exact g2.sack c l hp
    · refine g2.more e3 e5 (Nat.le_of_eq e4.symm) fun j hx => ?_
      rcases e7 _ hx with x | x | x <;> cases x
theorem GT.less (h : GT Y) {f b : List Pk} (hf : ∀ p ∈ f, p ∈ Y.ab) (hb : ∀ p ∈ b, p ∈ Y.ba) : GT { Y with ab := f, ba := b } := ⟨h.g1.less hf hb, h.g2.less hb hf, h.ta, h.tb⟩
theorem GT.clip (h : GT Y) : GT Y.clip := h.less (fun _ hp => List.mem_of_mem_take hp) (fun _ hp => List.mem_of_mem_take hp)
theorem GT.send1 (h : GT Y) (hn : Net Y) (m : PM) : GT (Y.send1 m) := by
  have hst : ((Y.a.send m Y.now).1.acked = Y.a.acked ∧ (Y.a.send m Y.now).1.come = Y.a.come ∧ Y.a.sent ≤ (Y.a.send m Y.now).1.sent ∧ (Y.a.send m Y.now).1.got = Y.a.got ∧ (Y.a.send m Y.now).1.kept = Y.a.kept) ∧ (∀ i, Pk.data i ∈ (Y.a.send m Y.now).2 → i < (Y.a.send m Y.now).1.acked + (Y.a.send m Y.now).1.sent) ∧ (∀ c l, Pk.sack c l ∉ (Y.a.send m Y.now).2) := by
    unfold Q.send
    split
    · have e := Q.more_same (Y.a.taken m Y.now)
      refine ⟨⟨e.2.2.2.2.2.1, e.2.2.2.2.2.2.1, ?_, e.2.2.1, e.2.2.2.1⟩, fun i hi => more_out hi, fun c l hx => ?_⟩
      · rw [e.2.2.2.2.2.2.2]; show Y.a.sent ≤ max Y.a.sent _; omega
      · unfold Q.moreOut at hx
        obtain ⟨i, _, hi⟩ := List.mem_map.1 hx
        cases hi
    · exact ⟨⟨rfl, rfl, Nat.le_refl _, rfl, rfl⟩, fun i hi => (by cases hi), fun c l hx => (by cases hx)⟩
  obtain ⟨⟨e1, e2, e3, e4, e5⟩, h2, h3⟩ := hst
  exact ⟨h.g1.more e1 e2 e3 h2, h.g2.says e4 e5 h3, h.ta.send hn.qa m, h.tb⟩
theorem tick_same (q : Q) (now : Int) : (q.tick now).1.acked = q.acked ∧ (q.tick now).1.come = q.come ∧ (q.tick now).1.sent = q.sent ∧ (q.tick now).1.got = q.got ∧ (q.tick now).1.kept = q.kept ∧ (q.tick now).1.msgs = q.msgs := by
  unfold Q.tick
  split
  · exact ⟨rfl, rfl, rfl, rfl, rfl, rfl⟩
  split
  · exact ⟨rfl, rfl, rfl, rfl, rfl, rfl⟩
  split <;> exact ⟨rfl, rfl, rfl, rfl, rfl, rfl⟩
theorem tick_outs (q : Q) (now : Int) : (∀ i, Pk.data i ∈ (q.tick now).2 → i < q.acked + q.sent) ∧ (∀ c l, Pk.sack c l ∉ (q.tick now).2) ∧ Pk.cack ∉ (q.tick now).2 := by
  have hs : q.shake = .init ∨ q.shake = .echo := by unfold Q.shake; split; exact .inl rfl; exact .inr rfl
  unfold Q.tick
  split
  · exact ⟨fun i hi => (by cases hi), fun c l hi => (by cases hi), fun hi => (by cases hi)⟩
  split
  · exact ⟨fun i hi => (by cases hi), fun c l hi => (by cases hi), fun hi => (by cases hi)⟩
  split
  · refine ⟨fun i hi => ?_, fun c l hi => ?_, fun hi => ?_⟩
    · have := List.mem_singleton.1 hi; rcases hs with e | e <;> (rw [e] at this; cases this)
    · have := List.mem_singleton.1 hi; rcases hs with e | e <;> (rw [e] at this; cases this)
    · have := List.mem_singleton.1 hi; rcases hs with e | e <;> (rw [e] at this; cases this)
  · refine ⟨fun i hi => ?_, fun c l hi => ?_, fun hi => ?_⟩
    · obtain ⟨j, hj, he⟩ := List.mem_map.1 hi
      injection he with he
      have := List.mem_range.1 (List.mem_filter.1 hj).1
      omega
    · obtain ⟨j, hj, he⟩ := List.mem_map.1 hi; cases he
    · obtain ⟨j, hj, he⟩ := List.mem_map.1 hi; cases he
theorem GT.tickA (h : GT Y) : GT (Y.tickA Y.now) := by
  obtain ⟨e1, e2, e3, e4, e5, e6⟩ := tick_same Y.a Y.now
  obtain ⟨h1, h2, h3⟩ := tick_outs Y.a Y.now
  refine ⟨h.g1.more e1 e2 (Nat.le_of_eq e3.symm) fun i hi => ?_, h.g2.says e4 e5 h2, h.ta.tick, h.tb⟩
  rw [e1, e3]; exact h1 i hi
theorem GT.later (h : GT Y) {t : Int} (ht : Y.now ≤ t) : GT { Y with now := t } := ⟨h.g1, h.g2, h.ta.later ht, h.tb.later ht⟩
theorem GT.tick (h : GT Y) (d : Nat) : GT (Y.tick d) := by
  have h1 := h.later (t := Y.now + (d : Int)) (by omega)
  exact (h1.tickA.swap.tickA).swap
theorem hs_hand (q : Q) (p : Pk) : (3 ≤ q.state → 3 ≤ (q.hand p).1.state) ∧ (q.state ≤ 4 → (q.hand p).1.state ≤ 4) ∧ (q.state = 4 ↔ (q.hand p).1.state = 4) := by
  rcases hand_st q p with e | ⟨e1, _, e2⟩ | ⟨e1, _, e2⟩ | ⟨e1, _, e2⟩
  · rw [e]; exact ⟨id, id, Iff.rfl⟩
  · rw [e2]; omega
  · rw [e2]; omega
  · rw [e2]; omega
theorem HS.hand3 (h : HS Y) (p : Pk) : HS (Y.hand3 p) := by
  obtain ⟨s1, s2, s3⟩ := hs_hand (Y.b.clocked Y.now) p
  have hb := Q.hand_state (Y.b.clocked Y.now) p h.b1.1 h.b1.2
  refine ⟨h.a1, hb, ⟨h.four.1, s2 h.four.2⟩, fun hc => ?_, fun ha => s1 (h.op ha), fun x hx => ?_⟩
  · rcases List.mem_append.1 hc with hc | hc
    · exact s1 (h.ck hc)
    · have := hand_cack (Y.b.clocked Y.now) p hc
      show 3 ≤ ((Y.b.clocked Y.now).hand p).1.state
      omega
  · rcases List.mem_append.1 hx with hx | hx
    · exact h.ini x hx
    · rcases hand_cases (Y.b.clocked Y.now) p with ⟨i, rfl, hs, e⟩ | ⟨c, l, rfl, hs, e⟩ | ⟨e1, e2, e3, e4, e5, e6, e7, e8, e9⟩
      · have hx : x ∈ ((Y.b.clocked Y.now).hand (.data i)).2 := hx
        rw [e] at hx
        rw [List.mem_singleton.1 hx]; unfold Q.sackP; exact ⟨nofun, nofun⟩
      · have hx : x ∈ ((Y.b.clocked Y.now).hand (.sack c l)).2 := hx
        rw [e] at hx
        obtain ⟨i, _, rfl⟩ := List.mem_map.1 hx
        exact ⟨nofun, nofun⟩
      · have hx : x ∈ ((Y.b.clocked Y.now).hand p).2 := hx
        rcases e7 x hx with rfl | rfl | rfl
        · exact ⟨nofun, nofun⟩
        · -- a COOKIE comes from a side that asked alone
          exfalso
          have hb1 := h.b1.1
          cases p with
          | iack =>
            simp only [Q.hand] at hx
            rw [if_neg (show ¬ (Y.b.clocked Y.now).state = 1 from hb1)] at hx
            cases hx
          | init =>
            simp only [Q.hand] at hx
            split at hx
            · exact absurd (List.mem_singleton.1 hx) (by nofun)
            · cases hx
          | echo =>
            simp only [Q.hand] at hx
            split at hx
            · exact absurd (List.mem_singleton.1 hx) (by nofun)
            · simp only at hx
              split at hx
              · exact absurd (List.mem_singleton.1 hx) (by nofun)
              · cases hx
          | cack => cases hx
          | data i =>
            simp only [Q.hand] at hx
            split at hx
            · exact absurd (List.mem_singleton.1 hx) (by unfold Q.sackP; nofun)
            · cases hx
          | sack c l =>
            simp only [Q.hand] at hx
            split at hx
            · obtain ⟨i, _, hi⟩ := List.mem_map.1 hx; cases hi
            · cases hx
        · exact ⟨nofun, nofun⟩
theorem HS.hand4 (h : HS Y) (p : Pk) (hp : p ∈ Y.ba) : HS (Y.hand4 p) := by
  obtain ⟨s1, s2, s3⟩ := hs_hand (Y.a.clocked Y.now) p
  have hst := hand_st (Y.a.clocked Y.now) p
  have h1 := h.a1
  refine ⟨?_, h.b1, ⟨s2 h.four.1, h.four.2⟩, h.ck, fun ha => ?_, h.ini⟩
  · show ((Y.a.clocked Y.now).hand p).1.state ≠ 0
    rcases hst with e | ⟨e1, _, e2⟩ | ⟨e1, _, e2⟩ | ⟨e1, _, e2⟩
    · rw [e]; exact h1
    · omega
    · omega
    · omega
  · have ha : ((Y.a.clocked Y.now).hand p).1.state = 3 := ha
    rcases hst with e | ⟨e1, _, e2⟩ | ⟨e1, _, e2⟩ | ⟨e1, e3, e2⟩
    · exact h.op (by rw [e] at ha; exact ha)
    · exact absurd e1 h1
    · omega
    · exact h.ck (e3 ▸ hp)
theorem HS.less (h : HS Y) {f b : List Pk} (hb : ∀ p ∈ b, p ∈ Y.ba) : HS { Y with ab := f, ba := b } := ⟨h.a1, h.b1, h.four, fun hc => h.ck (hb _ hc), h.op, fun p hp => h.ini p (hb p hp)⟩
theorem HS.tick (h : HS Y) (hn : Net Y) (d : Nat) : HS (Y.tick d) := by
  have sa := Q.tick_state Y.a (Y.now + (d : Int))
  have sb := Q.tick_state Y.b (Y.now + (d : Int))
  have h1 := h.a1; have h2 := h.b1; have h3 := h.four
  refine ⟨?_, ?_, ?_, fun hc => ?_, fun ha => ?_, fun x hx => ?_⟩
  · show (Y.a.tick (Y.now + (d : Int))).1.state ≠ 0; omega
  · show (Y.b.tick (Y.now + (d : Int))).1.state ≠ 1 ∧ (Y.b.tick (Y.now + (d : Int))).1.state ≠ 2; omega
  · show (Y.a.tick (Y.now + (d : Int))).1.state ≤ 4 ∧ (Y.b.tick (Y.now + (d : Int))).1.state ≤ 4; omega
  · show 3 ≤ (Y.b.tick (Y.now + (d : Int))).1.state
    rcases List.mem_append.1 hc with hc | hc
    · have := h.ck hc; omega
    · exact absurd hc (tick_outs Y.b (Y.now + (d : Int))).2.2
  · have ha : (Y.a.tick (Y.now + (d : Int))).1.state = 3 := ha
    show 3 ≤ (Y.b.tick (Y.now + (d : Int))).1.state
    have := h.op (by omega)
    omega
  · rcases List.mem_append.1 hx with hx | hx
    · exact h.ini x hx
    · -- a side that never asked, and is not open, has no timer
      have := (Q.tick_out hn.qb _ x hx).2
      exact ⟨fun e => by have := this (.inl e); omega, fun e => by have := this (.inr e); omega⟩
end
end ac
end Go.Proofs.Ytomplpdeeomehaa

