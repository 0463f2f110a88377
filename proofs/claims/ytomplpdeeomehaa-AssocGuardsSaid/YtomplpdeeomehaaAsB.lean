/- assoc: New, cookies, data packets, Start, Abort, walked. -/
import Derived.Test.YtomplpdeeomehaaAsA
import Derived.Test.YtomplpdeeomehaaHAuto
namespace Go.Proofs.Ytomplpdeeomehaa
set_option linter.unusedVariables false
set_option linter.unusedSimpArgs false
open Go.RowKit
namespace ac
open wr (be16 be32)
namespace FxAsB
set_option maxRecDepth 100000
theorem fo68_0 : Program.fieldOff Try.prog 68 0 = some 0 := by kernel_rfl
theorem fo68_1 : Program.fieldOff Try.prog 68 1 = some 1 := by kernel_rfl
theorem fo68_2 : Program.fieldOff Try.prog 68 2 = some 2 := by kernel_rfl
theorem pl68 : Program.places Try.prog 68 = some [(0, 1), (1, 1), (2, 1), (3, 1), (4, 1), (5, 1), (6, 1), (7, 1), (8, 1), (9, 1), (10, 1), (11, 1), (12, 4), (16, 1)] := by kernel_rfl
theorem sc22 : Program.isSc Try.prog 22 = true := by kernel_rfl
theorem sc23 : Program.isSc Try.prog 23 = true := by kernel_rfl
theorem sc85 : Program.isSc Try.prog 85 = true := by kernel_rfl
theorem sz22 : (Try.prog.info? 22).map (·.size) = some 1 := by kernel_rfl
theorem sz5 : (Try.prog.info? 5).map (·.size) = some 1 := by kernel_rfl
theorem zc100 : Program.zeroC Try.prog 100 = some ((List.replicate 4 (0 : UInt32)).map v32).toArray := by kernel_rfl
theorem zc101 : Program.zeroC Try.prog 101 = some ((List.replicate 20 (0 : UInt8)).map v8).toArray := by kernel_rfl
theorem zc68 : Program.zeroC Try.prog 68 = some #[.int .u32 0, .int .u32 0, .slice none 0 0, .int .i64 0, .bool false, .int .u32 0, .int .u32 0, .map none, .int .u32 0, .slice none 0 0, .int .i64 0, .int .i64 0, .bool false, .int .i64 0, .int .i64 0, .int .i64 0, .slice none 0 0] := by kernel_rfl
theorem zc85 : Program.zeroC Try.prog 85 = some #[.slice none 0 0] := by kernel_rfl
end FxAsB
open FxAsB
section
variable {P : Program} {N : Nat} {F : FE} {As L : List SA} {o : Oper} {x y : Operand}
theorem Y.maxK {k : IntKind} {m n : Int} {at' : Array TypeId} (ho : o.op = .call { callee := .builtin .max, args := #[x, y], argTypes := at' }) (hx : evO F x = some (.int k m)) (hy : evO F y = some (.int k n)) : Yld P N o F As (.int k (max m n)) := fun a w ha hw => by
  unfold execOp; rw [ho]
  replace hx := ha.eval hx
  replace hy := ha.eval hy
  generalize a.eval = ρ at hx hy ⊢
  simp [resolve, invoke, builtin, hx, hy, Builtin.max_, Builtin.max2, Result.andThen, Oper.upon, go_sem]
  split <;> omega
end
theorem readsBlk {b T n : Nat} {l : List UInt8} (hn : l.length = n) (hm : n ≤ maxLen) : Reads (SA.blk b (l.map v8).toArray T) 1 (.slice (some ⟨b, 0, none⟩) n n) n (l.map v8) := fun w O R h => by
  subst hn
  refine ⟨by simp, one8, some ⟨b, 0, none⟩, l.length, rfl, Nat.le_refl _, hm, by simp, ?_⟩
  intro p hp j u hu
  cases hp
  rw [Addr.add_lit, h.2.cell]
  simpa using hu
theorem macO_fn (ka : Option Addr) (kn kc : Nat) (key : List UInt8) (hk : key.length = kn) (a : Option Addr) (n cap : Nat) (b : List UInt8) (hn : b.length = n) (h1 : kn ≤ 140737488351232) (h2 : n ≤ 140737488351232) (L : List SA) :
    Fn Try.prog 54 [.slice ka kn kc, .slice a n cap] (SA.rds 1 (.slice ka kn kc) kn (key.map v8) :: SA.owns 5 1 (.slice a n cap) n (b.map v8) :: L)
      (fun v L' => v = .agg ((sha.mac key b).map v8).toArray ∧ L' = SA.rds 1 (.slice ka kn kc) kn (key.map v8) :: SA.owns 5 1 (.slice a n cap) n (b.map v8) :: L) :=
  Fn.lend0 (Lend.cons Lend1.rds (Lend.cons Lend1.own Lend.nil)) (sha.mac_fn ka kn kc key hk a n cap b hn (by omega) (by omega) []) L
def tagOf (t : UInt32) : UInt32 := if t = 0 then 1 else t
theorem tagOf_v (t : UInt32) : Value.int .u32 (max (t.toNat : Int) 1) = v32 (tagOf t) := by
  unfold tagOf
  by_cases h : t = 0
  · subst h; rfl
  · rw [if_neg h]
    have : t.toNat ≠ 0 := fun e => h (UInt32.toNat_inj.1 (by simpa using e))
    rw [v32, show max (t.toNat : Int) 1 = t.toNat by omega]
def newS (tag tsn : UInt32) (secret : List UInt8) : AS Msg := { tag := tagOf tag, first := tsn, secret := secret, state := 0, known := false, other := 0, top := 0, kept := fun _ => none, base := tsn, queue := [], sent := 0, clock := 0, tset := false, moment := 0, delay := 0, fires := 0, shake := [] }
--REG rostrum/assoc.New : _ _ ⟨b{d}, p{d}, rfl, rfl⟩ => (ac.New_fn _ _ _ _ _ _ (by first | assumption | rfl) (by omega) _)
theorem New_fn (tag tsn : UInt32) (a : Option Addr) (n cap : Nat) (secret : List UInt8) (hn : secret.length = n) (hs : n ≤ 140737488351232) (L : List SA) :
    Fn Try.prog 11 [v32 tag, v32 tsn, .slice a n cap] (SA.rds 1 (.slice a n cap) n (secret.map v8) :: L)
      (fun v L' => ∃ b p, v = pt b 0 ∧ L' = aB b p (newS tag tsn secret) :: aS p (newS tag tsn secret) :: aM p (newS tag tsn secret) :: aQ p (newS tag tsn secret) :: aD (newS tag tsn secret) :: aH p (newS tag tsn secret) :: SA.rds 1 (.slice a n cap) n (secret.map v8) :: L) := by
  subst hn
  refine Fn.of (N := 16) Try.func11 rfl rfl ?_
  intro Xh
  refine TC.seq ?_
  refine TC.region ?_
  refine TL.val rfl rfl rfl (Y.assign rfl rfl) ?_
  refine TL.nil ?_
  refine TQ.next ?_
  refine TC.seq ?_
  refine TC.region ?_
  refine TL.val rfl rfl rfl (Y.move rfl rfl) ?_
  refine TL.val rfl rfl rfl (Y.maxK (n := 1) rfl rfl rfl) ?_
  refine TL.as (v32 (tagOf tag)) (by exact tagOf_v tag) ?_
  refine TL.val rfl rfl rfl (Y.move rfl rfl) ?_
  refine TL.val rfl rfl rfl (Y.move rfl rfl) ?_
  refine TL.val rfl rfl rfl (Y.move rfl rfl) ?_
  refine TL.eff rfl rfl rfl (X.call rfl Try.func25 (by kernel_rfl) rfl rfl (Fn.preE (by repeat first | (with_reducible apply Ent.refl) | (apply Ent.cons; case h => first | (with_reducible (repeat first | apply Pull.here | apply Pull.there); done) | (repeat first | apply Pull.here | apply Pull.there))) (rd.Clone_fn _ _ _ _ (by first | assumption | rfl) (by omega) _))) ?_
  rintro _ _ ⟨a12, c12, rfl, rfl⟩
  refine TL.eff rfl rfl rfl (X.makeMap (β := Msg) rfl) ?_
  rintro _ _ ⟨b13, rfl, rfl⟩
  refine TL.val rfl rfl rfl (Y.buildS (cells := asC ⟨a12, c12, b13, none, 0, none, 0⟩ (newS tag tsn secret)) rfl rfl pl68 zc68 (by kernel_rfl)) ?_
  refine TL.eff rfl rfl rfl (X.boxA rfl rfl) ?_
  rintro _ _ ⟨b15, rfl, rfl⟩
  refine TL.val rfl rfl rfl (Y.assign rfl rfl) ?_
  refine TL.nil ?_
  refine TQ.next ?_
  refine TC.ret ?_
  refine TQ.retE (res1 rfl rfl) (⟨b15, ⟨a12, c12, b13, none, 0, none, 0⟩, rfl, rfl⟩) ?_
  exact (Ent.trans ((Pull.ent (A := SA.owns 5 1 (.slice a12 secret.length c12) secret.length (secret.map v8)) pul).trans Ent.freeze) (Ent.trans (Ent.nilOwn 82 4) (Ent.trans Ent.rdss0 (Ent.trans ((Ent.nilOwn 0 1).trans Ent.freeze) ett))))
/-- what a cookie says -/
def ckB {μ : Type} (S : AS μ) (tag tsn : UInt32) : List UInt8 := be32 tag ++ be32 tsn ++ be32 S.tag ++ be32 S.first
def cookieB {μ : Type} (S : AS μ) (tag tsn : UInt32) : List UInt8 := ckB S tag tsn ++ sha.mac S.secret (ckB S tag tsn)
theorem cookieB_len {μ : Type} (S : AS μ) (tag tsn : UInt32) : (cookieB S tag tsn).length = 36 := by rw [cookieB, List.length_append, sha.mac_len]; rfl
theorem flat_len4 (l : List UInt32) : (l.flatMap be32).length = 4 * l.length := by
  induction l with
  | nil => rfl
  | cons x l ih => rw [List.flatMap_cons, List.length_append, ih]; simp [be32]; omega
theorem flat4 (l : List UInt32) (k : Nat) (x : UInt32) (h : l[k]? = some x) : (l.take k).flatMap be32 ++ be32 x = (l.take (k + 1)).flatMap be32 := by rw [List.take_add_one, h, List.flatMap_append]; simp
set_option maxHeartbeats 1000000 in
--REG (*rostrum/assoc.Assoc).cookie : _ _ ⟨a{d}, c{d}, rfl, rfl⟩ => (ac.cookie_fn _ _ _ {1} {2} (by assumption) _)
theorem cookie_fn (b : Nat) (p : AP) (S : AS Msg) (tag tsn : UInt32) (hs : S.secret.length ≤ 140737488351232) (L : List SA) :
    Fn Try.prog 49 [pt b 0, v32 tag, v32 tsn] (aB b p S :: aS p S :: L) (fun v L' => ∃ a c, v = .slice a 36 c ∧ L' = SA.owns 5 1 (.slice a 36 c) 36 ((cookieB S tag tsn).map v8) :: aB b p S :: aS p S :: L) := by
  refine Fn.of (N := 37) Try.func49 rfl rfl ?_
  intro Xh
  refine TC.seq ?_
  refine TC.region ?_
  refine TL.val rfl rfl rfl (Y.assign rfl rfl) ?_
  refine TL.nil ?_
  refine TQ.next ?_
  refine TC.seq ?_
  refine TC.region ?_
  refine TL.eff rfl rfl rfl (X.alloc rfl zc85) ?_
  rintro _ _ ⟨b7, rfl, rfl⟩
  refine TL.nil ?_
  refine TQ.to (wr.mk0 (b := b7)) ?_
  refine TQ.next ?_
  refine TC.seq ?_
  refine TC.seq ?_
  refine TC.draws 12 _ (by kernel_rfl) (by kernel_rfl) (fun _ h => h) ?_
  refine TA.take 0 rfl rfl rfl rfl (by kernel_rfl) (by kernel_rfl) (by kernel_rfl) rfl (by kernel_rfl) (by kernel_rfl) (fun _ _ _ h => h) (Y.move rfl rfl) ?_
  refine TA.take 1 rfl rfl rfl rfl (by kernel_rfl) (by kernel_rfl) (by kernel_rfl) rfl (by kernel_rfl) (by kernel_rfl) (fun _ _ _ h => h) (Y.move rfl rfl) ?_
  refine TA.take 2 rfl rfl rfl rfl (by kernel_rfl) (by kernel_rfl) (by kernel_rfl) rfl (by kernel_rfl) (by kernel_rfl) (fun _ _ _ h => h) (Y.move rfl rfl) ?_
  refine TA.take 3 rfl rfl rfl rfl (by kernel_rfl) (by kernel_rfl) (by kernel_rfl) rfl (by kernel_rfl) (by kernel_rfl) (fun _ _ _ h => h) (Y.nilCheck rfl rfl) ?_
  refine TA.take 4 rfl rfl rfl rfl (by kernel_rfl) (by kernel_rfl) (by kernel_rfl) rfl (by kernel_rfl) (by kernel_rfl) (fun _ _ _ h => h) (by first | exact Y.fieldAddrJ rfl fo68_0 rfl nqq | exact Y.fieldAddr rfl fo68_0 rfl nqq) ?_
  refine TA.take 5 rfl rfl rfl rfl (by kernel_rfl) (by kernel_rfl) (by kernel_rfl) rfl (by kernel_rfl) (by kernel_rfl) (fun _ _ _ h => h) (Y.load rfl sc22 rfl cel32) ?_
  refine TA.as (v32 S.tag) (by rfl) ?_
  refine TA.take 6 rfl rfl rfl rfl (by kernel_rfl) (by kernel_rfl) (by kernel_rfl) rfl (by kernel_rfl) (by kernel_rfl) (fun _ _ _ h => h) (Y.move rfl rfl) ?_
  refine TA.take 7 rfl rfl rfl rfl (by kernel_rfl) (by kernel_rfl) (by kernel_rfl) rfl (by kernel_rfl) (by kernel_rfl) (fun _ _ _ h => h) (Y.nilCheck rfl rfl) ?_
  refine TA.take 8 rfl rfl rfl rfl (by kernel_rfl) (by kernel_rfl) (by kernel_rfl) rfl (by kernel_rfl) (by kernel_rfl) (fun _ _ _ h => h) (by first | exact Y.fieldAddrJ rfl fo68_1 rfl nqq | exact Y.fieldAddr rfl fo68_1 rfl nqq) ?_
  refine TA.take 9 rfl rfl rfl rfl (by kernel_rfl) (by kernel_rfl) (by kernel_rfl) rfl (by kernel_rfl) (by kernel_rfl) (fun _ _ _ h => h) (Y.load rfl sc22 rfl cel32) ?_
  refine TA.as (v32 S.first) (by rfl) ?_
  refine TA.take 10 rfl rfl rfl rfl (by kernel_rfl) (by kernel_rfl) (by kernel_rfl) rfl (by kernel_rfl) (by kernel_rfl) (fun _ _ _ h => h) (Y.buildM rfl rfl Try.underlying100 sz22 zc100 rfl rfl rfl (by first | exact (by simp only [List.all_cons, List.all_nil, Value.oneCell', Bool.and_self]) | rfl)) ?_
  refine TA.as (.agg (([tag, tsn, S.tag, S.first] : List UInt32).map v32).toArray) (by rfl) ?_
  refine TA.take 11 rfl rfl rfl rfl (by kernel_rfl) (by kernel_rfl) (by kernel_rfl) rfl (by kernel_rfl) (by kernel_rfl) (fun _ _ _ h => h) (Y.move rfl rfl) ?_
  refine TA.done (by kernel_rfl) ?_
  refine TQ.next ?_
  refine TC.block ?_
  refine TC.loopF (ι := Nat) [] (fun k => k ≤ 4) (fun k => [(22, some (vN k))]) (fun k => [wr.W b7 ((([tag, tsn, S.tag, S.first] : List UInt32).take k).flatMap be32)]) (fun k => 4 - k) (0) (by omega) ⟨rfl, trivial⟩ (Pulls.cons pul Pulls.nil) ?_
  rintro k hk F' L' rfl hL'
  simp only [List.cons_append, List.nil_append] at hL'
  subst hL'
  refine TC.seq ?_
  refine TC.region ?_
  refine TL.val rfl rfl rfl (Y.bin rfl rfl rfl (br_ltN (n := 4))) ?_
  refine TL.nil ?_
  refine TQ.next ?_
  refine TC.seq ?_
  refine TC.cond rfl (fun c0 => ?_) (fun c0 => ?_)
  · try simp only [decide_eq_true_eq, decide_eq_false_iff_not, Bool.not_eq_true', Bool.not_eq_false', Bool.and_eq_true, Bool.or_eq_true, Nat.not_lt, Nat.not_le, beq_iff_eq, bne_iff_ne] at c0
    refine TC.skip ?_
    refine TQ.next ?_
    refine TC.seq ?_
    refine TC.block ?_
    refine TC.seq ?_
    obtain ⟨x, hx, -⟩ := getS (l := ([tag, tsn, S.tag, S.first] : List UInt32)) (i := k) (by show k < 4; omega)
    refine TC.region ?_
    refine TL.val rfl rfl rfl (Y.indexAgg rfl Try.underlying100 sc22 sz22 rfl rfl (by omega) (by first | exact getM (d := (0 : UInt32)) lnn | rfl)) ?_
    refine TL.as (v32 x) (by (rw [List.getD_eq_getElem?_getD, hx]; rfl)) ?_
    refine TL.val rfl rfl rfl (Y.assign rfl rfl) ?_
    refine TL.nil ?_
    refine TQ.next ?_
    refine TC.region ?_
    refine TL.val rfl rfl rfl (Y.move rfl rfl) ?_
    refine TL.eff rfl rfl rfl (X.call rfl Try.func45 (by kernel_rfl) rfl rfl (Fn.preE (by repeat first | (with_reducible apply Ent.refl) | (apply Ent.cons; case h => first | (with_reducible (repeat first | apply Pull.here | apply Pull.there); done) | (repeat first | apply Pull.here | apply Pull.there))) (wr.U32_fn b7 x _ (by rw [flat_len4, List.length_take]; show 4 * min k 4 ≤ _; omega) _))) ?_
    rintro _ _ ⟨rfl, rfl⟩
    rw [flat4 _ k x hx]
    refine TL.nil ?_
    refine TQ.block_normal ?_
    refine TQ.next ?_
    refine TC.region ?_
    refine TL.val rfl rfl rfl (Y.bin rfl rfl rfl (br_addN (n := 1) (by omega))) ?_
    refine TL.val rfl rfl rfl (Y.move rfl rfl) ?_
    refine TL.nil ?_
    refine TQ.loopF (k + 1) (by omega) (by omega) ⟨rfl, trivial⟩ (by (repeat first | apply Grow.refl | apply Grow.step | apply Grow.app)) ?_ ?_ ?_
    · kernel_rfl
    · rfl
    · simp only [List.cons_append, List.nil_append]
      exact ett
  · try simp only [decide_eq_true_eq, decide_eq_false_iff_not, Bool.not_eq_true', Bool.not_eq_false', Bool.and_eq_true, Bool.or_eq_true, Nat.not_lt, Nat.not_le, beq_iff_eq, bne_iff_ne] at c0
    obtain rfl : k = 4 := by omega
    rw [show (([tag, tsn, S.tag, S.first] : List UInt32).take 4).flatMap be32 = ckB S tag tsn by simp [ckB]]
    refine TC.exit ?_
    refine TQ.then_exit ?_
    refine TQ.then_exit ?_
    refine TQ.block_exit ?_
    refine TQ.next ?_
    refine TC.cutF (ι := Nat) [] (fun _ => True) (fun i => [(10, some (pt i 0))]) (fun i => [SA.blk i ((sha.mac S.secret (ckB S tag tsn)).map v8).toArray 101]) (Ao := []) Pulls.nil ?_ ?_
    · rintro L' hL'
      simp only [List.cons_append, List.nil_append] at hL'
      subst hL'
      refine TC.open pul ?_
      rintro ⟨wa, wc⟩
      refine TC.split pul ?_
      refine TC.draws 7 [aB b p S, SA.blk b7 #[.slice wa (ckB S tag tsn).length wc] 85] (by kernel_rfl) (by kernel_rfl) (by repeat first | exact holds_nil | refine holds_cons inn ?_) ?_
      refine TA.take 0 rfl rfl rfl rfl (by kernel_rfl) (by kernel_rfl) (by kernel_rfl) rfl (by kernel_rfl) (by kernel_rfl) (fun _ _ _ h => h) (Y.move rfl rfl) ?_
      refine TA.take 1 rfl rfl rfl rfl (by kernel_rfl) (by kernel_rfl) (by kernel_rfl) rfl (by kernel_rfl) (by kernel_rfl) (fun _ _ _ h => h) (Y.nilCheck rfl rfl) ?_
      refine TA.take 2 rfl rfl rfl rfl (by kernel_rfl) (by kernel_rfl) (by kernel_rfl) rfl (by kernel_rfl) (by kernel_rfl) (fun _ _ _ h => h) (by first | exact Y.fieldAddrJ rfl fo68_2 rfl nqq | exact Y.fieldAddr rfl fo68_2 rfl nqq) ?_
      refine TA.take 3 rfl rfl rfl rfl (by kernel_rfl) (by kernel_rfl) (by kernel_rfl) rfl (by kernel_rfl) (by kernel_rfl) (fun _ _ _ h => h) (Y.load rfl sc23 rfl celD) ?_
      refine TA.as (.slice p.sa S.secret.length p.sc) (by rfl) ?_
      refine TA.take 4 rfl rfl rfl rfl (by kernel_rfl) (by kernel_rfl) (by kernel_rfl) rfl (by kernel_rfl) (by kernel_rfl) (fun _ _ _ h => h) (Y.load rfl sc85 rfl celD) ?_
      refine TA.any (rs := [5, 6]) (by kernel_rfl) (by simp) ?_
      simp only [List.forall_mem_cons, List.not_mem_nil, false_implies, implies_true, and_true]
      refine ⟨?_, ?_⟩
      · skip
        refine TAo.eff rfl rfl rfl rfl (X.call rfl Try.func54 (by kernel_rfl) rfl rfl (Fn.preE (by repeat first | (with_reducible apply Ent.refl) | (apply Ent.cons; case h => first | (with_reducible (repeat first | apply Pull.here | apply Pull.there); done) | (repeat first | apply Pull.here | apply Pull.there))) (macO_fn _ _ _ S.secret rfl _ _ _ (ckB S tag tsn) rfl hs (by show 16 ≤ _; omega) _))) ?_
        rintro _ _ ⟨rfl, rfl⟩
        refine ⟨(Or.inr (by repeat first | exact holds_nil | refine holds_cons inn ?_)), ?_⟩
        refine TA.one 6 (by kernel_rfl) rfl rfl rfl rfl (X.alloc rfl zc101) ?_
        rintro _ _ ⟨b10, rfl, rfl⟩
        refine ⟨(Or.inr (by repeat first | exact holds_nil | refine holds_cons inn ?_)), ?_⟩
        refine TA.one0 7 (by kernel_rfl) rfl rfl rfl (X.storeAll rfl (by kernel_rfl) (by rw [List.size_toArray, List.length_map, sha.mac_len]) rfl rfl (fun v hv => one8 v (by simpa using hv)) pul (by simp [sha.mac_len])) ?_
        rintro _ _ rfl
        refine ⟨(Or.inl (by kernel_rfl)), ?_⟩
        refine TA.done (by kernel_rfl) ?_
        refine TQ.to (wr.put (b := b7) pul (by rfl) pul (l := ckB S tag tsn) rfl rfl Ent.refl) ?_
        refine TQ.meetF (b10) (trivial) ⟨rfl, trivial⟩ (by (repeat first | apply Grow.refl | apply Grow.step | apply Grow.app)) ?_ ?_
        · kernel_rfl
        · simp only [List.cons_append, List.nil_append]
          exact ett
      · skip
        refine TAo.eff rfl rfl rfl rfl (X.alloc rfl zc101) ?_
        rintro _ _ ⟨b10, rfl, rfl⟩
        refine ⟨(Or.inr (by repeat first | exact holds_nil | refine holds_cons inn ?_)), ?_⟩
        refine TA.one 5 (by kernel_rfl) rfl rfl rfl rfl (X.call rfl Try.func54 (by kernel_rfl) rfl rfl (Fn.preE (by repeat first | (with_reducible apply Ent.refl) | (apply Ent.cons; case h => first | (with_reducible (repeat first | apply Pull.here | apply Pull.there); done) | (repeat first | apply Pull.here | apply Pull.there))) (macO_fn _ _ _ S.secret rfl _ _ _ (ckB S tag tsn) rfl hs (by show 16 ≤ _; omega) _))) ?_
        rintro _ _ ⟨rfl, rfl⟩
        refine ⟨(Or.inr (by repeat first | exact holds_nil | refine holds_cons inn ?_)), ?_⟩
        refine TA.one0 7 (by kernel_rfl) rfl rfl rfl (X.storeAll rfl (by kernel_rfl) (by rw [List.size_toArray, List.length_map, sha.mac_len]) rfl rfl (fun v hv => one8 v (by simpa using hv)) pul (by simp [sha.mac_len])) ?_
        rintro _ _ rfl
        refine ⟨(Or.inl (by kernel_rfl)), ?_⟩
        refine TA.done (by kernel_rfl) ?_
        refine TQ.to (wr.put (b := b7) pul (by rfl) pul (l := ckB S tag tsn) rfl rfl Ent.refl) ?_
        refine TQ.meetF (b10) (trivial) ⟨rfl, trivial⟩ (by (repeat first | apply Grow.refl | apply Grow.step | apply Grow.app)) ?_ ?_
        · kernel_rfl
        · simp only [List.cons_append, List.nil_append]
          exact ett
    · rintro b10 - F' L' rfl hL'
      simp only [List.cons_append, List.nil_append] at hL'
      subst hL'
      refine TC.seq ?_
      refine TC.region ?_
      refine TL.val rfl rfl rfl (Y.sliceArr rfl Try.underlying101 sz5 rfl) ?_
      refine TL.eff rfl rfl rfl (X.call rfl Try.func48 (by kernel_rfl) rfl rfl (Fn.preE (by repeat first | (with_reducible apply Ent.refl) | (apply Ent.cons; case h => first | (with_reducible (repeat first | apply Pull.here | apply Pull.there); done) | (repeat first | apply Pull.here | apply Pull.there))) (wr.Bytes_fn (SA.blk b10 ((sha.mac S.secret (ckB S tag tsn)).map v8).toArray 101) b7 20 (some ⟨b10, 0, none⟩) 20 _ (sha.mac S.secret (ckB S tag tsn)) (readsBlk (sha.mac_len _ _) (by decide)) (sha.mac_len _ _) (by show 16 + 20 ≤ _; omega) _))) ?_
      rintro _ _ ⟨rfl, rfl⟩
      rw [show ckB S tag tsn ++ sha.mac S.secret (ckB S tag tsn) = cookieB S tag tsn from rfl]
      refine TL.nil ?_
      refine TQ.next ?_
      refine TC.seq ?_
      refine TC.open pul ?_
      rintro ⟨wa2, wc2⟩
      refine TC.split pul ?_
      rw [cookieB_len]
      refine TC.region ?_
      refine TL.val rfl rfl rfl (Y.load rfl sc85 rfl celD) ?_
      refine TL.val rfl rfl rfl (Y.assign rfl rfl) ?_
      refine TL.nil ?_
      refine TQ.next ?_
      refine TC.ret ?_
      refine TQ.retE (res1 rfl rfl) (⟨_, _, rfl, rfl⟩) ?_
      exact ett
end ac
end Go.Proofs.Ytomplpdeeomehaa
