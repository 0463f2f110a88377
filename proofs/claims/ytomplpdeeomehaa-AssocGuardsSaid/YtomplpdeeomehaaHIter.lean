/- Ranges over functions; closures; results of whatever make. No program is named. -/
import Derived.Test.YtomplpdeeomehaaHMore
namespace Go.Proofs.Ytomplpdeeomehaa
set_option linter.unusedVariables false
set_option linter.unusedSimpArgs false
open Go.RowKit
section
variable {κ : Ctx} {P : Program} {N : Nat} {F : FE} {L L' L0 L1 As : List SA} {A B : SA} {Q : Exit → Act → World → Prop} {o : Oper} {w : World}
theorem Pull.back (h : Pull A L L') : Ent (A :: L') L := by
  induction h with
  | here => exact Ent.refl
  | there _ ih => exact Ent.swap.trans (ih.under _)
theorem Pulls.back {L2 : List SA} (h : Pulls As L L2) : Ent (As ++ L2) L := by
  induction h with
  | nil => exact Ent.refl
  | cons h1 _ ih => exact (ih.under _).trans h1.back
theorem Ent.empE : Ent L (SA.emp :: L) := fun w O R h => ⟨O, R, ⟨fun _ => False, fun _ => False, O, R, trivial, h, by simp, by simp, by simp, by simp⟩, fun _ h => h, fun _ h => .inr h⟩
theorem Ent.starE : Ent (SA.star A B :: L) (A :: B :: L) := Ent.of_le SA.Le.assoc
theorem Ent.unstarE : Ent (A :: B :: L) (SA.star A B :: L) := Ent.of_le SA.Le.assoc'
theorem Ent.unall : ∀ L2 : List SA, Ent (SA.all L2 :: L) (L2 ++ L)
  | [] => Ent.drop
  | A :: L2 => Ent.starE.trans ((Ent.unall L2).under A)
theorem Ent.doall : ∀ L2 : List SA, Ent (L2 ++ L) (SA.all L2 :: L)
  | [] => Ent.empE
  | A :: L2 => ((Ent.doall L2).under A).trans Ent.unstarE
theorem Ent.exE {α : Type} {f : α → SA} (x : α) : Ent (f x :: L) (SA.ex f :: L) := Ent.imp fun w O R h => ⟨O, R, ⟨x, h⟩, fun _ h => h, fun _ h => .inr h⟩
theorem Ent.pureE {φ : Prop} (h : φ) : Ent L (SA.pure φ :: L) := fun w O R hL => ⟨O, R, ⟨fun _ => False, fun _ => False, O, R, h, hL, by simp, by simp, by simp, by simp⟩, fun _ h => h, fun _ h => .inr h⟩
theorem bag_outE : ∀ (L0 : List SA) {X : SA} {L : List SA}, Ent (bag X L0 :: L) (X :: (L ++ L0))
  | [], X, L => by rw [List.append_nil]; exact Ent.refl
  | B :: L0, X, L => (bag_outE L0).trans (Ent.starE.trans ((push_mid L).under X))

/-- yield's rounds: out of S i comes S (i + 1), or, if it is left, Sx -/
def YS (P : Program) (l n : Nat) (arg : Nat → List Value) (S : Nat → SA) (Sx : SA) : Prop :=
  ∀ i, i < n → ∀ Z w, St [Z, S i] w → YieldAt Fence.wide 0 P l (arg i).toArray w fun e w' => (e = .returned (.bool true) ∧ St [Z, S (i + 1)] w') ∨ (e = .returned (.bool false) ∧ St [Z, Sx] w')
def yieldV (l : Nat) : Value := .func (.yield l) #[] #[]
/-- AN ITERATOR's CONTRACT: n rounds, handed arg 0 .. arg (n - 1); it needs L, at its beginning alone. -/
def Iter (P : Program) (gf : FuncId) (lb : List Value) (n : Nat) (arg : Nat → List Value) (L : List SA) : Prop :=
  ∀ (l : Nat) (S : Nat → SA) (Sx : SA), YS P l n arg S Sx → ∀ X, Ent (X :: L) [S 0] → Fn P gf (yieldV l :: lb) (X :: L) fun _ L' => L' = [S n] ∨ L' = [Sx]
theorem Iter.pre {gf : FuncId} {lb : List Value} {n : Nat} {arg : Nat → List Value} (h : Iter P gf lb n arg L') (hE : ∀ X, Ent (X :: L) (X :: L')) (hB : ∀ X, Ent (X :: L') (X :: L)) : Iter P gf lb n arg L :=
  fun l S Sx hY X hX => (h l S Sx hY X ((hB X).trans hX)).pre (hE X)
theorem roundIn_any {r : Option Nat} {n m l : Nat} {f : FuncId} {tmps : Array Value} {assign body : Code} {R : Ending → World → Prop} (h : RoundIn Fence.wide n P l f tmps assign body w R) : RoundIn (fen r) m P l f tmps assign body w R :=
  ⟨trivial, fun c cs _ => h.2 c cs (room_wide _)⟩
/-- a call of yield -/
theorem X.yield {l n i : Nat} {arg : Nat → List Value} {S : Nat → SA} {Sx : SA} {f : Operand} {args : List Operand} {at' : Array TypeId} (hY : YS P l n arg S Sx) (ho : o.op = .call { callee := .value f, args := args.toArray, argTypes := at' })
    (hf : evO F f = some (yieldV l)) (hv : evA F args = some (arg i)) (hi : i < n) (hp : Pull (S i) L L0) :
    EffI P N o F L (fun v L' => (v = .bool true ∧ L' = S (i + 1) :: L0) ∨ (v = .bool false ∧ L' = Sx :: L0)) := by
  intro r Y a w ha hw K Q hK
  have hst : St (bag Y L0 :: [S i]) w := bag_in L0 (((Pull.there (B := Y) hp).st hw).up1)
  obtain ⟨fn, tmps, assign, body, hy, hR⟩ := hY i hi _ w hst
  have hev := ha.evalA hv
  have hef := ha.eval hf
  have hrun : (execOp a.eval o).run P w = .ok (.round l fn tmps assign body) w := by
    unfold execOp
    rw [ho]
    show ((resolve a.eval { callee := .value f, args := args.toArray, argTypes := at' } o.type).bind fun d => invoke d.target d.args).run P w = _
    have : args.toArray.map a.eval = (arg i).toArray := by simp [hev]
    simp only [resolve, hef, yieldV, this]
    show ((Deferred.ofValue (.func (.yield l) #[] #[]) (arg i).toArray).bind fun d => invoke d.target d.args).run P w = _
    simp only [Deferred.ofValue]
    show (invoke (.fn (.yield l) #[]) (#[] ++ (arg i).toArray)).run P w = _
    simp only [invoke, Array.empty_append, Array.append_empty]
    exact hy
  refine ⟨fun _ _ => trivial, ?_⟩
  rw [show o.semAt (fen r).round a.eval = execOp a.eval o from Oper.semAt_plain (fen r) a.eval o (by rw [ho]; intro c h; cases h), hrun]
  refine ⟨fun h => by simp [fen, Fence.wide] at h, RoundIn.mono (roundIn_any hR) ?_⟩
  rintro e w' (⟨rfl, h⟩ | ⟨rfl, h⟩)
  · exact hK _ _ w' (.inl ⟨rfl, rfl⟩) (bag_out (L := [S (i + 1)]) L0 h)
  · exact hK _ _ w' (.inr ⟨rfl, rfl⟩) (bag_out (L := [Sx]) L0 h)

/-- the slots of a round -/
def psF : List Nat → List Value → FE
  | t :: ts, v :: vs => psF ts vs ++ [(t, some v)]
  | _, _ => []
theorem Env.psF {N : Nat} : ∀ (ps : List Nat) (vs : List Value) {F : FE} {tmps : Array Value}, Env N F { tmps, defers := [] } → ps.all (fun t => Nat.blt t N) = true →
    Env N (psF ps vs ++ F) { tmps := (ps.zip vs).foldl (fun t (p, v) => t.setIfInBounds p v) tmps, defers := [] }
  | [], _, F, tmps, h, _ => by simpa [Go.Proofs.Ytomplpdeeomehaa.psF] using h
  | t :: ts, [], F, tmps, h, _ => by simpa [Go.Proofs.Ytomplpdeeomehaa.psF] using h
  | t :: ts, v :: vs, F, tmps, h, hb => by
    simp only [List.all_cons, Bool.and_eq_true] at hb
    have := Env.psF ts vs (h.put hb.1 v) hb.2
    simpa [Go.Proofs.Ytomplpdeeomehaa.psF, Act.put] using this
/-- 'beginRound' goes through; on with the body -/
def BeginK (P : Program) (l : Nat) (body : Code) (RP : Exit → Act → World → Prop) (a : Act) (w : World) : Prop := ∃ w2, (Instr.beginRound l).run P w = .ok () w2 ∧ body.wpIn (fen (some l)) 0 P RP a w2
abbrev cxR (l : Nat) (r : Loop) (Z : SA) : Ctx := ⟨some l, SA.star (SA.obj l (.loop { r with state := .ready })) Z⟩
abbrev cxB (l : Nat) (r : Loop) (Z : SA) : Ctx := ⟨some l, SA.star (SA.obj l (.loop { r with state := .busy })) Z⟩
theorem TQ.begin {l : Nat} {r : Loop} {Z : SA} {body : Code} {RP Q' : Exit → Act → World → Prop} (h : TC (cxB l r Z) P N body F L RP) : TQ (cxR l r Z) N .normal F L (Exit.then (BeginK P l body RP) Q') := fun ds a w ha hd hw => by
  have h1 : St (SA.obj l (.loop { r with state := .ready }) :: Z :: SA.marks ds :: L) w := St.star (St.star hw)
  refine ⟨_, run_beginRound h1.isObj rfl, h ds a _ ha hd ?_⟩
  exact St.unstar (St.unstar (h1.putObj _))
/-- how a round is left -/
def RdQ {ι ιx : Type} (l : Nat) (r : Loop) (Z : SA) (I : ι → Prop) (A : ι → List SA) (Ix : ιx → Prop) (cx : ιx → Code) (Ax : ιx → List SA) (L0 : List SA) : Exit → Act → World → Prop
  | .normal, _, w => ∃ j, I j ∧ St (SA.star (SA.obj l (.loop { r with state := .busy })) Z :: (A j ++ L0)) w
  | .ret, _, w => ∃ x, Ix x ∧ cx x = .ret ∧ St (SA.star (SA.obj l (.loop { r with state := .busy })) Z :: (Ax x ++ L0)) w
  | .exit id, _, w => ∃ x, Ix x ∧ cx x = .exit id ∧ St (SA.star (SA.obj l (.loop { r with state := .busy })) Z :: (Ax x ++ L0)) w
  | _, _, _ => False
section
variable {ι ιx : Type} {l : Nat} {r : Loop} {Z : SA} {I : ι → Prop} {A : ι → List SA} {Ix : ιx → Prop} {cx : ιx → Code} {Ax : ιx → List SA} {ds : List Nat}
theorem drop_marks {X : SA} (hE : Ent L L') (h : St (SA.hid X ds :: L) w) : St (X :: L') w := hE.hid (St.star h).up1.tl
theorem TQ.rd_next (j : ι) (hj : I j) (hE : Ent L (A j ++ L0)) : TQ (cxB l r Z) N .normal F L (RdQ l r Z I A Ix cx Ax L0) := fun ds a w ha hd hw => ⟨j, hj, drop_marks hE hw⟩
theorem TQ.rd_ret (x : ιx) (hx : Ix x) (hc : cx x = .ret) (hE : Ent L (Ax x ++ L0)) : TQ (cxB l r Z) N .ret F L (RdQ l r Z I A Ix cx Ax L0) := fun ds a w ha hd hw => ⟨x, hx, hc, drop_marks hE hw⟩
theorem TQ.rd_exit {id : Nat} (x : ιx) (hx : Ix x) (hc : cx x = .exit id) (hE : Ent L (Ax x ++ L0)) : TQ (cxB l r Z) N (.exit id) F L (RdQ l r Z I A Ix cx Ax L0) := fun ds a w ha hd hw => ⟨x, hx, hc, drop_marks hE hw⟩
end
/-- THE LOOP -/
theorem TC.rangeF {ι ιx : Type} {X : SA} {g : Operand} {ps : List Tmp} {assign body : Code} {gf : FuncId} {gfn : Func} {lb : List Value} {n : Nat} {arg : Nat → List Value} {Lit : List SA}
    (hgf : P.funcs[gf]? = some gfn) (hnm : (gfn.name == "runtime.NumGoroutine") = false) (hbody : gfn.body.isNone = false) (hg : evO F g = some (.func (.func gf) #[] lb.toArray)) (hpN : ps.all (fun t => Nat.blt t N) = true)
    (hit : Iter P gf lb n arg Lit) (hps : ∀ i, (arg i).length = ps.length)
    (I : Nat → ι → Prop) (A : ι → List SA) (L0 : List SA) (Ix : ιx → Prop) (cx : ιx → Code) (Ax : ιx → List SA) (i0 : ι) (h0 : I 0 i0) (hL1 : Pulls Lit L L1) (hL : Ent L (A i0 ++ L0))
    (round : ∀ (i : Nat) (j : ι), i < n → I i j → ∀ (l : Nat) (r : Loop) (Z : SA) F' L', F' = psF ps (arg i) ++ F → L' = A j ++ L0 →
      TC (cxR l r Z) P N assign F' L' (Exit.then (BeginK P l body (RdQ l r Z (I (i + 1)) A Ix cx Ax L0)) (fun _ _ _ => False)))
    (done : ∀ j, I n j → ∀ L', L' = A j ++ L0 → TQ ⟨none, X⟩ N .normal F L' Q)
    (stop : ∀ x, Ix x → ∀ L', L' = Ax x ++ L0 → TC ⟨none, X⟩ P N (cx x) F L' Q) : TC ⟨none, X⟩ P N (.rangeFunc g ps.toArray assign body) F L Q := by
  intro ds a w ha hd hw
  refine wpIn_rangeFunc ?_
  intro fn hfn
  obtain ⟨rec, hrec⟩ : ∃ rec : Loop, rec = { state := .ready, pending := none, fn, tmps := a.tmps, params := ps.toArray, assign, body, defers := w.heap.size } := ⟨_, rfl⟩
  have h1 : St (SA.obj (w.heap.size + 1) (.loop rec) :: SA.obj w.heap.size (.deferred (some [])) :: SA.hid X ds :: L) ((w.alloc (.deferred (some []))).alloc (.loop rec)) := by
    have := (St.newObj hw (.deferred (some []))).newObj (.loop rec)
    rwa [World.size_alloc] at this
  generalize hD : w.heap.size = D at h1
  obtain ⟨S, hS⟩ : ∃ S : Nat → SA, S = fun i => SA.star (SA.obj (D + 1) (.loop rec)) (SA.star (SA.obj D (.deferred (some []))) (SA.star (SA.hid X ds) (SA.ex fun j => SA.star (SA.pure (I i j)) (SA.all (A j ++ L0))))) := ⟨_, rfl⟩
  obtain ⟨Sx, hSx⟩ : ∃ Sx : SA, Sx = SA.ex fun x => SA.star (SA.pure (Ix x)) (SA.star (SA.obj (D + 1) (.loop { rec with state := .done, pending := some (cx x) })) (SA.star (SA.obj D (.deferred (some []))) (SA.star (SA.hid X ds) (SA.all (Ax x ++ L0))))) := ⟨_, rfl⟩
  have opens : ∀ (i : Nat) {M : List SA} {w : World}, St (S i :: M) w → ∃ j, I i j ∧ St (SA.obj (D + 1) (.loop rec) :: SA.obj D (.deferred (some [])) :: SA.hid X ds :: (A j ++ L0 ++ M)) w := by
    intro i M w h
    rw [hS] at h
    have h := St.star h
    have h := (Ent.starE.under _).st h
    have h := ((Ent.starE.under _).under _).st h
    have h := h.up3
    obtain ⟨j, h⟩ := h.ex
    obtain ⟨hj, h⟩ := (St.star h).pure
    refine ⟨j, hj, ?_⟩
    have h := (Ent.unall (A j ++ L0)).st (h.up1.up2.up3.up3 |> fun _ => h)
    have : Ent ((A j ++ L0) ++ (SA.obj (D + 1) (.loop rec) :: SA.obj D (.deferred (some [])) :: SA.hid X ds :: M)) (SA.obj (D + 1) (.loop rec) :: SA.obj D (.deferred (some [])) :: SA.hid X ds :: (A j ++ L0 ++ M)) :=
      Ent.cons (pull_mid _) (Ent.cons (pull_mid _) (Ent.cons (pull_mid _) Ent.refl))
    exact this.st h
  have shuts : ∀ (i : Nat) (j : ι), I i j → ∀ {M : List SA}, Ent (SA.obj (D + 1) (.loop rec) :: SA.obj D (.deferred (some [])) :: SA.hid X ds :: (A j ++ L0 ++ M)) (S i :: M) := by
    intro i j hj M
    rw [hS]
    refine Ent.trans ?_ Ent.unstarE
    refine Ent.under _ (Ent.trans ?_ Ent.unstarE)
    refine Ent.under _ (Ent.trans ?_ Ent.unstarE)
    refine Ent.under _ ?_
    exact (Ent.doall _).trans ((Ent.pureE hj).trans (Ent.unstarE.trans (Ent.exE (f := fun j => SA.star (SA.pure (I i j)) (SA.all (A j ++ L0))) j)))
  have shutx : ∀ (x : ιx), Ix x → ∀ {M : List SA}, Ent (SA.obj (D + 1) (.loop { rec with state := .done, pending := some (cx x) }) :: SA.obj D (.deferred (some [])) :: SA.hid X ds :: (Ax x ++ L0 ++ M)) (Sx :: M) := by
    intro x hx M
    rw [hSx]
    refine Ent.trans ?_ (Ent.exE (f := fun x => SA.star (SA.pure (Ix x)) (SA.star (SA.obj (D + 1) (.loop { rec with state := .done, pending := some (cx x) })) (SA.star (SA.obj D (.deferred (some []))) (SA.star (SA.hid X ds) (SA.all (Ax x ++ L0)))))) x)
    refine Ent.trans (Ent.trans ?_ (Ent.pureE hx)) Ent.unstarE
    refine Ent.trans ?_ Ent.unstarE
    refine Ent.under _ (Ent.trans ?_ Ent.unstarE)
    refine Ent.under _ (Ent.trans ?_ Ent.unstarE)
    refine Ent.under _ ?_
    exact Ent.doall _
  have hYS : YS P (D + 1) n arg S Sx := by
    intro i hi Z W hW
    obtain ⟨j, hj, h⟩ := opens i hW.up1
    have hheap := h.isObj
    refine ⟨fn, _, assign, body, by have := run_yield (P := P) (args := (arg i).toArray) hheap (by rw [hrec]; simp [hps]); rw [hrec] at this; exact this, ?_⟩
    refine roundIn_any (roundIn_of_wpIn (F := Fence.wide) (n := 0) hfn ?_)
    have hst : St (SA.hid (SA.star (SA.obj (D + 1) (.loop { rec with state := .ready })) (SA.star Z (SA.star (SA.obj D (.deferred (some []))) (SA.hid X ds)))) [] :: (A j ++ L0)) W := by
      have e : ({ rec with state := .ready } : Loop) = rec := by rw [hrec]
      rw [e]
      have : Ent (SA.obj (D + 1) (.loop rec) :: SA.obj D (.deferred (some [])) :: SA.hid X ds :: (A j ++ L0 ++ [Z])) (SA.obj (D + 1) (.loop rec) :: Z :: SA.obj D (.deferred (some [])) :: SA.hid X ds :: (A j ++ L0)) := by
        refine Ent.under _ ?_
        refine Ent.cons (Pull.there (Pull.there (pull_mid (A j ++ L0)))) ?_
        rw [List.append_nil]; exact Ent.refl
      have h := this.st h
      exact St.unstar (((Ent.empE).under _).st (St.unstar (((Ent.unstarE).under _).st ((((Ent.unstarE).under _).under _).st h))))
    have hr := round i j hi hj (D + 1) rec (SA.star Z (SA.star (SA.obj D (.deferred (some []))) (SA.hid X ds))) _ _ rfl rfl [] _ W (Env.psF ps (arg i) (tmps := a.tmps) ⟨ha.get, ha.size⟩ hpN) rfl hst
    rw [show (ps.toArray.zip (arg i).toArray).foldl (fun t (p, v) => t.setIfInBounds p v) a.tmps = (ps.zip (arg i)).foldl (fun t (p, v) => t.setIfInBounds p v) a.tmps by simp]
    refine wpIn_mono hr ?_
    rintro e a' w' hq
    cases e with
    | ret => exact hq
    | exit _ => exact hq
    | goto _ => exact hq
    | panic _ => exact hq
    | outgrown => exact hq
    | normal =>
      obtain ⟨w2, hb, hq⟩ := hq
      refine ⟨w2, hb, wpIn_mono hq ?_⟩
      rintro e a'' w'' hq
      have fin : ∀ (jump : Option Code) {M : List SA}, St (SA.star (SA.obj (D + 1) (.loop { rec with state := .busy })) (SA.star Z (SA.star (SA.obj D (.deferred (some []))) (SA.hid X ds))) :: M) w'' →
          ∃ w3, (Instr.endRound (D + 1) jump).run P w'' = .ok (.bool jump.isNone) w3 ∧ St (Z :: SA.obj (D + 1) (.loop { rec with state := if jump.isNone then .ready else .done, pending := jump }) :: SA.obj D (.deferred (some [])) :: SA.hid X ds :: M) w3 := by
        intro jump M h
        have h := St.star h
        refine ⟨_, run_endRound jump h.isObj, ?_⟩
        have h := h.putObj (.loop { rec with state := if jump.isNone then .ready else .done, pending := jump })
        exact ((((Ent.starE).under _).under _).st (((Ent.starE).under _).st h)).up1
      cases e with
      | normal =>
        obtain ⟨j', hj', h⟩ := hq
        obtain ⟨w3, hr, h⟩ := fin none h
        refine ⟨_, w3, hr, .inl ⟨rfl, ?_⟩⟩
        have e : ({ rec with state := if (none : Option Code).isNone then .ready else .done, pending := none } : Loop) = rec := by rw [hrec]; rfl
        rw [e] at h
        refine (Ent.under _ ?_).st h
        have := shuts (i + 1) j' hj' (M := [])
        rw [List.append_nil] at this
        exact this
      | ret =>
        obtain ⟨x, hx, hc, h⟩ := hq
        obtain ⟨w3, hr, h⟩ := fin (some .ret) h
        refine ⟨_, w3, hr, .inr ⟨rfl, (Ent.under _ ?_).st h⟩⟩
        have := shutx x hx (M := [])
        rw [List.append_nil, hc] at this
        exact this
      | exit id =>
        obtain ⟨x, hx, hc, h⟩ := hq
        obtain ⟨w3, hr, h⟩ := fin (some (.exit id)) h
        refine ⟨_, w3, hr, .inr ⟨rfl, (Ent.under _ ?_).st h⟩⟩
        have := shutx x hx (M := [])
        rw [List.append_nil, hc] at this
        exact this
      | goto _ => exact hq.elim
      | panic _ => exact hq.elim
      | outgrown => exact hq.elim
  have h2 : St (SA.emp :: bag (SA.star (SA.obj (D + 1) (.loop rec)) (SA.star (SA.obj D (.deferred (some []))) (SA.hid X ds))) L1 :: Lit) ((w.alloc (.deferred (some []))).alloc (.loop rec)) :=
    St.emp (bag_in L1 ((hL1.ent.under _).st (St.unstar (((Ent.unstarE).under _).st h1))))
  have hE0 : Ent (bag (SA.star (SA.obj (D + 1) (.loop rec)) (SA.star (SA.obj D (.deferred (some []))) (SA.hid X ds))) L1 :: Lit) [S 0] := by
    refine (bag_outE L1).trans ((hL1.back.under _).trans (Ent.starE.trans ((Ent.starE.under _).trans ?_)))
    have := shuts 0 i0 h0 (M := [])
    rw [List.append_nil] at this
    exact Ent.trans (Ent.under _ (Ent.under _ (Ent.under _ hL))) this
  have hcall := hit (D + 1) S Sx hYS _ hE0 SA.emp _ h2
  refine ⟨D + 1, [mkD D], (w.alloc (.deferred (some []))).alloc (.loop rec), { target := .fn (.func gf) lb.toArray, args := #[yieldV (D + 1)] }, (w.alloc (.deferred (some []))).alloc (.loop rec), gf, (yieldV (D + 1) :: lb).toArray,
    (w.alloc (.deferred (some []))).alloc (.loop rec), ?_, ?_, fun _ _ => trivial, ?_, fun h => by simp [fen, Fence.wide] at h, ?_⟩
  · rw [hrec, ← hD]; exact run_enterLoop_outer _ _ _ _ _
  · have hge := ha.eval hg
    have e : (#[.const (.func (.yield (D + 1)) #[] #[])] : Array Operand).map a.eval = #[yieldV (D + 1)] := by simp [Act.eval, yieldV]
    simp only [resolve, hge, rangeCall, e]
    show (Deferred.ofValue (.func (.func gf) #[] lb.toArray) #[yieldV (D + 1)]).run P _ = _
    simp [Deferred.ofValue]
  · show (callFunc gf (#[yieldV (D + 1)] ++ lb.toArray)).run P _ = _
    have e : #[yieldV (D + 1)] ++ lb.toArray = (yieldV (D + 1) :: lb).toArray := by simp
    rw [e]
    unfold callFunc
    have hn' : ¬ gfn.name = "runtime.NumGoroutine" := by simpa using hnm
    have hb' : ¬ gfn.body = none := by intro h; simp [h] at hbody
    simp [hgf, hn', hb', go_sem]
  · refine calls_in none _ (hcall.mono ?_)
    rintro e w3 ⟨v, L', rfl, hL', h⟩
    have fin : ∀ (r2 : Loop) {M : List SA}, r2.state ≠ .busy → St (SA.obj (D + 1) (.loop r2) :: SA.obj D (.deferred (some [])) :: SA.hid X ds :: M) w3 →
        ∃ w4, (Instr.endLoop (D + 1)).run P w3 = .ok r2.pending w4 ∧ St (SA.hid X (D :: ds) :: M) w4 := by
      intro r2 M hb h
      refine ⟨_, run_endLoop h.isObj hb, ?_⟩
      have h := (h.putObj (.loop { r2 with state := .exhausted })).tl
      have h := ((Ent.starE).under _).st h
      exact St.unstar ((Ent.unstarE.under _).st h.up1)
    rcases hL' with rfl | rfl
    · obtain ⟨j, hj, h⟩ := opens n (M := []) h.tl
      obtain ⟨w4, he, h⟩ := fin rec (by rw [hrec]; simp) h
      refine ⟨none, w4, by rw [he, hrec], ?_⟩
      rw [List.append_nil] at h
      exact done j hj _ rfl (D :: ds) _ w4 ⟨ha.get, ha.size⟩ (by simp [hd]) h
    · have h := h.tl
      rw [hSx] at h
      obtain ⟨x, h⟩ := h.ex
      obtain ⟨hx, h⟩ := (St.star h).pure
      have h := St.star h
      have h := (Ent.starE.under _).st h
      have h := ((Ent.starE.under _).under _).st h
      have h := (((Ent.unall (Ax x ++ L0)).under _).under _ |>.under _).st h
      obtain ⟨w4, he, h⟩ := fin _ (by simp) h
      refine ⟨some (cx x), w4, he, ?_⟩
      rw [List.append_nil] at h
      exact stop x hx _ rfl (D :: ds) _ w4 ⟨ha.get, ha.size⟩ (by simp [hd]) h

/-! ### closures -/
theorem Y.makeFunc {fn : Go.Fn} {first captured : List Operand} {fs cs : List Value} (ho : o.op = .makeFunc fn first.toArray captured.toArray) (hf : evA F first = some fs) (hc : evA F captured = some cs) : Yld P N o F As (.func fn fs.toArray cs.toArray) := fun a w ha _ => by
  unfold execOp; rw [ho]
  have h1 := ha.evalA hf
  have h2 := ha.evalA hc
  simp [Instr.makeFunc, h1, h2, go_sem]
theorem X.callDyn {f : FuncId} {fn : Func} {callee : Operand} {args : List Operand} {at' : Array TypeId} {vs fs cs : List Value} {R : Value → List SA → Prop} (ho : o.op = .call { callee := .value callee, args := args.toArray, argTypes := at' })
    (hcal : evO F callee = some (.func (.func f) fs.toArray cs.toArray)) (hf : P.funcs[f]? = some fn) (hn : (fn.name == "runtime.NumGoroutine") = false) (hb : fn.body.isNone = false) (hv : evA F args = some vs) (h : Go.Proofs.Ytomplpdeeomehaa.Fn P f (fs ++ vs ++ cs) L R) : Eff P N o F L R := by
  refine ⟨by rw [ho]; simp, fun Y a w ha hw K Q hK => ?_⟩
  unfold Oper.wp execOp; rw [ho]
  have e := ha.evalA hv
  have ec := ha.eval hcal
  have hc : ((resolve a.eval { callee := .value callee, args := args.toArray, argTypes := at' } o.type).bind fun d => invoke d.target d.args).run P w = .ok (.enter f (fs ++ vs ++ cs).toArray) w := by
    have e' : args.toArray.map a.eval = vs.toArray := by simp [e]
    simp only [resolve, ec, e']
    show Sem.run P (callFunc f (fs.toArray ++ vs.toArray ++ cs.toArray)) w = _
    rw [show fs.toArray ++ vs.toArray ++ cs.toArray = (fs ++ vs ++ cs).toArray by simp]
    unfold callFunc
    have hn' : ¬ fn.name = "runtime.NumGoroutine" := by simpa using hn
    have hb' : ¬ fn.body = none := by intro h; simp [h] at hb
    simp [hf, hn', hb', go_sem]
  have := h Y w hw
  show Oper.upon P o a K Q (((resolve a.eval _ o.type).bind fun d => invoke d.target d.args).run P w)
  rw [hc, Oper.upon_enter]
  refine this.mono fun e w' ⟨v, L', he, hR, hw'⟩ => ?_
  subst he
  exact hK v L' w' hR hw'
/-- a call whose contract names just what it needs -/
theorem X.callF {f : FuncId} {fn : Func} {args : List Operand} {at' : Array TypeId} {vs : List Value} {pre : List SA} {R : Value → List SA → Prop} (ho : o.op = .call { callee := .value (.func f), args := args.toArray, argTypes := at' })
    (hf : P.funcs[f]? = some fn) (hn : (fn.name == "runtime.NumGoroutine") = false) (hb : fn.body.isNone = false) (hv : evA F args = some vs) (h : Go.Proofs.Ytomplpdeeomehaa.Fn P f vs pre R) (hp : Pulls pre L L0) : Eff P N o F L (fun v L' => ∃ L1, R v L1 ∧ L' = L1 ++ L0) :=
  X.call ho hf hn hb hv ((h.frame L0).pre hp.ent)
theorem X.callDynF {f : FuncId} {fn : Func} {callee : Operand} {args : List Operand} {at' : Array TypeId} {vs fs cs : List Value} {pre : List SA} {R : Value → List SA → Prop} (ho : o.op = .call { callee := .value callee, args := args.toArray, argTypes := at' })
    (hcal : evO F callee = some (.func (.func f) fs.toArray cs.toArray)) (hf : P.funcs[f]? = some fn) (hn : (fn.name == "runtime.NumGoroutine") = false) (hb : fn.body.isNone = false) (hv : evA F args = some vs) (h : Go.Proofs.Ytomplpdeeomehaa.Fn P f (fs ++ vs ++ cs) pre R) (hp : Pulls pre L L0) : Eff P N o F L (fun v L' => ∃ L1, R v L1 ∧ L' = L1 ++ L0) :=
  X.callDyn ho hcal hf hn hb hv ((h.frame L0).pre hp.ent)

/-! ### results -/
def oneV : List Value → Value
  | [v] => v
  | vs => .tuple vs.toArray
/-- these are the results -/
inductive Res (P : Program) (F : FE) (L : List SA) : List ResultVar → List Value → Prop
  | nil : Res P F L [] []
  | tmp {t : Tmp} {v : Value} {rs : List ResultVar} {vs : List Value} : fget F t = some v → Res P F L rs vs → Res P F L (.tmp t :: rs) (v :: vs)
  | cell {t : Tmp} {T : TypeId} {p : Addr} {v : Value} {rs : List ResultVar} {vs : List Value} : fget F t = some (.pointer (some p)) → Program.isSc P T = true → Cel L p v → Res P F L rs vs → Res P F L (.cell t T :: rs) (v :: vs)
  | agg {t : Tmp} {T : TypeId} {p : Addr} {m : Nat} {l : List Value} {rs : List ResultVar} {vs : List Value} : fget F t = some (.pointer (some p)) → Program.aggN P T = some m → Cels L p l → l.length = m → Res P F L rs vs → Res P F L (.cell t T :: rs) (.agg l.toArray :: vs)
theorem loadVar_sc {T : TypeId} {p : Addr} {v : Value} (hs : Program.isSc P T = true) (hc : w.cell? p = some v) : (loadVar T p).run P w = .ok v w := by
  unfold Program.isSc at hs
  simp [loadVar, isAgg, go_sem]
  cases hq : P.underlying T with
  | none => simp [hq] at hs
  | some d => cases d <;> simp [hq] at hs <;> simp [run_underlying hq, hc, go_sem]
theorem loadVar_agg {T m : Nat} {p : Addr} {l : List Value} (hs : Program.aggN P T = some m) (hc : ∀ j u, l[j]? = some u → w.cell? (p.add j) = some u) (hm : l.length = m) : (loadVar T p).run P w = .ok (.agg l.toArray) w := by
  subst hm
  have hl := run_loadCells_list (P := P) (w := w) _ l hc
  unfold Program.aggN at hs
  unfold loadCells at hl
  split at hs
  all_goals first | cases hs; done | skip
  all_goals
    rename_i hu
    obtain ⟨inf, hinf, he⟩ := Option.map_eq_some_iff.1 hs
    simp [loadVar, isAgg, run_underlying hu, sizeOf, typeInfo, hinf, he, hl, loadCells, go_sem]
def resF (tmps : Array Value) : ResultVar → Sem Value
  | .tmp t => pure (tmps.getD t undef)
  | .cell a t => do loadVar t (← asAddr (tmps.getD a undef))
theorem res_mapM {a : Act} (ha : Env N F a) (hw : Holds L w) {rs : List ResultVar} {vs : List Value} (hr : Res P F L rs vs) : (rs.mapM (resF a.tmps)).run P w = .ok vs w := by
  have hadd : ∀ p : Addr, (asAddr (.pointer (some p))).run P w = .ok p w := fun p => rfl
  induction hr with
  | nil => rfl
  | @tmp t v rs vs ht _ ih =>
    rw [List.mapM_cons]
    have : (resF a.tmps (.tmp t)).run P w = .ok v w := by show (pure (a.tmps.getD t undef) : Sem Value).run P w = _; rw [ha.get _ _ ht]; rfl
    simp only [Sem.run_bind, this, Result.andThen_ok, ih, Sem.run_pure]
  | @cell t T p v rs vs ht hs hc _ ih =>
    rw [List.mapM_cons]
    have : (resF a.tmps (.cell t T)).run P w = .ok v w := by
      show ((asAddr (a.tmps.getD t undef)).bind fun q => loadVar T q).run P w = _
      rw [ha.get _ _ ht]
      exact loadVar_sc hs (hc w hw)
    simp only [Sem.run_bind, this, Result.andThen_ok, ih, Sem.run_pure]
  | @agg t T p m l rs vs ht hs hc hm _ ih =>
    rw [List.mapM_cons]
    have : (resF a.tmps (.cell t T)).run P w = .ok (.agg l.toArray) w := by
      show ((asAddr (a.tmps.getD t undef)).bind fun q => loadVar T q).run P w = _
      rw [ha.get _ _ ht]
      exact loadVar_agg hs (hc w hw) hm
    simp only [Sem.run_bind, this, Result.andThen_ok, ih, Sem.run_pure]
theorem resL {fn : Func} {rs : List ResultVar} {vs : List Value} (h : fn.results = rs.toArray) (hr : Res P F L rs vs) : ∀ a w, Env N F a → Holds L w → (results fn a.tmps).run P w = .ok (oneV vs) w := by
  intro a w ha hw
  have hk := res_mapM ha hw hr
  have e : results fn a.tmps = (do let vs ← (rs.toArray.mapM (resF a.tmps)); pure (if h : vs.size = 1 then vs[0] else .tuple vs)) := by
    unfold results; rw [h]; rfl
  rw [e, Array.mapM_eq_mapM_toList]
  simp only [Sem.run_bind, map_eq_pure_bind, hk, Result.andThen_ok, Sem.run_pure]
  cases vs with
  | nil => rfl
  | cons v r => cases r <;> rfl
end
end Go.Proofs.Ytomplpdeeomehaa
