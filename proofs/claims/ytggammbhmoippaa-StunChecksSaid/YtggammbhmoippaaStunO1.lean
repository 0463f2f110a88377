/- StunBuilds meets the row. -/
import Derived.Test.YtggammbhmoippaaStunL1
import Derived.Test.YtggammbhmoippaaHOpen
namespace Go.Proofs.Ytggammbhmoippaa
set_option linter.unusedVariables false
set_option linter.unusedSimpArgs false
open Go.ChangeShapes Go.WideShapes Go.ChangeAt Go.RowKit
namespace stun
structure Id12 where
  f : Nat → UInt8
instance : Dat Id12 where
  sz := 12
  c x := (idL x.f).map v8
  cs l := l.flatMap fun x => (idL x.f).map v8
  g _ := []
  dflt := ⟨fun _ => 0⟩
  cs_eq _ := rfl
  len _ := rfl
  one x v hv := one8 v hv
  pos := by decide
theorem idL_of (bs : List UInt8) (h : bs.length = 12) : idL (fun i => bs.getD i 0) = bs := by
  match bs, h with
  | [b0, b1, b2, b3, b4, b5, b6, b7, b8, b9, b10, b11], _ => rfl
theorem DatT.id {P : Program} {t e : TypeId} (ht : P.underlying t = some (.array 12 e)) (he : P.underlying e = some (.int .u8)) (hc : P.cellsOf e = 1) (hn : P.cellsOf t = 12) : DatT P t Id12 (fun _ => True) := fun H enc W cs ho => by
  obtain ⟨bs, h1, h2⟩ := Opn.byteArr ho ht he hc hn
  refine ⟨⟨fun i => bs.getD i 0⟩, ?_, fun q hq => (by cases hq), trivial⟩
  rw [h2]
  show bc bs = (idL (fun i => bs.getD i 0)).map v8
  rw [idL_of bs h1]; rfl
abbrev MsgD := Int × Int × Id12 × Sl At
theorem datAt : DatT Try.prog 65 At (fun x => True ∧ x.2.l.length ≤ reachBytes) :=
  DatF.all (DatF.cons (n := 1) Try.underlying65 (i := 0) rfl (by kernel_rfl) (DatT.u16 Try.underlying44) (DatF.last (n := 1) Try.underlying65 (i := 1) rfl (by kernel_rfl) (DatT.bytes Try.underlying27 Try.underlying5 (by kernel_rfl) (by kernel_rfl)) (by kernel_rfl)))
theorem datMsg : DatT Try.prog 25 MsgD (fun x => inI x.1 ∧ inI x.2.1 ∧ True ∧ (x.2.2.2.l.length * 32 ≤ reachBytes ∧ ∀ y ∈ x.2.2.2.l, True ∧ y.2.l.length ≤ reachBytes)) :=
  DatF.all (DatF.cons (n := 1) Try.underlying25 (i := 0) rfl (by kernel_rfl) (DatT.int Try.underlying3) (DatF.cons (n := 1) Try.underlying25 (i := 1) rfl (by kernel_rfl) (DatT.int Try.underlying3)
    (DatF.cons (n := 12) Try.underlying25 (i := 2) rfl (by kernel_rfl) (DatT.id Try.underlying22 Try.underlying5 (by kernel_rfl) (by kernel_rfl))
      (DatF.last (n := 1) Try.underlying25 (i := 3) rfl (by kernel_rfl) (DatT.slice Try.underlying23 (by kernel_rfl) (by kernel_rfl) datAt) (by kernel_rfl)))))
section
variable {H : Type} {enc : TypeId × Value → H} {W : World} {base : Nat}
set_option maxRecDepth 100000 in
theorem open_msg {v : Value} {d : DataW H} {p : List MemPlace} {ts : List TypeId} {ds : List (DataW H)} (j : Nat) (o : Value.okWide Try.prog W .any base 25 v) (k : DataW.Trod enc Try.prog W 0 (fun _ => true) true 25 v d p)
    (hsz : (DataW.weightsEach Try.prog ts ds).all (· ≤ reachBytes) = true) (ht : ts[j]? = some 25) (hd : ds[j]? = some d) :
    ∃ c m f a cap l, v = .agg (msgC c m f (.slice a l.length cap)) ∧ RdAll W (Dat.g (⟨a, cap, l⟩ : Sl At)) ∧ inI c ∧ inI m ∧ l.length * 32 ≤ 140737488351232 ∧ ∀ x ∈ l, x.2.l.length ≤ 140737488351232 := by
  obtain ⟨⟨c, m, ⟨f⟩, ⟨a, cap, l⟩⟩, h1, h2, h3, h4, -, h5, h6⟩ := open_struct datMsg Try.underlying25 j o k hsz ht hd
  exact ⟨c, m, f, a, cap, l, h1, h2, h3, h4, h5, fun x hx => (h6 x hx).2⟩
set_option maxRecDepth 100000 in
theorem builds_open {v : Value} {d : DataW H} {p : List MemPlace} (o : Value.okWide Try.prog W .any base 25 v) (k : DataW.Trod enc Try.prog W 0 (fun _ => true) true 25 v d p)
    (hsz : (DataW.weightsEach Try.prog ([25] ++ []) ([d] ++ [])).all (· ≤ reachBytes) = true) :
    Calls Try.prog 3 #[v] W fun e w' => e = .returned (.bool true) ∧ Fr [] W w' := by
  obtain ⟨c, m, f, a, cap, l, rfl, h1, -, -, h2, h3⟩ := open_msg 0 o k hsz rfl rfl
  exact Fn.topD (As := [SA.dat (⟨a, cap, l⟩ : Sl At)]) (builds_fn c m f a cap l h2 h3 [SA.old W]) (fun A hA => by rw [hA.one]; exact SA.dat_arg h1)
end
end stun
end Go.Proofs.Ytggammbhmoippaa
