/- demux: the statements meet the rows. -/
import Derived.Test.YtmdahgmlccmdoaaDmxFT
import Derived.Test.YtmdahgmlccmdoaaHOpen
namespace Go.Proofs.Ytmdahgmlccmdoaa
set_option linter.unusedVariables false
set_option linter.unusedSimpArgs false
open Go.ChangeShapes Go.WideShapes Go.ChangeAt Go.RowKit
namespace dm
theorem datLine : DatT Try.prog 65 LnD (fun x => x.1.size ≤ reachBytes ∧ (x.2.1.l.length * 8 ≤ reachBytes ∧ ∀ y ∈ x.2.1.l, inI y) ∧ (x.2.2.1.l.length * 4 ≤ reachBytes ∧ ∀ y ∈ x.2.2.1.l, True) ∧ (x.2.2.2.l.length * 16 ≤ reachBytes ∧ ∀ y ∈ x.2.2.2.l, y.size ≤ reachBytes)) :=
  DatF.all (DatF.cons (n := 1) Try.underlying65 (i := 0) rfl (by kernel_rfl) (DatT.string Try.underlying9)
    (DatF.cons (n := 1) Try.underlying65 (i := 1) rfl (by kernel_rfl) (DatT.slice (B := 8) Try.underlying47 (by kernel_rfl) (by kernel_rfl) (DatT.int Try.underlying3))
    (DatF.cons (n := 1) Try.underlying65 (i := 2) rfl (by kernel_rfl) (DatT.slice (B := 4) Try.underlying35 (by kernel_rfl) (by kernel_rfl) (DatT.u32 Try.underlying34))
    (DatF.last (n := 1) Try.underlying65 (i := 3) rfl (by kernel_rfl) (DatT.slice (B := 16) Try.underlying48 (by kernel_rfl) (by kernel_rfl) (DatT.string Try.underlying9)) (by kernel_rfl)))))
theorem datExt : DatT Try.prog 74 XD (fun x => inI x.1 ∧ x.2.l.length ≤ reachBytes) :=
  DatF.all (DatF.cons (n := 1) Try.underlying74 (i := 0) rfl (by kernel_rfl) (DatT.int Try.underlying3) (DatF.last (n := 1) Try.underlying74 (i := 1) rfl (by kernel_rfl) (DatT.bytes Try.underlying37 Try.underlying5 (by kernel_rfl) (by kernel_rfl)) (by kernel_rfl)))
abbrev BdP (p : P12) : Prop := True ∧ inI p.2.1 ∧ True ∧ True ∧ True ∧ (p.2.2.2.2.2.1.l.length * 4 ≤ reachBytes ∧ ∀ y ∈ p.2.2.2.2.2.1.l, True) ∧ ((pX p).l.length * 32 ≤ reachBytes ∧ ∀ y ∈ (pX p).l, inI y.1 ∧ y.2.l.length ≤ reachBytes) ∧ p.2.2.2.2.2.2.2.1.l.length ≤ reachBytes ∧ inI p.2.2.2.2.2.2.2.2
theorem datP12 : DatT Try.prog 43 P12 BdP :=
  DatF.all (DatF.cons (n := 1) Try.underlying43 (i := 0) rfl (by kernel_rfl) (DatT.bool Try.underlying4)
    (DatF.cons (n := 1) Try.underlying43 (i := 1) rfl (by kernel_rfl) (DatT.int Try.underlying3)
    (DatF.cons (n := 1) Try.underlying43 (i := 2) rfl (by kernel_rfl) (DatT.u16 Try.underlying33)
    (DatF.cons (n := 1) Try.underlying43 (i := 3) rfl (by kernel_rfl) (DatT.u32 Try.underlying34)
    (DatF.cons (n := 1) Try.underlying43 (i := 4) rfl (by kernel_rfl) (DatT.u32 Try.underlying34)
    (DatF.cons (n := 1) Try.underlying43 (i := 5) rfl (by kernel_rfl) (DatT.slice (B := 4) Try.underlying35 (by kernel_rfl) (by kernel_rfl) (DatT.u32 Try.underlying34))
    (DatF.cons (n := 1) Try.underlying43 (i := 6) rfl (by kernel_rfl) (DatT.slice (B := 32) Try.underlying41 (by kernel_rfl) (by kernel_rfl) datExt)
    (DatF.cons (n := 1) Try.underlying43 (i := 7) rfl (by kernel_rfl) (DatT.bytes Try.underlying37 Try.underlying5 (by kernel_rfl) (by kernel_rfl))
    (DatF.last (n := 1) Try.underlying43 (i := 8) rfl (by kernel_rfl) (DatT.int Try.underlying3) (by kernel_rfl))))))))))
theorem bd_p {p : P12} (h : BdP p) : Okx (pX p).l ∧ (pX p).l.length ≤ 4398046511000 := by
  obtain ⟨-, -, -, -, -, -, ⟨h1, h2⟩, -⟩ := h
  refine ⟨fun x hx => ?_, ?_⟩
  · have := (h2 x hx).2; simp only [reachBytes] at this; omega
  · simp only [reachBytes] at h1; omega
section
variable {H : Type} {enc : TypeId × Value → H} {W : World} {base : Nat}
theorem open_lines {v : Value} {d : DataW H} {p : List MemPlace} {ts : List TypeId} {ds : List (DataW H)} (j : Nat) (o : Value.okWide Try.prog W .any base 22 v) (k : DataW.Trod enc Try.prog W 0 (fun _ => true) true 22 v d p)
    (hsz : (DataW.weightsEach Try.prog ts ds).all (· ≤ reachBytes) = true) (ht : ts[j]? = some 22) (hd : ds[j]? = some d) : ∃ (a : Option Addr) (cap : Nat) (ls : List LnD), v = .slice a ls.length cap ∧ RdAll W (Dat.g (⟨a, cap, ls⟩ : Sl LnD)) ∧ ls.length ≤ 1599289640355 ∧ Okl ls := by
  obtain ⟨⟨a, cap, ls⟩, rfl, g1, g2, g3⟩ := open_slice (DatT.slice (B := 88) Try.underlying22 (by kernel_rfl) (by kernel_rfl) datLine) Try.underlying22 j o k hsz ht hd
  refine ⟨a, cap, ls, rfl, g1, by simp only [reachBytes] at g2; omega, fun x hx => ?_⟩
  obtain ⟨-, ⟨h1, -⟩, ⟨h2, -⟩, ⟨h3, -⟩⟩ := g3 x hx
  simp only [reachBytes] at h1 h2 h3
  omega
set_option maxRecDepth 100000 in
theorem guesses_open {v0 v3 : Value} {d0 d1 d2 d3 : DataW H} {p0 p3 : List MemPlace} {m r : Int} (o0 : Value.okWide Try.prog W .any base 22 v0) (k0 : DataW.Trod enc Try.prog W 0 (fun _ => true) true 22 v0 d0 p0)
    (o3 : Value.okWide Try.prog W .any base 23 v3) (k3 : DataW.Trod enc Try.prog W 0 (fun _ => true) true 23 v3 d3 p3)
    (hsz : (DataW.weightsEach Try.prog ([22, 3, 3, 23] ++ []) ([d0, d1, d2, d3] ++ [])).all (· ≤ reachBytes) = true) :
    Calls Try.prog 3 #[v0, .int .i64 m, .int .i64 r, v3] W fun e w' => e = .returned (.bool true) ∧ Fr [] W w' := by
  obtain ⟨a, cap, ls, rfl, g1, g2, g3⟩ := open_lines 0 o0 k0 hsz rfl rfl
  obtain ⟨⟨pa, pcap, ps⟩, rfl, h1, -, h2⟩ := open_slice (DatT.slice (B := 112) Try.underlying23 (by kernel_rfl) (by kernel_rfl) datP12) Try.underlying23 3 o3 k3 hsz rfl rfl
  exact Fn.topD (As := [SA.dat (⟨a, cap, ls⟩ : Sl LnD), SA.dat (⟨pa, pcap, ps⟩ : Sl P12)]) (guesses_fn a cap ls g2 g3 m r pa pcap ps (fun p hp => bd_p (h2 p hp)) [SA.old W]) (fun A hA => by
    rcases hA.two with rfl | rfl
    · exact SA.dat_arg g1
    · exact SA.dat_arg h1)
set_option maxRecDepth 100000 in
theorem stays_open {v0 v3 : Value} {d0 d1 d2 d3 d4 : DataW H} {p0 p3 : List MemPlace} {m r t : Int} (ht : (Lit.int .u8 t).wf = true) (o0 : Value.okWide Try.prog W .any base 22 v0) (k0 : DataW.Trod enc Try.prog W 0 (fun _ => true) true 22 v0 d0 p0)
    (o3 : Value.okWide Try.prog W .any base 43 v3) (k3 : DataW.Trod enc Try.prog W 0 (fun _ => true) true 43 v3 d3 p3)
    (hsz : (DataW.weightsEach Try.prog ([22, 3, 3, 43, 5] ++ []) ([d0, d1, d2, d3, d4] ++ [])).all (· ≤ reachBytes) = true) :
    Calls Try.prog 4 #[v0, .int .i64 m, .int .i64 r, v3, .int .u8 t] W fun e w' => e = .returned (.bool true) ∧ Fr [] W w' := by
  obtain ⟨a, cap, ls, rfl, g1, g2, g3⟩ := open_lines 0 o0 k0 hsz rfl rfl
  obtain ⟨p, rfl, h1, h2⟩ := open_struct datP12 Try.underlying43 3 o3 k3 hsz rfl rfl
  rw [wf_u8 ht]
  exact Fn.topD (As := [SA.dat (⟨a, cap, ls⟩ : Sl LnD), SA.dat p]) (stays_fn a cap ls g2 g3 m r p (bd_p h2).1 (bd_p h2).2 _ [SA.old W]) (fun A hA => by
    rcases hA.two with rfl | rfl
    · exact SA.dat_arg g1
    · exact SA.dat_arg h1)
set_option maxRecDepth 100000 in
theorem full_open {v1 : Value} {d0 d1 : DataW H} {p1 : List MemPlace} {t : Int} (ht : (Lit.int .u8 t).wf = true) (o1 : Value.okWide Try.prog W .any base 46 v1) (k1 : DataW.Trod enc Try.prog W 0 (fun _ => true) true 46 v1 d1 p1)
    (hsz : (DataW.weightsEach Try.prog ([5, 46] ++ []) ([d0, d1] ++ [])).all (· ≤ reachBytes) = true) :
    Calls Try.prog 5 #[.int .u8 t, v1] W fun e w' => e = .returned (.bool true) ∧ Fr [] W w' := by
  obtain ⟨⟨b, bcap, ss⟩, rfl, h1, -⟩ := open_slice (DatT.slice (B := 2) Try.underlying46 (by kernel_rfl) (by kernel_rfl) (DatT.u16 Try.underlying33)) Try.underlying46 1 o1 k1 hsz rfl rfl
  rw [wf_u8 ht]
  exact Fn.topD (As := [SA.dat (⟨b, bcap, ss⟩ : Sl UInt16)]) (full_fn _ b bcap ss [SA.old W]) (fun A hA => by rw [hA.one]; exact SA.dat_arg h1)
end
end dm
end Go.Proofs.Ytmdahgmlccmdoaa
