/- The statement StunParts, walked; it meets the row. -/
import Derived.Test.YtggammbhmoippaaStunPt
import Derived.Test.YtggammbhmoippaaHStruct
import Derived.Test.YtggammbhmoippaaStunO1
import Derived.Test.YtggammbhmoippaaStunBk
namespace Go.Proofs.Ytggammbhmoippaa
set_option linter.unusedVariables false
set_option linter.unusedSimpArgs false
open Go.ChangeShapes Go.WideShapes Go.ChangeAt Go.RowKit
namespace stun
open wr (be16 be32)
open rd (rdB rdL rdV num num1)
namespace FxStunPl
set_option maxRecDepth 100000
theorem ag25 : Program.aggN Try.prog 25 = some 15 := by kernel_rfl
theorem ag47 : Program.aggN Try.prog 47 = some 2 := by kernel_rfl
theorem eg47 : Try.prog.eqGuardType Try.prog.depth 47 = false := by kernel_rfl
theorem sc44 : Program.isSc Try.prog 44 = true := by kernel_rfl
theorem sc45 : Program.isSc Try.prog 45 = true := by kernel_rfl
theorem sf47 : Try.prog.underlying 47 = some (.struct (Try.prog.fieldsOf 47)) := by kernel_rfl
theorem sn47 : (Try.prog.fieldsOf 47).toList.map (fun f => (f.name == "_", f.type, f.offset)) = [(false, 45, 0), (false, 44, 1)] := by kernel_rfl
theorem sp47 : Try.prog.stoodInHeld 47 = false := by kernel_rfl
theorem sz47 : (Try.prog.info? 47).map (·.size) = some 2 := by kernel_rfl
theorem zc47 : Program.zeroC Try.prog 47 = some #[.int .u32 0, .int .u16 0] := by kernel_rfl
end FxStunPl
open FxStunPl
theorem num_be16 (x : UInt16) : (num (be16 x)).toUInt16 = x := by
  apply UInt16.toNat_inj.1
  have hx := x.toNat_lt
  rw [be16, num2]
  simp [shr16]
  omega
theorem num_be32 (x : UInt32) : num (be32 x) = x := by
  apply UInt32.toNat_inj.1
  have hx := x.toNat_lt
  rw [be32, num4]
  simp [shr32]
  omega
theorem mapR_mapB (ip : UInt32) (port : UInt16) : mapR (mapB ip port) = some (ip, port) := by
  have h : mapR (mapB ip port) = some (num (be32 (ip ^^^ 554869826)) ^^^ 554869826, (num (be16 (port ^^^ 8466))).toUInt16 ^^^ 8466) := by
    show (if (0 : UInt8) = 0 ∧ (1 : UInt8) = 1 then some (num (be32 (ip ^^^ 554869826)) ^^^ 554869826, (num (be16 (port ^^^ 8466))).toUInt16 ^^^ 8466) else none) = _
    rw [if_pos ⟨rfl, rfl⟩]
  rw [h, num_be32, num_be16, UInt32.xor_assoc, UInt32.xor_self, UInt32.xor_zero, UInt16.xor_assoc, UInt16.xor_self, UInt16.xor_zero]
theorem len_of_pl {l l' : List At} {B : Nat} (h : l'.map pl = l.map pl) (hb : ∀ x ∈ l, x.2.l.length ≤ B) : ∀ x ∈ l', x.2.l.length ≤ B := fun x hx => by
  have : pl x ∈ l.map pl := h ▸ List.mem_map_of_mem hx
  obtain ⟨y, hy, e⟩ := List.mem_map.1 this
  have := hb y hy
  rw [show x.2.l = y.2.l from (congrArg Prod.snd e).symm]
  exact this
set_option maxHeartbeats 4000000 in
theorem parts_fn (c m : Int) (f : Nat → UInt8) (a : Option Addr) (cap : Nat) (l : List At) (hl : l.length * 32 ≤ 140737488351232) (hb : ∀ x ∈ l, x.2.l.length ≤ 140737488351232) (kind : UInt16) (ip : UInt32) (port : UInt16)
    (a2 : Option Addr) (n cap2 : Nat) (b : List UInt8) (hn : b.length = n) (hr : n ≤ 140737488351232) (code : Int) (h1 : -9223372036854775808 ≤ code) (h2 : code ≤ 9223372036854775807) (L : List SA) :
    Fn Try.prog 5 [.agg (msgC c m f (.slice a l.length cap)), v16 kind, .agg #[v32 ip, v16 port], .slice a2 n cap2, vI code] (SA.dat (⟨a, cap, l⟩ : Sl At) :: SA.rds 1 (.slice a2 n cap2) n (b.map v8) :: L)
      (fun v L' => v = .bool true ∧ L' = SA.dat (⟨a, cap, l⟩ : Sl At) :: SA.rds 1 (.slice a2 n cap2) n (b.map v8) :: L) := by
  subst hn
  refine Fn.of (N := 101) Try.func5 rfl rfl ?_
  intro Xh
  refine TC.seq ?_
  refine TC.region ?_
  refine TL.eff rfl rfl rfl (X.boxA rfl rfl) ?_
  rintro _ _ ⟨b5, rfl, rfl⟩
  refine TL.eff rfl rfl rfl (X.boxA rfl rfl) ?_
  rintro _ _ ⟨b7, rfl, rfl⟩
  refine TL.val rfl rfl rfl (Y.assign rfl rfl) ?_
  refine TL.nil ?_
  refine TQ.next ?_
  refine TC.seq ?_
  refine TC.seq ?_
  refine TC.region ?_
  refine TL.eff rfl rfl rfl (X.call rfl Try.func9 (by kernel_rfl) rfl rfl (Fn.preE (by repeat first | (with_reducible apply Ent.refl) | (apply Ent.cons; case h => first | (with_reducible (repeat first | apply Pull.here | apply Pull.there); done) | (repeat first | apply Pull.here | apply Pull.there))) (stun.awake_fn _))) ?_
  rintro _ _ ⟨rfl, rfl⟩
  refine TL.val rfl rfl rfl (Y.not rfl rfl) ?_
  refine TL.nil ?_
  refine TQ.next ?_
  refine TC.cond_f rfl ?_
  refine TC.skip ?_
  refine TQ.next ?_
  refine TC.seq ?_
  refine TC.region ?_
  refine TL.val rfl rfl rfl (Y.loadAgg rfl ag25 rfl (Cels.all (cs := msgC c m f (.slice a l.length cap)) (by with_reducible (repeat first | apply In.here | apply In.there))) (by first | rfl | ((try simp only [List.length_map, List.length_set, List.length_replicate]); omega))) ?_
  refine TL.as (.agg (msgC c m f (.slice a l.length cap))) (by rfl) ?_
  refine TL.eff rfl rfl rfl (X.call rfl Try.func12 (by kernel_rfl) rfl rfl (Fn.preE (by repeat first | (with_reducible apply Ent.refl) | (apply Ent.cons; case h => first | (with_reducible (repeat first | apply Pull.here | apply Pull.there); done) | (repeat first | apply Pull.here | apply Pull.there))) (stun.theirs_fn _ _ _ _ _ _ (by assumption) (by assumption) _))) ?_
  rintro _ _ ⟨ta25, tc25, tl25, rfl, htl25, rfl⟩
  refine TL.val rfl rfl rfl (Y.move rfl rfl) ?_
  have hb' := len_of_pl htl25 hb
  refine TL.eff rfl rfl rfl (X.call rfl Try.func17 (by kernel_rfl) rfl rfl (Fn.preE (by repeat first | (with_reducible apply Ent.refl) | (apply Ent.cons; case h => first | (with_reducible (repeat first | apply Pull.here | apply Pull.there); done) | (repeat first | apply Pull.here | apply Pull.there))) (Find_fn c m f ta25 tc25 tl25 kind hb' _))) ?_
  rintro _ _ ⟨fa27, fc27, rfl, rfl⟩
  obtain ⟨r, hr⟩ : ∃ r, r = findP (l.map pl) kind := ⟨_, rfl⟩
  rw [htl25, ← hr]
  refine TL.val rfl rfl rfl (Y.move rfl rfl) ?_
  refine TL.val rfl rfl rfl (Y.extract rfl rfl rfl) ?_
  refine TL.val rfl rfl rfl (Y.extract rfl rfl rfl) ?_
  refine TL.val rfl rfl rfl (Y.assign rfl rfl) ?_
  refine TL.val rfl rfl rfl (Y.assign rfl rfl) ?_
  refine TL.nil ?_
  refine TQ.next ?_
  refine TC.seq ?_
  refine TC.region ?_
  refine TL.val rfl rfl rfl (Y.loadAgg rfl ag25 rfl (Cels.all (cs := msgC c m f (.slice a l.length cap)) (by with_reducible (repeat first | apply In.here | apply In.there))) (by first | rfl | ((try simp only [List.length_map, List.length_set, List.length_replicate]); omega))) ?_
  refine TL.as (.agg (msgC c m f (.slice a l.length cap))) (by rfl) ?_
  refine TL.val rfl rfl rfl (Y.move rfl rfl) ?_
  refine TL.eff rfl rfl rfl (X.call rfl Try.func18 (by kernel_rfl) rfl rfl (Fn.preE (by repeat first | (with_reducible apply Ent.refl) | (apply Ent.cons; case h => first | (with_reducible (repeat first | apply Pull.here | apply Pull.there); done) | (repeat first | apply Pull.here | apply Pull.there))) (refFind_fn c m f a cap l kind _))) ?_
  rintro _ _ ⟨fa33, fc33, rfl, rfl⟩
  rw [← hr]
  refine TL.val rfl rfl rfl (Y.move rfl rfl) ?_
  refine TL.val rfl rfl rfl (Y.extract rfl rfl rfl) ?_
  refine TL.val rfl rfl rfl (Y.extract rfl rfl rfl) ?_
  refine TL.val rfl rfl rfl (Y.assign rfl rfl) ?_
  refine TL.val rfl rfl rfl (Y.assign rfl rfl) ?_
  refine TL.nil ?_
  refine TQ.next ?_
  refine TC.seq ?_
  refine TC.region ?_
  refine TL.val rfl rfl rfl (Y.move rfl rfl) ?_
  refine TL.eff rfl rfl rfl (X.call rfl Try.func19 (by kernel_rfl) rfl rfl (Fn.preE (by repeat first | (with_reducible apply Ent.refl) | (apply Ent.cons; case h => first | (with_reducible (repeat first | apply Pull.here | apply Pull.there); done) | (repeat first | apply Pull.here | apply Pull.there))) (stun.ReadMapped_fn _ _ _ _ (by first | assumption | rfl) (by omega) _))) ?_
  rintro _ _ ⟨rfl, rfl⟩
  refine TL.val rfl rfl rfl (Y.move rfl rfl) ?_
  refine TL.val rfl rfl rfl (Y.extract rfl rfl rfl) ?_
  refine TL.val rfl rfl rfl (Y.extract rfl rfl rfl) ?_
  refine TL.eff rfl rfl rfl (X.alloc rfl zc47) ?_
  rintro _ _ ⟨b15, rfl, rfl⟩
  refine TL.eff0 rfl rfl (by first | exact X.storeAll rfl sz47 (by rfl) rfl rfl (allOne (by rfl)) (by first | (with_reducible (repeat first | apply Pull.here | apply Pull.there); done) | (repeat first | apply Pull.here | apply Pull.there)) (by rfl) | exact X.storeAll rfl sz47 (by ((try simp only [List.size_toArray, List.length_set, List.length_map, List.length_append, List.length_replicate, List.length_cons, List.length_nil]); (first | done | omega | (simp [*]; done)))) rfl rfl (by simp [Value.oneCell']) (by first | (with_reducible (repeat first | apply Pull.here | apply Pull.there); done) | (repeat first | apply Pull.here | apply Pull.there)) (by ((try simp only [List.size_toArray, List.length_set, List.length_map, List.length_append, List.length_replicate, List.length_cons, List.length_nil]); (first | done | omega | (simp [*]; done)))) | exact X.storeAgg rfl sz47 (by ((try simp only [List.size_toArray, List.length_set, List.length_map, List.length_append, List.length_replicate, List.length_cons, List.length_nil]); (first | done | omega | (simp [*]; done)))) rfl rfl (by simp [Value.oneCell']) (by first | (with_reducible (repeat first | apply Pull.here | apply Pull.there); done) | (repeat first | apply Pull.here | apply Pull.there)) (by ((try simp only [List.size_toArray, List.length_set, List.length_map, List.length_append, List.length_replicate, List.length_cons, List.length_nil]); (first | done | omega | (simp [*]; done)))) (writeM (by ((try simp only [List.length_set, List.length_map, List.length_append, List.length_replicate]); omega)))) ?_
  rintro _ _ rfl
  refine TL.val rfl rfl rfl (Y.assign rfl rfl) ?_
  refine TL.nil ?_
  refine TQ.next ?_
  refine TC.seq ?_
  refine TC.region ?_
  refine TL.val rfl rfl rfl (Y.move rfl rfl) ?_
  refine TL.eff rfl rfl rfl (X.call rfl Try.func20 (by kernel_rfl) rfl rfl (Fn.preE (by repeat first | (with_reducible apply Ent.refl) | (apply Ent.cons; case h => first | (with_reducible (repeat first | apply Pull.here | apply Pull.there); done) | (repeat first | apply Pull.here | apply Pull.there))) (stun.refReadMapped_fn _ _ _ _ (by first | assumption | rfl) _))) ?_
  rintro _ _ ⟨rfl, rfl⟩
  refine TL.val rfl rfl rfl (Y.move rfl rfl) ?_
  refine TL.val rfl rfl rfl (Y.extract rfl rfl rfl) ?_
  refine TL.val rfl rfl rfl (Y.extract rfl rfl rfl) ?_
  refine TL.eff rfl rfl rfl (X.alloc rfl zc47) ?_
  rintro _ _ ⟨b17, rfl, rfl⟩
  refine TL.eff0 rfl rfl (by first | exact X.storeAll rfl sz47 (by rfl) rfl rfl (allOne (by rfl)) (by first | (with_reducible (repeat first | apply Pull.here | apply Pull.there); done) | (repeat first | apply Pull.here | apply Pull.there)) (by rfl) | exact X.storeAll rfl sz47 (by ((try simp only [List.size_toArray, List.length_set, List.length_map, List.length_append, List.length_replicate, List.length_cons, List.length_nil]); (first | done | omega | (simp [*]; done)))) rfl rfl (by simp [Value.oneCell']) (by first | (with_reducible (repeat first | apply Pull.here | apply Pull.there); done) | (repeat first | apply Pull.here | apply Pull.there)) (by ((try simp only [List.size_toArray, List.length_set, List.length_map, List.length_append, List.length_replicate, List.length_cons, List.length_nil]); (first | done | omega | (simp [*]; done)))) | exact X.storeAgg rfl sz47 (by ((try simp only [List.size_toArray, List.length_set, List.length_map, List.length_append, List.length_replicate, List.length_cons, List.length_nil]); (first | done | omega | (simp [*]; done)))) rfl rfl (by simp [Value.oneCell']) (by first | (with_reducible (repeat first | apply Pull.here | apply Pull.there); done) | (repeat first | apply Pull.here | apply Pull.there)) (by ((try simp only [List.size_toArray, List.length_set, List.length_map, List.length_append, List.length_replicate, List.length_cons, List.length_nil]); (first | done | omega | (simp [*]; done)))) (writeM (by ((try simp only [List.length_set, List.length_map, List.length_append, List.length_replicate]); omega)))) ?_
  rintro _ _ rfl
  refine TL.val rfl rfl rfl (Y.assign rfl rfl) ?_
  refine TL.nil ?_
  refine TQ.next ?_
  refine TC.seq ?_
  refine TC.region ?_
  refine TL.val rfl rfl rfl (Y.loadAgg rfl ag47 rfl (by first | exact Cels.datAt (by with_reducible (repeat first | apply In.here | apply In.there)) (by assumption) | exact Cels.full (by with_reducible (repeat first | apply In.here | apply In.there))) (by first | rfl | ((try simp only [List.length_map, List.length_set, List.length_replicate]); omega))) ?_
  refine TL.eff rfl rfl rfl (X.call rfl Try.func21 (by kernel_rfl) rfl rfl (Fn.preE (by repeat first | (with_reducible apply Ent.refl) | (apply Ent.cons; case h => first | (with_reducible (repeat first | apply Pull.here | apply Pull.there); done) | (repeat first | apply Pull.here | apply Pull.there))) (stun.Mapped_fn _ _ _))) ?_
  rintro _ _ ⟨ma48, mc48, rfl, rfl⟩
  refine TL.to Ent.freeze ?_
  refine TL.eff rfl rfl rfl (X.call rfl Try.func19 (by kernel_rfl) rfl rfl (Fn.preE (by repeat first | (with_reducible apply Ent.refl) | (apply Ent.cons; case h => first | (with_reducible (repeat first | apply Pull.here | apply Pull.there); done) | (repeat first | apply Pull.here | apply Pull.there))) (ReadMapped_fn _ _ _ (mapB ip port) rfl (by show 8 ≤ _; omega) _))) ?_
  rintro _ _ ⟨rfl, rfl⟩
  rw [mapR_mapB, show (ma (some (ip, port))).1 = ip from rfl, show (ma (some (ip, port))).2 = port from rfl]
  refine TL.val rfl rfl rfl (Y.move rfl rfl) ?_
  refine TL.val rfl rfl rfl (Y.extract rfl rfl rfl) ?_
  refine TL.val rfl rfl rfl (Y.extract rfl rfl rfl) ?_
  refine TL.eff rfl rfl rfl (X.alloc rfl zc47) ?_
  rintro _ _ ⟨b19, rfl, rfl⟩
  refine TL.eff0 rfl rfl (by first | exact X.storeAll rfl sz47 (by rfl) rfl rfl (allOne (by rfl)) (by first | (with_reducible (repeat first | apply Pull.here | apply Pull.there); done) | (repeat first | apply Pull.here | apply Pull.there)) (by rfl) | exact X.storeAll rfl sz47 (by ((try simp only [List.size_toArray, List.length_set, List.length_map, List.length_append, List.length_replicate, List.length_cons, List.length_nil]); (first | done | omega | (simp [*]; done)))) rfl rfl (by simp [Value.oneCell']) (by first | (with_reducible (repeat first | apply Pull.here | apply Pull.there); done) | (repeat first | apply Pull.here | apply Pull.there)) (by ((try simp only [List.size_toArray, List.length_set, List.length_map, List.length_append, List.length_replicate, List.length_cons, List.length_nil]); (first | done | omega | (simp [*]; done)))) | exact X.storeAgg rfl sz47 (by ((try simp only [List.size_toArray, List.length_set, List.length_map, List.length_append, List.length_replicate, List.length_cons, List.length_nil]); (first | done | omega | (simp [*]; done)))) rfl rfl (by simp [Value.oneCell']) (by first | (with_reducible (repeat first | apply Pull.here | apply Pull.there); done) | (repeat first | apply Pull.here | apply Pull.there)) (by ((try simp only [List.size_toArray, List.length_set, List.length_map, List.length_append, List.length_replicate, List.length_cons, List.length_nil]); (first | done | omega | (simp [*]; done)))) (writeM (by ((try simp only [List.length_set, List.length_map, List.length_append, List.length_replicate]); omega)))) ?_
  rintro _ _ rfl
  refine TL.val rfl rfl rfl (Y.assign rfl rfl) ?_
  refine TL.nil ?_
  refine TQ.next ?_
  refine TC.seq ?_
  refine TC.draws 50 [SA.blk b5 (msgC c m f (.slice a l.length cap)) 25, SA.blk b7 #[v32 ip, v16 port] 47, SA.blk b15 #[v32 (ma (mapR b)).1, v16 (ma (mapR b)).2] 47, SA.blk b17 #[v32 (ma (mapR b)).1, v16 (ma (mapR b)).2] 47, SA.blk b19 #[v32 ip, v16 port] 47, SA.owns 5 1 (.slice fa27 (fv r).length fc27) (fv r).length ((fv r).map v8), SA.rds 1 (.slice fa33 (fv r).length fc33) (fv r).length ((fv r).map v8)] (by kernel_rfl) (by kernel_rfl) (by repeat first | exact holds_nil | refine holds_cons (by with_reducible (repeat first | apply In.here | apply In.there)) ?_) ?_
  refine TA.take 0 rfl rfl rfl rfl (by kernel_rfl) (by kernel_rfl) (by kernel_rfl) rfl (by kernel_rfl) (by kernel_rfl) (fun _ _ _ h => h) (Y.move rfl rfl) ?_
  refine TA.take 1 rfl rfl rfl rfl (by kernel_rfl) (by kernel_rfl) (by kernel_rfl) rfl (by kernel_rfl) (by kernel_rfl) (fun _ _ _ h => h) (Y.move rfl rfl) ?_
  refine TA.take 2 rfl rfl rfl rfl (by kernel_rfl) (by kernel_rfl) (by kernel_rfl) rfl (by kernel_rfl) (by kernel_rfl) (fun _ _ _ h => h) (Y.eqBool rfl Try.underlying4 rfl rfl) ?_
  refine TA.is true (by first | rfl | (simp only [decide_eq_true_eq, decide_eq_false_iff_not, Bool.not_eq_true', Bool.not_eq_false', Bool.not_eq_eq_eq_not, Bool.not_true, Bool.not_false, Nat.not_lt, Nat.not_le]; omega) | (simp [*]; done) | (simp; omega)) ?_
  refine TA.take 3 rfl rfl rfl rfl (by kernel_rfl) (by kernel_rfl) (by kernel_rfl) rfl (by kernel_rfl) (by kernel_rfl) (fun _ _ _ h => h) (Y.move rfl rfl) ?_
  refine TA.take 4 rfl rfl rfl rfl (by kernel_rfl) (by kernel_rfl) (by kernel_rfl) rfl (by kernel_rfl) (by kernel_rfl) (fun _ _ _ h => h) (Y.move rfl rfl) ?_
  refine TA.take 5 rfl rfl rfl rfl (by kernel_rfl) (by kernel_rfl) (by kernel_rfl) rfl (by kernel_rfl) (by kernel_rfl) (fun _ _ _ h => h) (by first | exact Y.str rfl Try.underlying27 Try.underlying9 Try.underlying5 rfl Reads.rds (by with_reducible (repeat first | apply In.here | apply In.there)) | exact Y.str rfl Try.underlying27 Try.underlying9 Try.underlying5 rfl Reads.owns (by with_reducible (repeat first | apply In.here | apply In.there)) | exact Y.str rfl Try.underlying27 Try.underlying9 Try.underlying5 rfl (by assumption) (by with_reducible (repeat first | apply In.here | apply In.there))) ?_
  refine TA.take 6 rfl rfl rfl rfl (by kernel_rfl) (by kernel_rfl) (by kernel_rfl) rfl (by kernel_rfl) (by kernel_rfl) (fun _ _ _ h => h) (Y.move rfl rfl) ?_
  refine TA.take 7 rfl rfl rfl rfl (by kernel_rfl) (by kernel_rfl) (by kernel_rfl) rfl (by kernel_rfl) (by kernel_rfl) (fun _ _ _ h => h) (by first | exact Y.str rfl Try.underlying27 Try.underlying9 Try.underlying5 rfl Reads.rds (by with_reducible (repeat first | apply In.here | apply In.there)) | exact Y.str rfl Try.underlying27 Try.underlying9 Try.underlying5 rfl Reads.owns (by with_reducible (repeat first | apply In.here | apply In.there)) | exact Y.str rfl Try.underlying27 Try.underlying9 Try.underlying5 rfl (by assumption) (by with_reducible (repeat first | apply In.here | apply In.there))) ?_
  refine TA.take 8 rfl rfl rfl rfl (by kernel_rfl) (by kernel_rfl) (by kernel_rfl) rfl (by kernel_rfl) (by kernel_rfl) (fun _ _ _ h => h) (Y.eqStr rfl rfl rfl) ?_
  refine TA.is true (by first | rfl | (simp only [decide_eq_true_eq, decide_eq_false_iff_not, Bool.not_eq_true', Bool.not_eq_false', Bool.not_eq_eq_eq_not, Bool.not_true, Bool.not_false, Nat.not_lt, Nat.not_le]; omega) | (simp [*]; done) | (simp; omega)) ?_
  refine TA.take 9 rfl rfl rfl rfl (by kernel_rfl) (by kernel_rfl) (by kernel_rfl) rfl (by kernel_rfl) (by kernel_rfl) (fun _ _ _ h => h) (Y.pick_t rfl rfl rfl) ?_
  refine TA.take 10 rfl rfl rfl rfl (by kernel_rfl) (by kernel_rfl) (by kernel_rfl) rfl (by kernel_rfl) (by kernel_rfl) (fun _ _ _ h => h) (Y.move rfl rfl) ?_
  refine TA.take 11 rfl rfl rfl rfl (by kernel_rfl) (by kernel_rfl) (by kernel_rfl) rfl (by kernel_rfl) (by kernel_rfl) (fun _ _ _ h => h) (Y.loadAgg rfl ag47 rfl (by first | exact Cels.datAt (by with_reducible (repeat first | apply In.here | apply In.there)) (by assumption) | exact Cels.full (by with_reducible (repeat first | apply In.here | apply In.there))) (by first | rfl | ((try simp only [List.length_map, List.length_set, List.length_replicate]); omega))) ?_
  refine TA.take 12 rfl rfl rfl rfl (by kernel_rfl) (by kernel_rfl) (by kernel_rfl) rfl (by kernel_rfl) (by kernel_rfl) (fun _ _ _ h => h) (Y.loadAgg rfl ag47 rfl (by first | exact Cels.datAt (by with_reducible (repeat first | apply In.here | apply In.there)) (by assumption) | exact Cels.full (by with_reducible (repeat first | apply In.here | apply In.there))) (by first | rfl | ((try simp only [List.length_map, List.length_set, List.length_replicate]); omega))) ?_
  refine TA.take 13 rfl rfl rfl rfl (by kernel_rfl) (by kernel_rfl) (by kernel_rfl) rfl (by kernel_rfl) (by kernel_rfl) (fun _ _ _ h => h) (Y.eqSt rfl sf47 sp47 eg47 sn47 rfl rfl (FEq.cons sc45 rfl rfl (EqV.int Try.underlying45) (FEq.cons sc44 rfl rfl (EqV.int Try.underlying44) FEq.nil))) ?_
  refine TA.is true (by first | rfl | (simp only [decide_eq_true_eq, decide_eq_false_iff_not, Bool.not_eq_true', Bool.not_eq_false', Bool.not_eq_eq_eq_not, Bool.not_true, Bool.not_false, Nat.not_lt, Nat.not_le]; omega) | (simp [*]; done) | (simp; omega)) ?_
  refine TA.take 14 rfl rfl rfl rfl (by kernel_rfl) (by kernel_rfl) (by kernel_rfl) rfl (by kernel_rfl) (by kernel_rfl) (fun _ _ _ h => h) (Y.pick_t rfl rfl rfl) ?_
  refine TA.take 15 rfl rfl rfl rfl (by kernel_rfl) (by kernel_rfl) (by kernel_rfl) rfl (by kernel_rfl) (by kernel_rfl) (fun _ _ _ h => h) (Y.move rfl rfl) ?_
  refine TA.take 16 rfl rfl rfl rfl (by kernel_rfl) (by kernel_rfl) (by kernel_rfl) rfl (by kernel_rfl) (by kernel_rfl) (fun _ _ _ h => h) (Y.move rfl rfl) ?_
  refine TA.take 17 rfl rfl rfl rfl (by kernel_rfl) (by kernel_rfl) (by kernel_rfl) rfl (by kernel_rfl) (by kernel_rfl) (fun _ _ _ h => h) (Y.move rfl rfl) ?_
  refine TA.take 18 rfl rfl rfl rfl (by kernel_rfl) (by kernel_rfl) (by kernel_rfl) rfl (by kernel_rfl) (by kernel_rfl) (fun _ _ _ h => h) (Y.bin rfl rfl rfl (br_eqN)) ?_
  refine TA.is true (by first | rfl | (simp only [decide_eq_true_eq, decide_eq_false_iff_not, Bool.not_eq_true', Bool.not_eq_false', Bool.not_eq_eq_eq_not, Bool.not_true, Bool.not_false, Nat.not_lt, Nat.not_le]; omega) | (simp [*]; done) | (simp; omega)) ?_
  refine TA.take 19 rfl rfl rfl rfl (by kernel_rfl) (by kernel_rfl) (by kernel_rfl) rfl (by kernel_rfl) (by kernel_rfl) (fun _ _ _ h => h) (Y.pick_t rfl rfl rfl) ?_
  refine TA.take 20 rfl rfl rfl rfl (by kernel_rfl) (by kernel_rfl) (by kernel_rfl) rfl (by kernel_rfl) (by kernel_rfl) (fun _ _ _ h => h) (Y.move rfl rfl) ?_
  refine TA.take 21 rfl rfl rfl rfl (by kernel_rfl) (by kernel_rfl) (by kernel_rfl) rfl (by kernel_rfl) (by kernel_rfl) (fun _ _ _ h => h) (Y.loadAgg rfl ag47 rfl (by first | exact Cels.datAt (by with_reducible (repeat first | apply In.here | apply In.there)) (by assumption) | exact Cels.full (by with_reducible (repeat first | apply In.here | apply In.there))) (by first | rfl | ((try simp only [List.length_map, List.length_set, List.length_replicate]); omega))) ?_
  refine TA.take 22 rfl rfl rfl rfl (by kernel_rfl) (by kernel_rfl) (by kernel_rfl) rfl (by kernel_rfl) (by kernel_rfl) (fun _ _ _ h => h) (Y.loadAgg rfl ag47 rfl (by first | exact Cels.datAt (by with_reducible (repeat first | apply In.here | apply In.there)) (by assumption) | exact Cels.full (by with_reducible (repeat first | apply In.here | apply In.there))) (by first | rfl | ((try simp only [List.length_map, List.length_set, List.length_replicate]); omega))) ?_
  refine TA.take 23 rfl rfl rfl rfl (by kernel_rfl) (by kernel_rfl) (by kernel_rfl) rfl (by kernel_rfl) (by kernel_rfl) (fun _ _ _ h => h) (Y.eqSt rfl sf47 sp47 eg47 sn47 rfl rfl (FEq.cons sc45 rfl rfl (EqV.int Try.underlying45) (FEq.cons sc44 rfl rfl (EqV.int Try.underlying44) FEq.nil))) ?_
  refine TA.is true (by first | rfl | (simp only [decide_eq_true_eq, decide_eq_false_iff_not, Bool.not_eq_true', Bool.not_eq_false', Bool.not_eq_eq_eq_not, Bool.not_true, Bool.not_false, Nat.not_lt, Nat.not_le]; omega) | (simp [*]; done) | (simp; omega)) ?_
  refine TA.take 24 rfl rfl rfl rfl (by kernel_rfl) (by kernel_rfl) (by kernel_rfl) rfl (by kernel_rfl) (by kernel_rfl) (fun _ _ _ h => h) (Y.pick_t rfl rfl rfl) ?_
  refine TA.take 25 rfl rfl rfl rfl (by kernel_rfl) (by kernel_rfl) (by kernel_rfl) rfl (by kernel_rfl) (by kernel_rfl) (fun _ _ _ h => h) (Y.move rfl rfl) ?_
  refine TA.take 26 rfl rfl rfl rfl (by kernel_rfl) (by kernel_rfl) (by kernel_rfl) rfl (by kernel_rfl) (by kernel_rfl) (fun _ _ _ h => h) (Y.move rfl rfl) ?_
  refine TA.take 27 rfl rfl rfl rfl (by kernel_rfl) (by kernel_rfl) (by kernel_rfl) rfl (by kernel_rfl) (by kernel_rfl) (fun _ _ _ h => h) (Y.bin rfl rfl rfl (br_eqN (n := 0))) ?_
  refine TA.is true (by first | rfl | (simp only [decide_eq_true_eq, decide_eq_false_iff_not, Bool.not_eq_true', Bool.not_eq_false', Bool.not_eq_eq_eq_not, Bool.not_true, Bool.not_false, Nat.not_lt, Nat.not_le]; omega) | (simp [*]; done) | (simp; omega)) ?_
  refine TA.take 28 rfl rfl rfl rfl (by kernel_rfl) (by kernel_rfl) (by kernel_rfl) rfl (by kernel_rfl) (by kernel_rfl) (fun _ _ _ h => h) (Y.pick_t rfl rfl rfl) ?_
  refine TA.take 29 rfl rfl rfl rfl (by kernel_rfl) (by kernel_rfl) (by kernel_rfl) rfl (by kernel_rfl) (by kernel_rfl) (fun _ _ _ h => h) (Y.move rfl rfl) ?_
  refine TA.take 30 rfl rfl rfl rfl (by kernel_rfl) (by kernel_rfl) (by kernel_rfl) rfl (by kernel_rfl) (by kernel_rfl) (fun _ _ _ h => h) (Y.loadAgg rfl ag47 rfl (by first | exact Cels.datAt (by with_reducible (repeat first | apply In.here | apply In.there)) (by assumption) | exact Cels.full (by with_reducible (repeat first | apply In.here | apply In.there))) (by first | rfl | ((try simp only [List.length_map, List.length_set, List.length_replicate]); omega))) ?_
  refine TA.take 33 rfl rfl rfl rfl (by kernel_rfl) (by kernel_rfl) (by kernel_rfl) rfl (by kernel_rfl) (by kernel_rfl) (fun _ _ _ h => h) (Y.loadAgg rfl ag47 rfl (by first | exact Cels.datAt (by with_reducible (repeat first | apply In.here | apply In.there)) (by assumption) | exact Cels.full (by with_reducible (repeat first | apply In.here | apply In.there))) (by first | rfl | ((try simp only [List.length_map, List.length_set, List.length_replicate]); omega))) ?_
  refine TA.one 31 (by kernel_rfl) rfl rfl rfl rfl (X.call rfl Try.func21 (by kernel_rfl) rfl rfl (Fn.preE (by repeat first | (with_reducible apply Ent.refl) | (apply Ent.cons; case h => first | (with_reducible (repeat first | apply Pull.here | apply Pull.there); done) | (repeat first | apply Pull.here | apply Pull.there))) (stun.Mapped_fn _ _ _))) ?_
  rintro _ _ ⟨ma83, mc83, rfl, rfl⟩
  refine ⟨(Or.inr (by repeat first | exact holds_nil | refine holds_cons (by with_reducible (repeat first | apply In.here | apply In.there)) ?_)), ?_⟩
  refine TA.more (A := SA.owns 5 1 (.slice ma83 (mapB ip port).length mc83) (mapB ip port).length ((mapB ip port).map v8)) (by with_reducible (repeat first | apply In.here | apply In.there)) ?_
  refine TA.take 32 rfl rfl rfl rfl (by kernel_rfl) (by kernel_rfl) (by kernel_rfl) rfl (by kernel_rfl) (by kernel_rfl) (fun _ _ _ h => h) (by first | exact Y.str rfl Try.underlying27 Try.underlying9 Try.underlying5 rfl Reads.rds (by with_reducible (repeat first | apply In.here | apply In.there)) | exact Y.str rfl Try.underlying27 Try.underlying9 Try.underlying5 rfl Reads.owns (by with_reducible (repeat first | apply In.here | apply In.there)) | exact Y.str rfl Try.underlying27 Try.underlying9 Try.underlying5 rfl (by assumption) (by with_reducible (repeat first | apply In.here | apply In.there))) ?_
  refine TA.one 34 (by kernel_rfl) rfl rfl rfl rfl (X.call rfl Try.func22 (by kernel_rfl) rfl rfl (Fn.preE (by repeat first | (with_reducible apply Ent.refl) | (apply Ent.cons; case h => first | (with_reducible (repeat first | apply Pull.here | apply Pull.there); done) | (repeat first | apply Pull.here | apply Pull.there))) (stun.refMapped_fn _ _ _))) ?_
  rintro _ _ ⟨ma86, mc86, rfl, rfl⟩
  refine ⟨(Or.inr (by repeat first | exact holds_nil | refine holds_cons (by with_reducible (repeat first | apply In.here | apply In.there)) ?_)), ?_⟩
  refine TA.more (A := SA.owns 5 1 (.slice ma86 (mapB ip port).length mc86) (mapB ip port).length ((mapB ip port).map v8)) (by with_reducible (repeat first | apply In.here | apply In.there)) ?_
  refine TA.take 35 rfl rfl rfl rfl (by kernel_rfl) (by kernel_rfl) (by kernel_rfl) rfl (by kernel_rfl) (by kernel_rfl) (fun _ _ _ h => h) (by first | exact Y.str rfl Try.underlying27 Try.underlying9 Try.underlying5 rfl Reads.rds (by with_reducible (repeat first | apply In.here | apply In.there)) | exact Y.str rfl Try.underlying27 Try.underlying9 Try.underlying5 rfl Reads.owns (by with_reducible (repeat first | apply In.here | apply In.there)) | exact Y.str rfl Try.underlying27 Try.underlying9 Try.underlying5 rfl (by assumption) (by with_reducible (repeat first | apply In.here | apply In.there))) ?_
  refine TA.take 36 rfl rfl rfl rfl (by kernel_rfl) (by kernel_rfl) (by kernel_rfl) rfl (by kernel_rfl) (by kernel_rfl) (fun _ _ _ h => h) (Y.eqStr rfl rfl rfl) ?_
  refine TA.is true (by first | rfl | (simp only [decide_eq_true_eq, decide_eq_false_iff_not, Bool.not_eq_true', Bool.not_eq_false', Bool.not_eq_eq_eq_not, Bool.not_true, Bool.not_false, Nat.not_lt, Nat.not_le]; omega) | (simp [*]; done) | (simp; omega)) ?_
  refine TA.take 37 rfl rfl rfl rfl (by kernel_rfl) (by kernel_rfl) (by kernel_rfl) rfl (by kernel_rfl) (by kernel_rfl) (fun _ _ _ h => h) (Y.pick_t rfl rfl rfl) ?_
  refine TA.take 38 rfl rfl rfl rfl (by kernel_rfl) (by kernel_rfl) (by kernel_rfl) rfl (by kernel_rfl) (by kernel_rfl) (fun _ _ _ h => h) (Y.move rfl rfl) ?_
  refine TA.take 39 rfl rfl rfl rfl (by kernel_rfl) (by kernel_rfl) (by kernel_rfl) rfl (by kernel_rfl) (by kernel_rfl) (fun _ _ _ h => h) (Y.loadAgg rfl ag25 rfl (Cels.all (cs := msgC c m f (.slice a l.length cap)) (by with_reducible (repeat first | apply In.here | apply In.there))) (by first | rfl | ((try simp only [List.length_map, List.length_set, List.length_replicate]); omega))) ?_
  refine TA.as (.agg (msgC c m f (.slice a l.length cap))) (by rfl) ?_
  refine TA.take 41 rfl rfl rfl rfl (by kernel_rfl) (by kernel_rfl) (by kernel_rfl) rfl (by kernel_rfl) (by kernel_rfl) (fun _ _ _ h => h) (Y.move rfl rfl) ?_
  refine TA.take 44 rfl rfl rfl rfl (by kernel_rfl) (by kernel_rfl) (by kernel_rfl) rfl (by kernel_rfl) (by kernel_rfl) (fun _ _ _ h => h) (Y.loadAgg rfl ag25 rfl (Cels.all (cs := msgC c m f (.slice a l.length cap)) (by with_reducible (repeat first | apply In.here | apply In.there))) (by first | rfl | ((try simp only [List.length_map, List.length_set, List.length_replicate]); omega))) ?_
  refine TA.as (.agg (msgC c m f (.slice a l.length cap))) (by rfl) ?_
  refine TA.take 45 rfl rfl rfl rfl (by kernel_rfl) (by kernel_rfl) (by kernel_rfl) rfl (by kernel_rfl) (by kernel_rfl) (fun _ _ _ h => h) (Y.move rfl rfl) ?_
  refine TA.one 40 (by kernel_rfl) rfl rfl rfl rfl (X.call rfl Try.func12 (by kernel_rfl) rfl rfl (Fn.preE (by repeat first | (with_reducible apply Ent.refl) | (apply Ent.cons; case h => first | (with_reducible (repeat first | apply Pull.here | apply Pull.there); done) | (repeat first | apply Pull.here | apply Pull.there))) (stun.theirs_fn _ _ _ _ _ _ (by assumption) (by assumption) _))) ?_
  rintro _ _ ⟨ta92, tc92, tl92, rfl, htl92, rfl⟩
  refine ⟨(Or.inr (by repeat first | exact holds_nil | refine holds_cons (by with_reducible (repeat first | apply In.here | apply In.there)) ?_)), ?_⟩
  refine TA.one 42 (by kernel_rfl) rfl rfl rfl rfl (X.call rfl Try.func23 (by kernel_rfl) rfl rfl (Fn.preE (by repeat first | (with_reducible apply Ent.refl) | (apply Ent.cons; case h => first | (with_reducible (repeat first | apply Pull.here | apply Pull.there); done) | (repeat first | apply Pull.here | apply Pull.there))) (Failure_fn c m f _ code h1 h2 _))) ?_
  rintro _ _ ⟨xa94, xs94, rfl, rfl⟩
  refine ⟨(Or.inr (by repeat first | exact holds_nil | refine holds_cons (by with_reducible (repeat first | apply In.here | apply In.there)) ?_)), ?_⟩
  refine TA.one 43 (by kernel_rfl) rfl rfl rfl rfl (X.call rfl Try.func16 (by kernel_rfl) rfl rfl (Fn.preE (by repeat first | (with_reducible apply Ent.refl) | (apply Ent.cons; case h => first | (with_reducible (repeat first | apply Pull.here | apply Pull.there); done) | (repeat first | apply Pull.here | apply Pull.there))) (ours_fn 3 m f _ 1 [failM code xs94] (by simp) _))) ?_
  rintro _ _ ⟨oa95, oc95, rfl, rfl⟩
  refine ⟨(Or.inr (by repeat first | exact holds_nil | refine holds_cons (by with_reducible (repeat first | apply In.here | apply In.there)) ?_)), ?_⟩
  refine TA.one 46 (by kernel_rfl) rfl rfl rfl rfl (X.call rfl Try.func24 (by kernel_rfl) rfl rfl (Fn.preE (by repeat first | (with_reducible apply Ent.refl) | (apply Ent.cons; case h => first | (with_reducible (repeat first | apply Pull.here | apply Pull.there); done) | (repeat first | apply Pull.here | apply Pull.there))) (refFailure_fn c m f _ code h1 h2 _))) ?_
  rintro _ _ ⟨xa98, xs98, rfl, rfl⟩
  refine ⟨(Or.inr (by repeat first | exact holds_nil | refine holds_cons (by with_reducible (repeat first | apply In.here | apply In.there)) ?_)), ?_⟩
  refine TA.one 47 (by kernel_rfl) rfl rfl rfl rfl (X.call rfl Try.func15 (by kernel_rfl) rfl rfl (Fn.preE (by repeat first | (with_reducible apply Ent.refl) | (apply Ent.cons; case h => first | (with_reducible (repeat first | apply Pull.here | apply Pull.there); done) | (repeat first | apply Pull.here | apply Pull.there))) (Same_fn 3 m f f _ _ _ 1 [failM code xs94] [failM code xs98] rfl rfl _))) ?_
  rintro _ _ ⟨rfl, rfl⟩
  refine ⟨(Or.inr (by repeat first | exact holds_nil | refine holds_cons (by with_reducible (repeat first | apply In.here | apply In.there)) ?_)), ?_⟩
  refine TA.take 48 rfl rfl rfl rfl (by kernel_rfl) (by kernel_rfl) (by kernel_rfl) rfl (by kernel_rfl) (by kernel_rfl) (fun _ _ _ h => h) (Y.pick_t rfl rfl rfl) ?_
  refine TA.take 49 rfl rfl rfl rfl (by kernel_rfl) (by kernel_rfl) (by kernel_rfl) rfl (by kernel_rfl) (by kernel_rfl) (fun _ _ _ h => h) (Y.assign rfl rfl) ?_
  refine TA.done (by kernel_rfl) ?_
  refine TQ.next ?_
  refine TC.ret ?_
  refine TQ.retE (res1 rfl rfl) (⟨rfl, rfl⟩) ?_
  exact (by (repeat first | (with_reducible apply Ent.refl) | (with_reducible apply Ent.nil) | refine Ent.cons (by first | (with_reducible (repeat first | apply Pull.here | apply Pull.there); done) | (repeat first | apply Pull.here | apply Pull.there)) ?_ | refine Ent.skip ?_))
theorem wf_i64 {n : Int} (h : (Lit.int .i64 n).wf = true) : inI n := by
  have := bounds_i64 h
  unfold inI; omega
abbrev AddrD := UInt32 × UInt16
theorem datAddr : DatT Try.prog 47 AddrD (fun _ => True ∧ True) :=
  DatF.all (DatF.cons (n := 1) Try.underlying47 (i := 0) rfl (by kernel_rfl) (DatT.u32 Try.underlying45) (DatF.last (n := 1) Try.underlying47 (i := 1) rfl (by kernel_rfl) (DatT.u16 Try.underlying44) (by kernel_rfl)))
section
variable {H : Type} {enc : TypeId × Value → H} {W : World} {base : Nat}
set_option maxRecDepth 100000 in
theorem parts_open {v0 v2 v3 : Value} {d0 d1 d2 d3 d4 : DataW H} {p0 p2 p3 : List MemPlace} {k c : Int} (hk : (Lit.int .u16 k).wf = true) (hc : (Lit.int .i64 c).wf = true)
    (o0 : Value.okWide Try.prog W .any base 25 v0) (k0 : DataW.Trod enc Try.prog W 0 (fun _ => true) true 25 v0 d0 p0)
    (o2 : Value.okWide Try.prog W .any base 47 v2) (k2 : DataW.Trod enc Try.prog W 0 (fun _ => true) true 47 v2 d2 p2)
    (o3 : Value.okWide Try.prog W .any base 27 v3) (k3 : DataW.Trod enc Try.prog W 0 (fun _ => true) true 27 v3 d3 p3)
    (hsz : (DataW.weightsEach Try.prog ([25, 44, 47, 27, 3] ++ []) ([d0, d1, d2, d3, d4] ++ [])).all (· ≤ reachBytes) = true) :
    Calls Try.prog 5 #[v0, .int .u16 k, v2, v3, .int .i64 c] W fun e w' => e = .returned (.bool true) ∧ Fr [] W w' := by
  obtain ⟨cl, m, f, a, cap, l, rfl, h1, -, -, h2, h3⟩ := open_msg 0 o0 k0 hsz rfl rfl
  obtain ⟨⟨ip, port⟩, rfl, -, -⟩ := open_struct datAddr Try.underlying47 2 o2 k2 hsz rfl rfl
  obtain ⟨a2, cap2, bs, rfl, g1, g2⟩ := open_bytes 3 o3 k3 hsz rfl rfl Try.underlying27 Try.underlying5 (by kernel_rfl) (by kernel_rfl)
  rw [wf_u16 hk]
  exact Fn.topD (As := [SA.dat (⟨a, cap, l⟩ : Sl At), _]) (parts_fn cl m f a cap l h2 h3 (UInt16.ofNat k.toNat) ip port a2 _ cap2 bs rfl (by omega) c (wf_i64 hc).1 (wf_i64 hc).2 [SA.old W]) (fun A hA => by
    rcases hA.two with rfl | rfl
    · exact SA.dat_arg h1
    · exact g1.arg (by decide))
end
end stun
end Go.Proofs.Ytggammbhmoippaa
