/- assoc: Handle of an idle side; the statement on guards. -/
import Derived.Test.YtomplpdeeomehaaAsG
import Derived.Test.YtomplpdeeomehaaAsN
import Derived.Test.YtomplpdeeomehaaAsT
namespace Go.Proofs.Ytomplpdeeomehaa
set_option linter.unusedVariables false
set_option linter.unusedSimpArgs false
open Go.RowKit
namespace ac
open wr (be16 be32)
open rd (num)
--FACTS
theorem kinds {l : List UInt8} {kd : UInt32} (h : Formed l kd) : kd = 1 ∨ kd = 2 ∨ kd = 3 ∨ kd = 4 ∨ kd = 5 ∨ kd = 6 ∨ kd = 7 := by
  have h1 : kd.toNat < 256 := by
    rw [← h.kind, shr32, UInt32.toNat_ofNat_of_lt' (by have := (n32 l 4).toNat_lt; show _ < 4294967296; omega)]
    have := (n32 l 4).toNat_lt; omega
  have h2 : kd.toUInt8.toNat = kd.toNat := by simp; omega
  have key : ∀ j : UInt8, ∀ k : UInt32, j.toNat = k.toNat → kd.toUInt8 = j → kd = k := fun j k e h3 => UInt32.toNat_inj.1 (by rw [← h2, h3, e])
  have hf := h.fits
  unfold fitsB at hf
  split at hf
  · rename_i e; exact .inl (key 1 1 rfl e)
  split at hf
  · rename_i e; exact .inr (.inl (key 2 2 rfl e))
  split at hf
  · rename_i e; exact .inr (.inr (.inl (key 3 3 rfl e)))
  split at hf
  · rename_i e
    rcases e with e | e
    · exact .inr (.inr (.inr (.inl (key 4 4 rfl e))))
    · exact .inr (.inr (.inr (.inr (.inr (.inr (key 7 7 rfl e))))))
  split at hf
  · rename_i e; exact .inr (.inr (.inr (.inr (.inl (key 5 5 rfl e)))))
  split at hf
  · rename_i e; exact .inr (.inr (.inr (.inr (.inr (.inl (key 6 6 rfl e))))))
  · cases hf
theorem formed_or (l : List UInt8) (h8 : 8 ≤ l.length) : (n32 l 4 &&& 16777215 ≠ 0 ∨ fitsB (shr32 (n32 l 4) 24).toUInt8 (l.length - 8) = false ∨ decide (n32 l 0 = 0) ≠ decide (shr32 (n32 l 4) 24 = 1)) ∨ Formed l (shr32 (n32 l 4) 24) := by
  by_cases h1 : n32 l 4 &&& 16777215 = 0
  · by_cases h2 : fitsB (shr32 (n32 l 4) 24).toUInt8 (l.length - 8) = true
    · by_cases h3 : decide (n32 l 0 = 0) = decide (shr32 (n32 l 4) 24 = 1)
      · exact .inr ⟨h8, h1, rfl, h2, h3⟩
      · exact .inl (.inr (.inr h3))
    · exact .inl (.inr (.inl (by simpa using h2)))
  · exact .inl (.inl h1)
section
variable (b : Nat) (p : AP) (S : AS Msg) (a : Option Addr) (n cap : Nat) (l : List UInt8) (hn : l.length = n) (hl : n ≤ 140737488351232) (now : Int) (h0 : S.state = 0) (hsec : S.secret.length ≤ 140737488351232)
include hn hl h0 hsec
/-- a packet that has not its tag -/
theorem Handle_wrong (hw : ¬ (8 ≤ l.length ∧ n32 l 0 = S.tag)) (L : List SA) : Fn Try.prog 12 [pt b 0, .slice a n cap, vI now] (aB b p S :: SA.rds 1 (.slice a n cap) n (l.map v8) :: aS p (S.clocked now) :: L)
    (fun v L' => ∃ (o : Sl Bs) (e : Nat), v = .tuple #[o.v, .slice none 0 0, vN e] ∧ (e = 0 → l.length = 16 ∧ l[4]? = some 1 ∧ o.l.length = 1) ∧ e ≤ 9 ∧ L' = SA.dat o :: aB b p (S.clocked now) :: SA.rds 1 (.slice a n cap) n (l.map v8) :: aS p (S.clocked now) :: L) := by
  have no : ∀ (e : Nat), e ≠ 0 → e ≤ 9 → ∀ L2 : List SA, (∀ v L', (v = noOut e ∧ L' = L2) → ∃ L'', Ent L' L'' ∧ ∃ (o : Sl Bs) (e : Nat), v = .tuple #[o.v, .slice none 0 0, vN e] ∧ (e = 0 → l.length = 16 ∧ l[4]? = some 1 ∧ o.l.length = 1) ∧ e ≤ 9 ∧ L'' = SA.dat o :: L2) := by
    rintro e he h9 L2 v L' ⟨rfl, rfl⟩
    exact ⟨_, Ent.nilD (α := Bs), ⟨none, 0, []⟩, e, rfl, fun h => absurd h he, h9, rfl⟩
  by_cases h8 : 8 ≤ l.length
  · rcases formed_or l h8 with hb | hF
    · exact (H_form b p S a n cap l hn hl now h8 hb _).mono (no 2 (by decide) (by decide) _)
    · generalize hkd : shr32 (n32 l 4) 24 = kd at hF
      rcases kinds hF with rfl | hk
      · by_cases hz : n32 l 8 = 0
        · exact (H_zero1 b p S a n cap l hn hl now 1 hF rfl hz _).mono (no 2 (by decide) (by decide) _)
        · refine Fn.preE (L := aB b p S :: SA.rds 1 (.slice a n cap) n (l.map v8) :: aS p (S.clocked now) :: L) (by exact ett) ((H_init_yes b p S a n cap l hn hl now 1 hF rfl hz (.inl h0) hsec L).mono ?_)
          rintro v L' ⟨o, rfl, ho, rfl⟩
          have h16 : l.length = 16 := by have := hF.fits; simp [fitsB] at this; omega
          obtain ⟨x, hx, hx1⟩ := kind_byte h8 hkd
          refine ⟨_, by exact ett, o, 0, rfl, fun _ => ⟨h16, ?_, by have := congrArg List.length ho; simpa using this⟩, by decide, rfl⟩
          rw [hx, show x = 1 from UInt8.toNat_inj.1 hx1]
      · have ht : n32 l 0 ≠ S.tag := fun h => hw ⟨h8, h⟩
        rcases hk with rfl | hk
        · by_cases hz : n32 l 8 = 0
          · exact (H_zero2 b p S a n cap l hn hl now 2 hF rfl hz _).mono (no 2 (by decide) (by decide) _)
          · exact (H_auth2 b p S a n cap l hn hl now 2 hF rfl hz ht _).mono (no 4 (by decide) (by decide) _)
        · exact (H_auth b p S a n cap l hn hl now kd hF (by rcases hk with rfl | rfl | rfl | rfl | rfl <;> decide) ht _).mono (no 4 (by decide) (by decide) _)
  · exact (H_short b p S a n cap l hn hl now (by omega) _).mono (no 2 (by decide) (by decide) _)
/-- a packet that has its tag -/
theorem Handle_right (ht0 : S.tag ≠ 0) (h8 : 8 ≤ l.length) (ht : n32 l 0 = S.tag) (L : List SA) : Fn Try.prog 12 [pt b 0, .slice a n cap, vI now] (aB b p S :: SA.rds 1 (.slice a n cap) n (l.map v8) :: aS p (S.clocked now) :: L)
    (fun v L' => ∃ (o : Sl Bs) (e : Nat) (S' : AS Msg), v = .tuple #[o.v, .slice none 0 0, vN e] ∧ e ≤ 9 ∧ L' = SA.dat o :: aB b p S' :: SA.rds 1 (.slice a n cap) n (l.map v8) :: aS p (S.clocked now) :: L) := by
  have d3 : ∀ (e : Nat), e ≤ 9 → ∀ (S' : AS Msg) (L2 : List SA), Ent (aB b p S' :: L2) (aB b p S' :: SA.rds 1 (.slice a n cap) n (l.map v8) :: aS p (S.clocked now) :: L) → ∀ v L', (v = noOut e ∧ L' = aB b p S' :: L2) → ∃ L'', Ent L' L'' ∧ ∃ (o : Sl Bs) (e : Nat) (S' : AS Msg), v = .tuple #[o.v, .slice none 0 0, vN e] ∧ e ≤ 9 ∧ L'' = SA.dat o :: aB b p S' :: SA.rds 1 (.slice a n cap) n (l.map v8) :: aS p (S.clocked now) :: L := by
    rintro e he S' L2 hE v L' ⟨rfl, rfl⟩
    exact ⟨_, hE.trans (Ent.nilD (α := Bs)), ⟨none, 0, []⟩, e, S', rfl, he, rfl⟩
  rcases formed_or l h8 with hb | hF
  · exact (H_form b p S a n cap l hn hl now h8 hb _).mono (d3 _ (by decide) _ _ Ent.refl)
  · generalize shr32 (n32 l 4) 24 = kd at hF
    rcases kinds hF with rfl | rfl | rfl | rfl | rfl | rfl | rfl
    · exact absurd (hF.tagged) (by rw [ht]; simp [ht0])
    · by_cases hz : n32 l 8 = 0
      · exact (H_zero2 b p S a n cap l hn hl now 2 hF rfl hz _).mono (d3 _ (by decide) _ _ Ent.refl)
      · exact (H_ack_no b p S a n cap l hn hl now 2 hF rfl hz ht (by omega) _).mono (d3 _ (by decide) _ _ Ent.refl)
    · by_cases hc : l.drop 8 = cookieB (S.clocked now) (n32 l 8) (n32 l 12)
      · refine (H_ck_open b p S a n cap l hn hl now 3 hF rfl ht hsec hc h0 L).mono ?_
        rintro v L' ⟨o, rfl, -, rfl⟩
        exact ⟨_, by exact ett, o, 0, _, rfl, by decide, rfl⟩
      · exact (H_ck_bad b p S a n cap l hn hl now 3 hF rfl ht hsec hc L).mono (d3 _ (by decide) _ _ (by exact ett))
    · exact (H_cka_no b p S a n cap l hn hl now 4 hF rfl ht (by omega) (by omega) _).mono (d3 _ (by decide) _ _ Ent.refl)
    · exact (H_shut5 b p S a n cap l hn hl now 5 hF rfl ht (by omega) _).mono (d3 _ (by decide) _ _ Ent.refl)
    · exact (H_shut6 b p S a n cap l hn hl now 6 hF rfl ht (by omega) _).mono (d3 _ (by decide) _ _ Ent.refl)
    · exact (H_abort b p S a n cap l hn hl now 7 hF rfl ht _).mono (d3 _ (by decide) _ _ Ent.refl)
theorem Handle_idle (T : AS Msg) (hT : T = S.clocked now) (ht0 : S.tag ≠ 0) (L : List SA) : Fn Try.prog 12 [pt b 0, .slice a n cap, vI now] (aB b p S :: SA.rds 1 (.slice a n cap) n (l.map v8) :: aS p T :: L)
    (fun v L' => ∃ (o : Sl Bs) (e : Nat) (S' : AS Msg), v = .tuple #[o.v, .slice none 0 0, vN e] ∧ e ≤ 9 ∧ (¬ (8 ≤ l.length ∧ n32 l 0 = S.tag) → S' = T ∧ (e = 0 → l.length = 16 ∧ l[4]? = some 1 ∧ o.l.length = 1)) ∧ L' = SA.dat o :: aB b p S' :: SA.rds 1 (.slice a n cap) n (l.map v8) :: aS p T :: L) := by
  subst hT
  by_cases hr : 8 ≤ l.length ∧ n32 l 0 = S.tag
  · refine (Handle_right b p S a n cap l hn hl now h0 hsec ht0 hr.1 hr.2 L).mono ?_
    rintro v L' ⟨o, e, S', h1, h2, h3⟩
    exact ⟨_, Ent.refl, o, e, S', h1, h2, fun h => absurd hr h, h3⟩
  · refine (Handle_wrong b p S a n cap l hn hl now h0 hsec hr L).mono ?_
    rintro v L' ⟨o, e, h1, h2, h3, h4⟩
    exact ⟨_, Ent.refl, o, e, _, h1, h3, fun _ => ⟨rfl, h2⟩, h4⟩
end
end ac
end Go.Proofs.Ytomplpdeeomehaa
