/- The logic and the walks, in one text with others: part 6 of 6. -/
import Derived.Test.YtomplpdeeomehaaOk5
/- assoc: rounds in which nothing is lost: what is under way runs dry, the handshake ends, all comes. -/
namespace Go.Proofs.Ytomplpdeeomehaa
set_option linter.unusedVariables false
set_option linter.unusedSimpArgs false
open Go.RowKit
namespace ac
/-! ### how much there is to do -/
def wt : Pk → Nat
  | .init => 4
  | .iack => 3
  | .echo => 2
  | .cack => 1
  | .data _ => 2
  | .sack _ _ => 1
def wts : List Pk → Nat
  | [] => 0
  | p :: l => wt p + wts l
theorem wt_pos (p : Pk) : 1 ≤ wt p := by cases p <;> exact Nat.le_of_ble_eq_true rfl
theorem wts_app (l m : List Pk) : wts (l ++ m) = wts l + wts m := by
  induction l with
  | nil => show wts m = 0 + wts m; omega
  | cons p l ih => show wt p + wts (l ++ m) = wt p + wts l + wts m; omega
theorem wts_len (l : List Pk) : l.length ≤ wts l := by
  induction l with
  | nil => exact Nat.le_refl _
  | cons p l ih => have := wt_pos p; show l.length + 1 ≤ wt p + wts l; omega
theorem wts_take (k : Nat) : ∀ l : List Pk, wts (l.take k) ≤ wts l := by
  induction k with
  | zero => intro l; rw [List.take_zero]; exact Nat.zero_le _
  | succ k ih =>
    intro l
    cases l with
    | nil => exact Nat.le_refl _
    | cons p l => have := ih l; show wt p + wts (l.take k) ≤ wt p + wts l; omega
theorem wts_le (n : Nat) (l : List Pk) (h : ∀ p ∈ l, wt p ≤ n) : wts l ≤ n * l.length := by
  induction l with
  | nil => exact Nat.zero_le _
  | cons p l ih =>
    have h1 := h p List.mem_cons_self
    have h2 := ih fun q hq => h q (List.mem_cons_of_mem _ hq)
    show wt p + wts l ≤ n * (l.length + 1)
    rw [Nat.mul_add, Nat.mul_one]; omega
theorem wts_data (l : List Nat) (f : Nat → Nat) : wts (l.map fun i => Pk.data (f i)) = 2 * l.length := by
  induction l with
  | nil => rfl
  | cons x l ih => show 2 + wts (l.map fun i => Pk.data (f i)) = 2 * (l.length + 1); omega
def un (q : Q) : Nat := q.msgs.length - (q.acked + q.sent)
def Phi (Y : NQ) : Nat := wts Y.ab + wts Y.ba + 2 * un Y.a + 2 * un Y.b
theorem more_phi {q : Q} {ol : Nat} (hb : QB q ol) : wts q.moreOut + 2 * un q.more = 2 * un q := by
  obtain ⟨e1, e2, e3, e4, e5, e6, e7, e8⟩ := Q.more_same q
  have hw := hb.win; have h16 := hb.s16
  have hl : q.len = q.msgs.length - q.acked := rfl
  unfold un
  rw [e2, e6, e8]
  unfold Q.moreOut Q.win
  rw [wts_data, List.length_range']
  omega
theorem hand_phi {q : Q} {ol : Nat} (hb : QB q ol) (p : Pk) : wts (q.hand p).2 + 2 * un (q.hand p).1 + 1 ≤ wt p + 2 * un q := by
  cases p with
  | init =>
    simp only [Q.hand]
    split
    · show 3 + 0 + 2 * un q + 1 ≤ 4 + 2 * un q; omega
    · show 0 + 2 * un q + 1 ≤ 4 + 2 * un q; omega
  | iack =>
    simp only [Q.hand]
    split
    · show 2 + 0 + 2 * un q + 1 ≤ 3 + 2 * un q; omega
    · show 0 + 2 * un q + 1 ≤ 3 + 2 * un q; omega
  | echo =>
    simp only [Q.hand]
    split
    · show 1 + 0 + 2 * un q + 1 ≤ 2 + 2 * un q; omega
    · simp only
      split
      · show 1 + 0 + 2 * un q + 1 ≤ 2 + 2 * un q; omega
      · show 0 + 2 * un q + 1 ≤ 2 + 2 * un q; omega
  | cack =>
    simp only [Q.hand]
    split
    · show 0 + 2 * un q + 1 ≤ 1 + 2 * un q; omega
    · show 0 + 2 * un q + 1 ≤ 1 + 2 * un q; omega
  | data i =>
    simp only [Q.hand]
    split
    · have e := Q.recv_same q i
      have : un (q.recv i) = un q := by unfold un; rw [e.2.1, e.2.2.1, e.2.2.2.1]
      show 1 + 0 + 2 * un (q.recv i) + 1 ≤ 2 + 2 * un q
      omega
    · show 0 + 2 * un q + 1 ≤ 2 + 2 * un q; omega
  | sack c l =>
    simp only [Q.hand]
    split
    · rename_i hs
      have h1 := more_phi (hb.ack1 hs c l)
      have n1 := (ack1_nums q c l).1
      have h2 : un (q.ack1 c l) = un q := by unfold un; rw [n1, (Q.ack1_same q c l).2.1]
      show wts (q.ack1 c l).moreOut + 2 * un (q.ack1 c l).more + 1 ≤ 1 + 2 * un q
      omega
    · show 0 + 2 * un q + 1 ≤ 1 + 2 * un q; omega
def NQ.r3 (Y : NQ) : NQ := match Y.ab with
  | [] => Y
  | p :: t => (({ Y with ab := t } : NQ).hand3 p).clip
def NQ.r4 (Y : NQ) : NQ := match Y.ba with
  | [] => Y
  | p :: t => (({ Y with ba := t } : NQ).hand4 p).clip
theorem idx0 (n : Nat) : idxN 0 n = 0 := by unfold idxN; exact Nat.zero_mod n
theorem step_r3 (Y : NQ) (nw : UInt16) (d : List UInt8) : Y.step 3 0 false d nw = Y.r3 := by
  unfold NQ.step NQ.r3
  rw [if_neg (by decide), if_neg (by decide), if_pos (by decide), idx0]
  cases h : Y.ab with
  | nil => rw [if_pos rfl]
  | cons p t =>
    rw [if_neg (by simp)]
    simp only [NQ.pop3, h, List.eraseIdx_zero, List.tail_cons, true_or, if_true, if_pos]
    rfl
theorem step_r4 (Y : NQ) (nw : UInt16) (d : List UInt8) : Y.step 4 0 false d nw = Y.r4 := by
  unfold NQ.step NQ.r4
  rw [if_neg (by decide), if_neg (by decide), if_neg (by decide), if_pos (by decide), idx0]
  cases h : Y.ba with
  | nil => rw [if_pos rfl]
  | cons p t =>
    rw [if_neg (by simp)]
    simp only [NQ.pop4, h, List.eraseIdx_zero, List.tail_cons, true_or, if_true, if_pos]
    rfl
theorem r4_swap (Y : NQ) : Y.r4 = Y.swap.r3.swap := by
  unfold NQ.r4 NQ.r3
  show _ = (match Y.ba with | [] => Y.swap | p :: t => (({ Y.swap with ab := t } : NQ).hand3 p).clip).swap
  cases Y.ba with
  | nil => rfl
  | cons p t => rfl
theorem Phi_swap (Y : NQ) : Phi Y.swap = Phi Y := by
  show wts Y.ba + wts Y.ab + 2 * un Y.b + 2 * un Y.a = wts Y.ab + wts Y.ba + 2 * un Y.a + 2 * un Y.b; omega
section
variable {Y : NQ}
theorem un_clk (q : Q) (now : Int) : un (q.clocked now) = un q := rfl
theorem r3_phi (hn : Net Y) (h : Y.ab ≠ []) : Phi Y.r3 + 1 ≤ Phi Y := by
  unfold NQ.r3
  match he : Y.ab with
  | [] => exact absurd he h
  | p :: t =>
    have h1 := hand_phi (hn.qb.clocked Y.now) p
    have h2 := wts_take 200 t
    have h3 := wts_take 200 (Y.ba ++ ((Y.b.clocked Y.now).hand p).2)
    rw [wts_app] at h3
    have h4 : wts Y.ab = wt p + wts t := by rw [he]; rfl
    rw [un_clk] at h1
    show wts (t.take 200) + wts ((Y.ba ++ ((Y.b.clocked Y.now).hand p).2).take 200) + 2 * un Y.a + 2 * un ((Y.b.clocked Y.now).hand p).1 + 1 ≤ wts Y.ab + wts Y.ba + 2 * un Y.a + 2 * un Y.b
    omega
theorem r3_le (hn : Net Y) : Phi Y.r3 ≤ Phi Y := by
  by_cases h : Y.ab = []
  · have : Y.r3 = Y := by unfold NQ.r3; rw [h]
    rw [this]; exact Nat.le_refl _
  · have := r3_phi hn h; omega
theorem r4_phi (hn : Net Y) (h : Y.ba ≠ []) : Phi Y.r4 + 1 ≤ Phi Y := by
  rw [r4_swap, Phi_swap, ← Phi_swap Y]; exact r3_phi hn.swap h
theorem r4_le (hn : Net Y) : Phi Y.r4 ≤ Phi Y := by
  rw [r4_swap, Phi_swap, ← Phi_swap Y]; exact r3_le hn.swap
theorem r3_whole (hn : Net Y) (hφ : Phi Y ≤ 200) {p : Pk} {t : List Pk} (he : Y.ab = p :: t) : Y.r3 = ({ Y with ab := t } : NQ).hand3 p := by
  have h1 := hand_phi (hn.qb.clocked Y.now) p
  rw [un_clk] at h1
  have h4 : wts Y.ab = wt p + wts t := by rw [he]; rfl
  have h5 := wts_len t
  have h6 := wts_len (Y.ba ++ ((Y.b.clocked Y.now).hand p).2)
  rw [wts_app] at h6
  have hp : wts Y.ab + wts Y.ba + 2 * un Y.a + 2 * un Y.b ≤ 200 := hφ
  have e1 : t.take 200 = t := List.take_of_length_le (by omega)
  have e2 : (Y.ba ++ ((Y.b.clocked Y.now).hand p).2).take 200 = Y.ba ++ ((Y.b.clocked Y.now).hand p).2 := List.take_of_length_le (by omega)
  unfold NQ.r3
  rw [he]
  show ({ Y with ab := t.take 200, b := ((Y.b.clocked Y.now).hand p).1, ba := (Y.ba ++ ((Y.b.clocked Y.now).hand p).2).take 200 } : NQ) = _
  rw [e1, e2]; rfl
theorem GT.r3 (h : GT Y) (hn : Net Y) : GT Y.r3 := by
  unfold NQ.r3
  match he : Y.ab with
  | [] => exact h
  | p :: t =>
    have h1 := h.hand3 hn p (by rw [he]; exact List.mem_cons_self)
    exact (h1.less (f := t) (b := (Y.hand3 p).ba) (fun x hx => by show x ∈ Y.ab; rw [he]; exact List.mem_cons_of_mem _ hx) fun x hx => hx).clip
theorem GT.r4 (h : GT Y) (hn : Net Y) : GT Y.r4 := by
  rw [r4_swap]; exact (h.swap.r3 hn.swap).swap
theorem HS.clip (h : HS Y) : HS Y.clip := h.less fun p hp => List.mem_of_mem_take hp
theorem HS.r3 (h : HS Y) : HS Y.r3 := by
  unfold NQ.r3
  match he : Y.ab with
  | [] => exact h
  | p :: t => exact ((h.less (f := t) (b := Y.ba) fun x hx => hx).hand3 p).clip
theorem HS.r4 (h : HS Y) : HS Y.r4 := by
  unfold NQ.r4
  match he : Y.ba with
  | [] => exact h
  | p :: t =>
    have h1 := h.hand4 p (by rw [he]; exact List.mem_cons_self)
    exact (h1.less (f := (Y.hand4 p).ab) (b := t) fun x hx => by show x ∈ Y.ba; rw [he]; exact List.mem_cons_of_mem _ hx).clip
def Gone (Y : NQ) : Prop := Y.a.state = 4 ∨ Y.b.state = 4
theorem Gone.r3 : Gone Y.r3 ↔ Gone Y := by
  unfold NQ.r3
  match he : Y.ab with
  | [] => exact Iff.rfl
  | p :: t =>
    have := (hs_hand (Y.b.clocked Y.now) p).2.2
    show Y.a.state = 4 ∨ ((Y.b.clocked Y.now).hand p).1.state = 4 ↔ Y.a.state = 4 ∨ Y.b.state = 4
    rw [← this]; exact Iff.rfl
theorem Gone.r4 : Gone Y.r4 ↔ Gone Y := by
  rw [r4_swap]
  exact Iff.trans Or.comm ((Gone.r3 (Y := Y.swap)).trans Or.comm)
/-! ### the handshake -/
structure J (Y : NQ) : Prop where
  one : Y.a.state = 1 → Pk.init ∈ Y.ab ∨ Pk.iack ∈ Y.ba
  two : Y.a.state = 2 → Pk.echo ∈ Y.ab ∨ Pk.cack ∈ Y.ba
theorem J.r3 (h : J Y) (hn : Net Y) (hh : HS Y) (hg : ¬ Gone Y) (hφ : Phi Y ≤ 200) : J Y.r3 := by
  match he : Y.ab with
  | [] =>
    have : Y.r3 = Y := by unfold NQ.r3; rw [he]
    rw [this]; exact h
  | p :: t =>
    rw [r3_whole hn hφ he]
    have hb : Y.b.state = 0 ∨ Y.b.state = 3 := by
      have h1 := hh.b1; have h2 := hh.four.2
      have h4 : Y.b.state ≠ 4 := fun e => hg (.inr e)
      omega
    refine ⟨fun ha => ?_, fun ha => ?_⟩
    · rcases h.one ha with h1 | h1
      · rw [he] at h1
        rcases List.mem_cons.1 h1 with h2 | h2
        · refine .inr (List.mem_append_right _ ?_)
          rw [← h2]
          show Pk.iack ∈ (if (Y.b.clocked Y.now).state = 0 ∨ (Y.b.clocked Y.now).state = 3 then [Pk.iack] else [])
          rw [if_pos (show (Y.b.clocked Y.now).state = 0 ∨ (Y.b.clocked Y.now).state = 3 from hb)]; exact List.mem_singleton.2 rfl
        · exact .inl h2
      · exact .inr (List.mem_append_left _ h1)
    · rcases h.two ha with h1 | h1
      · rw [he] at h1
        rcases List.mem_cons.1 h1 with h2 | h2
        · refine .inr (List.mem_append_right _ ?_)
          rw [← h2]
          show Pk.cack ∈ ((Y.b.clocked Y.now).hand .echo).2
          simp only [Q.hand]
          rcases hb with hb | hb
          · rw [if_pos (show (Y.b.clocked Y.now).state = 0 from hb)]; exact List.mem_singleton.2 rfl
          · rw [if_neg (show ¬ (Y.b.clocked Y.now).state = 0 by show ¬ Y.b.state = 0; omega), if_pos (show (Y.b.clocked Y.now).state = 3 from hb)]; exact List.mem_singleton.2 rfl
        · exact .inl h2
      · exact .inr (List.mem_append_left _ h1)
theorem J.r4 (h : J Y) (hn : Net Y) (hφ : Phi Y ≤ 200) : J Y.r4 := by
  match he : Y.ba with
  | [] =>
    have : Y.r4 = Y := by unfold NQ.r4; rw [he]
    rw [this]; exact h
  | p :: t =>
    have hw : Y.r4 = ({ Y with ba := t } : NQ).hand4 p := by
      rw [r4_swap, r3_whole hn.swap (by rw [Phi_swap]; exact hφ) (p := p) (t := t) he]; rfl
    rw [hw]
    have hst := hand_st (Y.a.clocked Y.now) p
    refine ⟨fun ha => ?_, fun ha => ?_⟩
    · have ha : ((Y.a.clocked Y.now).hand p).1.state = 1 := ha
      have ha1 : Y.a.state = 1 := by
        rcases hst with e | ⟨_, _, e⟩ | ⟨_, _, e⟩ | ⟨_, _, e⟩
        · rw [e] at ha; exact ha
        · omega
        · omega
        · omega
      rcases h.one ha1 with h1 | h1
      · exact .inl (List.mem_append_left _ h1)
      · rw [he] at h1
        rcases List.mem_cons.1 h1 with h2 | h2
        · -- an INIT-ACK: then it asks no more
          exfalso
          rw [← h2] at ha
          simp only [Q.hand] at ha
          rw [if_pos (show (Y.a.clocked Y.now).state = 1 from ha1)] at ha
          exact absurd (show (2 : Nat) = 1 from ha) (by decide)
        · exact .inr h2
    · have ha : ((Y.a.clocked Y.now).hand p).1.state = 2 := ha
      rcases hst with e | ⟨_, _, e⟩ | ⟨e1, e2, e3⟩ | ⟨_, _, e⟩
      · have ha2 : Y.a.state = 2 := by rw [e] at ha; exact ha
        rcases h.two ha2 with h1 | h1
        · exact .inl (List.mem_append_left _ h1)
        · rw [he] at h1
          rcases List.mem_cons.1 h1 with h2 | h2
          · exfalso
            rw [← h2] at ha
            simp only [Q.hand] at ha
            rw [if_pos (show (Y.a.clocked Y.now).state = 2 from ha2)] at ha
            exact absurd (show (3 : Nat) = 2 from ha) (by decide)
          · exact .inr h2
      · omega
      · refine .inl (List.mem_append_right _ ?_)
        rw [e2]
        show Pk.echo ∈ ((Y.a.clocked Y.now).hand .iack).2
        simp only [Q.hand]
        rw [if_pos e1]; exact List.mem_singleton.2 rfl
      · omega
/-! ### the messages -/
structure DF (s r : Q) (fwd bwd : List Pk) : Prop where
  d : ∀ i, s.acked ≤ i → i < s.acked + s.sent → Pk.data i ∈ fwd ∨ Has r i
  f : r.got = s.acked ∨ (∃ l, Pk.sack r.got l ∈ bwd) ∨ ∃ i, Pk.data i ∈ fwd
theorem more_new {q : Q} {i : Nat} (h1 : q.acked + q.sent ≤ i) (h2 : i < q.more.acked + q.more.sent) : Pk.data i ∈ q.moreOut := by
  obtain ⟨e1, e2, e3, e4, e5, e6, e7, e8⟩ := Q.more_same q
  rw [e6, e8] at h2
  unfold Q.moreOut Q.win
  exact List.mem_map.2 ⟨i - q.acked, List.mem_range'_1.2 (by omega), by show Pk.data (q.acked + (i - q.acked)) = _; congr 1; omega⟩
theorem DF.recv {s r : Q} {p : Pk} {t bwd : List Pk} {ol ol2 : Nat} (h : DF s r (p :: t) bwd) (hg : G s r (p :: t) bwd) (hb : QB r ol) (hs : QB s ol2) (hr : r.state = 3) : DF s (r.hand p).1 t (bwd ++ (r.hand p).2) := by
  rcases hand_cases r p with ⟨i, rfl, _, e⟩ | ⟨c, l, rfl, _, e⟩ | ⟨e1, e2, e3, e4, e5, e6, e7, e8, e9⟩
  · rw [e]
    refine ⟨fun j h1 h2 => ?_, .inr (.inl ⟨_, List.mem_append_right _ (List.mem_singleton.2 rfl)⟩)⟩
    rcases h.d j h1 h2 with h3 | h3
    · rcases List.mem_cons.1 h3 with h4 | h4
      · injection h4 with h4
        subst h4
        have := hg.acked; have := hs.s16
        exact .inr (recv_come r j (by omega))
      · exact .inl h4
    · exact .inr (recv_has r i j h3)
  · rw [e]
    have m := Q.more_same (r.ack1 c l)
    have k := Q.ack1_same r c l
    have eg : (r.ack1 c l).more.got = r.got := m.2.2.1.trans k.2.2.1
    have ek : (r.ack1 c l).more.kept = r.kept := m.2.2.2.1.trans k.2.2.2.1
    refine ⟨fun j h1 h2 => ?_, ?_⟩
    · rcases h.d j h1 h2 with h3 | h3
      · rcases List.mem_cons.1 h3 with h4 | h4
        · cases h4
        · exact .inl h4
      · exact .inr (by unfold Has; rw [eg, ek]; exact h3)
    · rw [eg]
      rcases h.f with h3 | ⟨l', h3⟩ | ⟨j, h3⟩
      · exact .inl h3
      · exact .inr (.inl ⟨l', List.mem_append_left _ h3⟩)
      · rcases List.mem_cons.1 h3 with h4 | h4
        · cases h4
        · exact .inr (.inr ⟨j, h4⟩)
  · refine ⟨fun j h1 h2 => ?_, ?_⟩
    · rcases h.d j h1 h2 with h3 | h3
      · rcases List.mem_cons.1 h3 with h4 | h4
        · exact absurd hr (e8 j h4.symm)
        · exact .inl h4
      · exact .inr (by unfold Has; rw [e1, e2]; exact h3)
    · rw [e1]
      rcases h.f with h3 | ⟨l', h3⟩ | ⟨j, h3⟩
      · exact .inl h3
      · exact .inr (.inl ⟨l', List.mem_append_left _ h3⟩)
      · rcases List.mem_cons.1 h3 with h4 | h4
        · exact absurd hr (e8 j h4.symm)
        · exact .inr (.inr ⟨j, h4⟩)
theorem DF.sends {s r : Q} {p : Pk} {t fwd : List Pk} (h : DF s r fwd (p :: t)) (hg : G s r fwd (p :: t)) (hs : s.state = 3) : DF (s.hand p).1 r (fwd ++ (s.hand p).2) t := by
  rcases hand_cases s p with ⟨i, rfl, _, e⟩ | ⟨c, l, rfl, _, e⟩ | ⟨e1, e2, e3, e4, e5, e6, e7, e8, e9⟩
  · rw [e]
    have k := Q.recv_same s i
    refine ⟨fun j h1 h2 => ?_, ?_⟩
    · rw [k.2.2.1] at h1 h2
      rw [k.2.2.2.1] at h2
      exact (h.d j h1 h2).imp (fun x => List.mem_append_left _ x) id
    · rw [k.2.2.1]
      rcases h.f with h3 | ⟨l', h3⟩ | ⟨j, h3⟩
      · exact .inl h3
      · rcases List.mem_cons.1 h3 with h4 | h4
        · cases h4
        · exact .inr (.inl ⟨l', h4⟩)
      · exact .inr (.inr ⟨j, List.mem_append_left _ h3⟩)
  · rw [e]
    obtain ⟨n1, n2⟩ := ack1_nums s c l
    have m := Q.more_same (s.ack1 c l)
    have hcum := hg.cum c l List.mem_cons_self
    have hack := hg.acked; have hgot := hg.got
    refine ⟨fun j h1 h2 => ?_, ?_⟩
    · by_cases hj : j < s.acked + s.sent
      · have h3 : s.acked ≤ j := by
          rw [m.2.2.2.2.2.1] at h1
          rcases n2 with ⟨e1, _⟩ | ⟨e1, e2⟩
          · omega
          · have : s.acked < c ∧ c ≤ s.acked + s.sent := of_decide_eq_true e2
            omega
        exact (h.d j h3 hj).imp (fun x => List.mem_append_left _ x) id
      · exact .inl (List.mem_append_right _ (more_new (by omega) h2))
    · show r.got = (s.ack1 c l).more.acked ∨ _
      rw [m.2.2.2.2.2.1]
      have hleft : ∀ x, c = x → x = r.got → r.got = (s.ack1 c l).acked := fun x h1 h2 => by
        rcases n2 with ⟨e1, e2⟩ | ⟨e1, _⟩
        · have : ¬ (s.acked < c ∧ c ≤ s.acked + s.sent) := of_decide_eq_false e2
          omega
        · omega
      rcases h.f with h3 | ⟨l', h3⟩ | ⟨j, h3⟩
      · refine .inl ?_
        rcases n2 with ⟨e1, _⟩ | ⟨e1, e2⟩
        · omega
        · have : s.acked < c ∧ c ≤ s.acked + s.sent := of_decide_eq_true e2
          omega
      · rcases List.mem_cons.1 h3 with h4 | h4
        · injection h4 with h5 h6
          exact .inl (hleft c rfl h5.symm)
        · exact .inr (.inl ⟨l', h4⟩)
      · exact .inr (.inr ⟨j, List.mem_append_left _ h3⟩)
  · refine ⟨fun j h1 h2 => ?_, ?_⟩
    · rw [e3] at h1 h2
      rw [e4] at h2
      exact (h.d j h1 h2).imp (fun x => List.mem_append_left _ x) id
    · rw [e3]
      rcases h.f with h3 | ⟨l', h3⟩ | ⟨j, h3⟩
      · exact .inl h3
      · rcases List.mem_cons.1 h3 with h4 | h4
        · exact absurd hs (e9 _ l' h4.symm)
        · exact .inr (.inl ⟨l', h4⟩)
      · exact .inr (.inr ⟨j, List.mem_append_left _ h3⟩)
structure D2 (Y : NQ) : Prop where
  oa : Y.a.state = 3
  ob : Y.b.state = 3
  d1 : DF Y.a Y.b Y.ab Y.ba
  d2 : DF Y.b Y.a Y.ba Y.ab
theorem D2.swap (h : D2 Y) : D2 Y.swap := ⟨h.ob, h.oa, h.d2, h.d1⟩
theorem D2.r3 (h : D2 Y) (hn : Net Y) (hg : GT Y) (hφ : Phi Y ≤ 200) : D2 Y.r3 := by
  match he : Y.ab with
  | [] =>
    have : Y.r3 = Y := by unfold NQ.r3; rw [he]
    rw [this]; exact h
  | p :: t =>
    rw [r3_whole hn hφ he]
    have hst : ((Y.b.clocked Y.now).hand p).1.state = 3 := by
      have hb3 : (Y.b.clocked Y.now).state = 3 := h.ob
      rcases hand_st (Y.b.clocked Y.now) p with e | ⟨e1, _, _⟩ | ⟨e1, _, _⟩ | ⟨e1, _, _⟩
      · rw [e]; exact hb3
      · omega
      · omega
      · omega
    have h1 : DF Y.a (Y.b.clocked Y.now) (p :: t) Y.ba := ⟨by rw [← he]; exact h.d1.d, by rw [← he]; exact h.d1.f⟩
    have h2 : DF (Y.b.clocked Y.now) Y.a Y.ba (p :: t) := ⟨h.d2.d, by rw [← he]; exact h.d2.f⟩
    have g1 := hg.g1.clk2 Y.now
    have g2 := hg.g2.clk Y.now
    rw [he] at g1 g2
    exact ⟨h.oa, hst, h1.recv g1 (hn.qb.clocked Y.now) hn.qa h.ob, h2.sends g2 h.ob⟩
theorem D2.r4 (h : D2 Y) (hn : Net Y) (hg : GT Y) (hφ : Phi Y ≤ 200) : D2 Y.r4 := by
  rw [r4_swap]; exact (h.swap.r3 hn.swap hg.swap (by rw [Phi_swap]; exact hφ)).swap
theorem DF.dry {s r : Q} {ol ol2 : Nat} (h : DF s r [] []) (hb : QB r ol) (hw : QB s ol2) (hall : s.sent = min s.len 16) : r.got = s.acked ∧ s.acked = s.msgs.length := by
  have hf : r.got = s.acked := by
    rcases h.f with h1 | ⟨l, h1⟩ | ⟨i, h1⟩
    · exact h1
    · cases h1
    · cases h1
  refine ⟨hf, ?_⟩
  have hl : s.len = s.msgs.length - s.acked := rfl
  have h1 := hw.win
  by_cases hs : s.sent = 0
  · omega
  · exfalso
    rcases h.d s.acked (Nat.le_refl _) (by omega) with h2 | h2 | h2
    · cases h2
    · omega
    · have := (hb.kept _ h2).1; omega
end
end ac
end Go.Proofs.Ytomplpdeeomehaa


/- assoc: once nothing is lost all comes: the rounds, put together. -/
namespace Go.Proofs.Ytomplpdeeomehaa
set_option linter.unusedVariables false
set_option linter.unusedSimpArgs false
open Go.RowKit
namespace ac
/-! ### any step keeps what holds always -/
section
variable {Y : NQ}
theorem HS.send1 (h : HS Y) (m : PM) : HS (Y.send1 m) := by
  have e := Q.send_state Y.a m Y.now
  exact ⟨by show (Y.a.send m Y.now).1.state ≠ 0; rw [e]; exact h.a1, h.b1, ⟨by show (Y.a.send m Y.now).1.state ≤ 4; rw [e]; exact h.four.1, h.four.2⟩, h.ck, fun ha => h.op (by rw [← e]; exact ha), h.ini⟩
theorem HS.send2 (h : HS Y) (hn : Net Y) (m : PM) (hl : Y.b.msgs.length < 100000) : HS (Y.send2 m) := by
  have e := Q.send_state Y.b m Y.now
  have ho := Q.send_out hn.qb m Y.now hl
  refine ⟨h.a1, by show (Y.b.send m Y.now).1.state ≠ 1 ∧ (Y.b.send m Y.now).1.state ≠ 2; rw [e]; exact h.b1, ⟨h.four.1, by show (Y.b.send m Y.now).1.state ≤ 4; rw [e]; exact h.four.2⟩, fun hc => ?_, fun ha => by show 3 ≤ (Y.b.send m Y.now).1.state; rw [e]; exact h.op ha, fun p hp => ?_⟩
  · show 3 ≤ (Y.b.send m Y.now).1.state
    rw [e]
    rcases List.mem_append.1 hc with hc | hc
    · exact h.ck hc
    · obtain ⟨i, hi, _⟩ := ho _ hc; cases hi
  · rcases List.mem_append.1 hp with hp | hp
    · exact h.ini p hp
    · obtain ⟨i, rfl, _⟩ := ho p hp; exact ⟨nofun, nofun⟩
theorem inv_step (hg : GT Y) (hh : HS Y) (hn : Net Y) (h2 : Y.b.msgs.length < 100000) (kind N : Int) (keep : Bool) (d : List UInt8) (nw : UInt16) : GT (Y.step kind N keep d nw) ∧ HS (Y.step kind N keep d nw) := by
  unfold NQ.step
  split
  · exact ⟨(hg.send1 hn _).clip, (hh.send1 _).clip⟩
  split
  · exact ⟨((hg.swap.send1 hn.swap _).swap).clip, (hh.send2 hn _ h2).clip⟩
  split
  · split
    · exact ⟨hg, hh⟩
    · rename_i he
      have hm := getD_mem Y.ab (idxN N Y.ab.length) .cack (idxN_lt (List.length_pos_iff.2 he))
      simp only
      generalize Y.ab.getD (idxN N Y.ab.length) .cack = p at hm ⊢
      generalize idxN N Y.ab.length = k
      have g1 := hg.hand3 hn p hm
      have s1 := hh.hand3 p
      have hl : ∀ x ∈ Y.ab.eraseIdx k, x ∈ Y.ab := fun x hx => List.mem_of_mem_eraseIdx hx
      split
      · split
        · exact ⟨(g1.less (f := Y.ab.eraseIdx k) (b := (Y.hand3 p).ba) hl fun _ hx => hx).clip, (s1.less (f := Y.ab.eraseIdx k) (b := (Y.hand3 p).ba) fun _ hx => hx).clip⟩
        · exact ⟨g1.clip, s1.clip⟩
      · split
        · exact ⟨(hg.less (f := Y.ab.eraseIdx k) (b := Y.ba) hl fun _ hx => hx).clip, (hh.less (f := Y.ab.eraseIdx k) (b := Y.ba) fun _ hx => hx).clip⟩
        · exact ⟨hg.clip, hh.clip⟩
  split
  · split
    · exact ⟨hg, hh⟩
    · rename_i he
      have hm := getD_mem Y.ba (idxN N Y.ba.length) .cack (idxN_lt (List.length_pos_iff.2 he))
      simp only
      generalize Y.ba.getD (idxN N Y.ba.length) .cack = p at hm ⊢
      generalize idxN N Y.ba.length = k
      have g1 : GT (Y.hand4 p) := (hg.swap.hand3 hn.swap p hm).swap
      have s1 := hh.hand4 p hm
      have hl : ∀ x ∈ Y.ba.eraseIdx k, x ∈ Y.ba := fun x hx => List.mem_of_mem_eraseIdx hx
      split
      · split
        · exact ⟨(g1.less (f := (Y.hand4 p).ab) (b := Y.ba.eraseIdx k) (fun _ hx => hx) hl).clip, (s1.less (f := (Y.hand4 p).ab) (b := Y.ba.eraseIdx k) hl).clip⟩
        · exact ⟨g1.clip, s1.clip⟩
      · split
        · exact ⟨(hg.less (f := Y.ab) (b := Y.ba.eraseIdx k) (fun _ hx => hx) hl).clip, (hh.less (f := Y.ab) (b := Y.ba.eraseIdx k) hl).clip⟩
        · exact ⟨hg.clip, hh.clip⟩
  split
  · exact ⟨(hg.tick _).clip, (hh.tick hn _).clip⟩
  · exact ⟨hg.clip, hh.clip⟩
/-! ### the phases -/
def Dry (Y : NQ) : Prop := Y.ab = [] ∧ Y.ba = []
theorem Dry.r3 (h : Dry Y) : Y.r3 = Y := by unfold NQ.r3; rw [h.1]
theorem Dry.r4 (h : Dry Y) : Y.r4 = Y := by unfold NQ.r4; rw [h.2]
def phi (i : Nat) : Nat := max 192 (1528 - 236 * i)
structure InQ (i j : Nat) (Y : NQ) : Prop where
  gt : GT Y
  hs : HS Y
  ok : Gone Y ∨ ((Dry Y ∨ Phi Y + j ≤ phi i) ∧ (7 ≤ i → J Y) ∧ (8 ≤ i → D2 Y))
theorem InQ.round {i j : Nat} (h : InQ i j Y) (hn : Net Y) (hn3 : Net Y.r3) : InQ i (j + 1) Y.r3.r4 := by
  refine ⟨(h.gt.r3 hn).r4 hn3, h.hs.r3.r4, ?_⟩
  by_cases hg : Gone Y
  · exact .inl (Gone.r4.2 (Gone.r3.2 hg))
  obtain ⟨h1, h2, h3⟩ := h.ok.resolve_left hg
  have hg3 : ¬ Gone Y.r3 := fun x => hg (Gone.r3.1 x)
  by_cases hd : Dry Y
  · rw [hd.r3, hd.r4]; exact .inr ⟨.inl hd, h2, h3⟩
  have hp := h1.resolve_left hd
  have l3 := r3_le hn
  have l4 := r4_le hn3
  have hφ : 7 ≤ i → Phi Y ≤ 200 := fun hi => by unfold phi at hp; omega
  refine .inr ⟨?_, fun hi => ?_, fun hi => ?_⟩
  · by_cases ha : Y.ab = []
    · have e3 : Y.r3 = Y := by unfold NQ.r3; rw [ha]
      by_cases hb : Y.ba = []
      · exact absurd ⟨ha, hb⟩ hd
      · have := r4_phi hn hb
        rw [e3]; exact .inr (by omega)
    · have := r3_phi hn ha
      exact .inr (by omega)
  · have := hφ hi
    exact ((h2 hi).r3 hn h.hs hg this).r4 hn3 (by omega)
  · have := hφ (by omega)
    exact ((h3 hi).r3 hn h.gt this).r4 hn3 (h.gt.r3 hn) (by omega)
end
/-! ### the timer, when nothing is under way -/
section
variable {q : Q} {now : Int}
theorem tick_due (h : T q now) (hn : now ≤ 1000000000000) (ht : q.tset = true) : (q.tick (now + 8000)).1.state = 4 ∨ ((q.tick (now + 8000)).1.state = q.state ∧ (q.tick (now + 8000)).2 = if q.state = 3 then q.again else [q.shake]) := by
  have h1 := h.clock; have h2 := h.moment; have h3 := h.delay; have h4 := h.c0
  have hd : (q.clocked (now + 8000)).due := by
    refine ⟨ht, ?_⟩
    show ¬ (max q.clock (now + 8000) - q.moment) % 18446744073709551616 < q.delay
    omega
  unfold Q.tick
  rw [if_neg (show ¬ ¬ (q.clocked (now + 8000)).due from fun x => x hd)]
  by_cases hf : q.fires = 8
  · rw [if_pos hf]; exact .inl rfl
  · rw [if_neg hf]
    by_cases hs : q.state = 3
    · rw [if_neg (show ¬ q.state ≠ 3 from fun x => x hs), if_pos hs]; exact .inr ⟨rfl, rfl⟩
    · rw [if_pos hs, if_neg hs]; exact .inr ⟨rfl, rfl⟩
theorem tick_wts {ol : Nat} (hb : QB q ol) (t : Int) : wts (q.tick t).2 ≤ 32 ∧ (q.tick t).2.length ≤ 16 := by
  have h16 := hb.s16
  have hl : q.again.length ≤ 16 := by
    unfold Q.again
    rw [List.length_map]
    refine Nat.le_trans (List.length_filter_le _ _) ?_
    rw [List.length_range]; exact h16
  have hw : wts q.again ≤ 32 := by
    unfold Q.again at hl ⊢
    rw [wts_data]
    rw [List.length_map] at hl
    omega
  unfold Q.tick
  split
  · exact ⟨Nat.zero_le _, Nat.zero_le _⟩
  split
  · exact ⟨Nat.zero_le _, Nat.zero_le _⟩
  split
  · refine ⟨?_, by show 1 ≤ 16; decide⟩
    show wt q.shake + 0 ≤ 32
    unfold Q.shake
    split <;> decide
  · exact ⟨hw, hl⟩
theorem DF.tick {s r r' : Q} {bwd : List Pk} (h : T s now) (hn : now ≤ 1000000000000) (hg : G s r [] []) (hs : s.state = 3) (hng : (s.tick (now + 8000)).1.state ≠ 4) (e1 : r'.got = r.got) (e2 : r'.kept = r.kept) : DF (s.tick (now + 8000)).1 r' (s.tick (now + 8000)).2 bwd := by
  obtain ⟨t1, t2, t3, t4, t5, t6⟩ := tick_same s (now + 8000)
  by_cases h0 : s.sent = 0
  · have ha := hg.acked; have hb := hg.got
    exact ⟨fun i h1 h2 => by rw [t1] at h1 h2; rw [t3] at h2; omega, .inl (by rw [e1, t1]; omega)⟩
  · have ht := h.sent hs (by omega)
    rcases tick_due h hn ht with hx | ⟨_, hx⟩
    · exact absurd hx hng
    rw [if_pos hs] at hx
    have hin : ∀ i, s.acked ≤ i → i < s.acked + s.sent → s.come i = false → Pk.data i ∈ s.again := fun i h1 h2 h3 =>
      List.mem_map.2 ⟨i - s.acked, List.mem_filter.2 ⟨List.mem_range.2 (by omega), by rw [show s.acked + (i - s.acked) = i by omega, h3]; rfl⟩, by show Pk.data (s.acked + (i - s.acked)) = _; congr 1; omega⟩
    rw [hx]
    refine ⟨fun i h1 h2 => ?_, .inr (.inr ⟨s.acked, ?_⟩)⟩
    · rw [t1] at h1 h2
      rw [t3] at h2
      cases hc : s.come i with
      | false => exact .inl (hin i h1 h2 hc)
      | true => refine .inr ?_; unfold Has; rw [e1, e2]; exact (hg.held i (.inl hc)).1
    · refine hin _ (Nat.le_refl _) (by omega) ?_
      cases hc : s.come s.acked with
      | false => rfl
      | true => exact absurd rfl (hg.held _ (.inl hc)).2.1
end
section
variable {Y : NQ}
noncomputable def NQ.wait (Y : NQ) : NQ := (({ Y with now := Y.now + 8000 } : NQ).tick 0).clip
theorem wait_a (Y : NQ) : Y.wait.a = (Y.a.tick (Y.now + 8000)).1 := by
  show (Y.a.tick (Y.now + 8000 + ((0 : Nat) : Int))).1 = _; rw [Int.natCast_zero, Int.add_zero]
theorem wait_b (Y : NQ) : Y.wait.b = (Y.b.tick (Y.now + 8000)).1 := by
  show (Y.b.tick (Y.now + 8000 + ((0 : Nat) : Int))).1 = _; rw [Int.natCast_zero, Int.add_zero]
theorem wait_ab (Y : NQ) : Y.wait.ab = (Y.ab ++ (Y.a.tick (Y.now + 8000)).2).take 200 := by
  show (Y.ab ++ (Y.a.tick (Y.now + 8000 + ((0 : Nat) : Int))).2).take 200 = _; rw [Int.natCast_zero, Int.add_zero]
theorem wait_ba (Y : NQ) : Y.wait.ba = (Y.ba ++ (Y.b.tick (Y.now + 8000)).2).take 200 := by
  show (Y.ba ++ (Y.b.tick (Y.now + 8000 + ((0 : Nat) : Int))).2).take 200 = _; rw [Int.natCast_zero, Int.add_zero]
theorem wait_inv (hg : GT Y) (hh : HS Y) (hn : Net Y) : GT Y.wait ∧ HS Y.wait := by
  have h1 : HS { Y with now := Y.now + 8000 } := ⟨hh.a1, hh.b1, hh.four, hh.ck, hh.op, hh.ini⟩
  have h2 : Net { Y with now := Y.now + 8000 } := ⟨hn.qa, hn.qb, hn.pab, hn.pba⟩
  exact ⟨((hg.later (t := Y.now + 8000) (by omega)).tick 0).clip, (h1.tick h2 0).clip⟩
theorem wait_gone (h : Gone Y) : Gone Y.wait := by
  have sa := Q.tick_state Y.a (Y.now + 8000)
  have sb := Q.tick_state Y.b (Y.now + 8000)
  unfold Gone
  rw [wait_a, wait_b]
  rcases h with h | h
  · exact .inl (by omega)
  · exact .inr (by omega)
theorem InQ.wait {i : Nat} (h : InQ i 300 Y) (hn : Net Y) (hw : Y.now ≤ 1000000000000) : InQ (i + 1) 0 Y.wait := by
  obtain ⟨i1, i2⟩ := wait_inv h.gt h.hs hn
  refine ⟨i1, i2, ?_⟩
  by_cases hg : Gone Y.wait
  · exact .inl hg
  have hgY : ¬ Gone Y := fun x => hg (wait_gone x)
  obtain ⟨h1, h2, h3⟩ := h.ok.resolve_left hgY
  have hga : (Y.a.tick (Y.now + 8000)).1.state ≠ 4 := fun e => hg (.inl (by rw [wait_a]; exact e))
  have hgb : (Y.b.tick (Y.now + 8000)).1.state ≠ 4 := fun e => hg (.inr (by rw [wait_b]; exact e))
  obtain ⟨wa, la⟩ := tick_wts hn.qa (Y.now + 8000)
  obtain ⟨wb, lb⟩ := tick_wts hn.qb (Y.now + 8000)
  have ta := tick_same Y.a (Y.now + 8000)
  have tb := tick_same Y.b (Y.now + 8000)
  have sa : (Y.a.tick (Y.now + 8000)).1.state = Y.a.state := (Q.tick_state Y.a (Y.now + 8000)).resolve_right hga
  have sb : (Y.b.tick (Y.now + 8000)).1.state = Y.b.state := (Q.tick_state Y.b (Y.now + 8000)).resolve_right hgb
  have hdry : 6 ≤ i → Dry Y := fun hi => h1.resolve_right (fun x => by unfold phi at x; omega)
  -- dry: what the timers send alone
  have eab : Dry Y → Y.wait.ab = (Y.a.tick (Y.now + 8000)).2 := fun hd => by rw [wait_ab, hd.1, List.nil_append, List.take_of_length_le (by omega)]
  have eba : Dry Y → Y.wait.ba = (Y.b.tick (Y.now + 8000)).2 := fun hd => by rw [wait_ba, hd.2, List.nil_append, List.take_of_length_le (by omega)]
  refine .inr ⟨.inr ?_, fun hi => ?_, fun hi => ?_⟩
  · have p1 := wts_take 200 (Y.ab ++ (Y.a.tick (Y.now + 8000)).2)
    have p2 := wts_take 200 (Y.ba ++ (Y.b.tick (Y.now + 8000)).2)
    rw [wts_app] at p1 p2
    have u1 : un Y.wait.a = un Y.a := by rw [wait_a]; unfold un; rw [ta.1, ta.2.2.1, ta.2.2.2.2.2]
    have u2 : un Y.wait.b = un Y.b := by rw [wait_b]; unfold un; rw [tb.1, tb.2.2.1, tb.2.2.2.2.2]
    have v1 : un Y.a ≤ 32 := by have := hn.qa.q32; unfold un; omega
    have v2 : un Y.b ≤ 32 := by have := hn.qb.q32; unfold un; omega
    have e : Phi Y.wait = wts ((Y.ab ++ (Y.a.tick (Y.now + 8000)).2).take 200) + wts ((Y.ba ++ (Y.b.tick (Y.now + 8000)).2).take 200) + 2 * un Y.a + 2 * un Y.b := by
      unfold Phi; rw [u1, u2, wait_ab, wait_ba]
    have ey : Phi Y = wts Y.ab + wts Y.ba + 2 * un Y.a + 2 * un Y.b := rfl
    rcases h1 with hd | hd
    · rw [hd.1] at p1
      rw [hd.2] at p2
      have z : wts [] = 0 := rfl
      unfold phi
      rw [hd.1, hd.2] at e
      omega
    · unfold phi at hd ⊢
      omega
  · have hd := hdry (by omega)
    refine ⟨fun ha => .inl ?_, fun ha => .inl ?_⟩
    · rw [wait_a, sa] at ha
      rw [eab hd]
      rcases tick_due h.gt.ta hw (h.gt.ta.shake (.inl ha)) with hx | ⟨_, hx⟩
      · exact absurd hx hga
      · rw [hx, if_neg (by omega)]; unfold Q.shake; rw [if_pos ha]; exact List.mem_singleton.2 rfl
    · rw [wait_a, sa] at ha
      rw [eab hd]
      rcases tick_due h.gt.ta hw (h.gt.ta.shake (.inr ha)) with hx | ⟨_, hx⟩
      · exact absurd hx hga
      · rw [hx, if_neg (by omega)]; unfold Q.shake; rw [if_neg (by omega)]; exact List.mem_singleton.2 rfl
  · have hd := hdry (by omega)
    have hj := h2 (by omega)
    have oa : Y.a.state = 3 := by
      have n0 := h.hs.a1; have n4 := h.hs.four.1
      have n1 : Y.a.state ≠ 1 := fun e => by
        have := hj.one e; rw [hd.1, hd.2] at this; rcases this with x | x <;> cases x
      have n2 : Y.a.state ≠ 2 := fun e => by
        have := hj.two e; rw [hd.1, hd.2] at this; rcases this with x | x <;> cases x
      have n5 : Y.a.state ≠ 4 := fun e => hgY (.inl e)
      omega
    have ob : Y.b.state = 3 := by
      have := h.hs.op oa; have n4 := h.hs.four.2
      have n5 : Y.b.state ≠ 4 := fun e => hgY (.inr e)
      omega
    have g1 := h.gt.g1; have g2 := h.gt.g2
    rw [hd.1, hd.2] at g1 g2
    refine ⟨by rw [wait_a, sa]; exact oa, by rw [wait_b, sb]; exact ob, ?_, ?_⟩
    · rw [wait_a, wait_b, eab hd]
      exact DF.tick h.gt.ta hw g1 oa hga tb.2.2.2.1 tb.2.2.2.2.1
    · rw [wait_a, wait_b, eba hd]
      exact DF.tick h.gt.tb hw g2 ob hgb ta.2.2.2.1 ta.2.2.2.2.1
structure Done (Y : NQ) : Prop where
  a : Y.a.acked = Y.a.msgs.length
  ga : Y.b.got = Y.a.msgs.length
  b : Y.b.acked = Y.b.msgs.length
  gb : Y.a.got = Y.b.msgs.length
theorem D2.done (h : D2 Y) (hn : Net Y) (hg : GT Y) (hd : Dry Y) : Done Y := by
  have d1 := h.d1; have d2 := h.d2
  rw [hd.1, hd.2] at d1 d2
  obtain ⟨e1, e2⟩ := d1.dry hn.qb hn.qa (hg.ta.all h.oa)
  obtain ⟨e3, e4⟩ := d2.dry hn.qa hn.qb (hg.tb.all h.ob)
  exact ⟨e2, by omega, e4, by omega⟩
theorem InQ.last (h : InQ 9 300 Y) (hn : Net Y) : Gone Y.wait ∨ Done Y.wait := by
  by_cases hg : Gone Y
  · exact .inl (wait_gone hg)
  obtain ⟨h1, h2, h3⟩ := h.ok.resolve_left hg
  have hd : Dry Y := h1.resolve_right (fun x => by unfold phi at x; omega)
  have dn := (h3 (by decide)).done hn h.gt hd
  have ta := tick_same Y.a (Y.now + 8000)
  have tb := tick_same Y.b (Y.now + 8000)
  refine .inr ⟨?_, ?_, ?_, ?_⟩
  · rw [wait_a, ta.1, ta.2.2.2.2.2]; exact dn.a
  · rw [wait_a, wait_b, tb.2.2.2.1, ta.2.2.2.2.2]; exact dn.ga
  · rw [wait_b, tb.1, tb.2.2.2.2.2]; exact dn.b
  · rw [wait_a, wait_b, ta.2.2.2.1, tb.2.2.2.2.2]; exact dn.gb
theorem InQ.first (hg : GT Y) (hh : HS Y) (hn : Net Y) (h1 : Y.ab.length ≤ 200) (h2 : Y.ba.length ≤ 200) : InQ 0 0 Y := by
  refine ⟨hg, hh, .inr ⟨.inr ?_, fun hi => absurd hi (by decide), fun hi => absurd hi (by decide)⟩⟩
  have w1 := wts_le 4 Y.ab fun p _ => by cases p <;> exact Nat.le_of_ble_eq_true rfl
  have w2 := wts_le 3 Y.ba fun p hp => by
    have := (hh.ini p hp).1
    cases p with
    | init => exact absurd rfl this
    | _ => exact Nat.le_of_ble_eq_true rfl
  have v1 : un Y.a ≤ 32 := by have := hn.qa.q32; unfold un; omega
  have v2 : un Y.b ≤ 32 := by have := hn.qb.q32; unfold un; omega
  show wts Y.ab + wts Y.ba + 2 * un Y.a + 2 * un Y.b + 0 ≤ max 192 (1528 - 236 * 0)
  omega
end
end ac
end Go.Proofs.Ytomplpdeeomehaa


/- assoc: AssocAll, walked and opened. -/
namespace Go.Proofs.Ytomplpdeeomehaa
set_option linter.unusedVariables false
set_option linter.unusedSimpArgs false
open Go.ChangeShapes Go.WideShapes Go.ChangeAt Go.RowKit
namespace ac
open wr (be16 be32)
open rd (num)
namespace FxAsOg
set_option maxRecDepth 100000
theorem pl42 : Program.places Try.prog 42 = some [(0, 1), (1, 1), (2, 1), (3, 1), (4, 1)] := by kernel_rfl
theorem zc42 : Program.zeroC Try.prog 42 = some #[.int .i64 0, .int .i64 0, .bool false, .slice none 0 0, .int .u16 0] := by kernel_rfl
end FxAsOg
open Go.Proofs.Ytomplpdeeomehaa.ac.FxAsOe Go.Proofs.Ytomplpdeeomehaa.ac.FxAsNet4 Go.Proofs.Ytomplpdeeomehaa.ac.FxAsNet Go.Proofs.Ytomplpdeeomehaa.ac.FxAsN1 Go.Proofs.Ytomplpdeeomehaa.ac.FxAsA Go.Proofs.Ytomplpdeeomehaa.ac.FxAsS FxAsOg
theorem StateND (b : Nat) (S : PS) (L : List SA) : Fn Try.prog 14 [pt b 0] (SD b S :: L) (fun v L' => v = vN S.state ∧ L' = SD b S :: L) := by
  refine Fn.SD fun p U hU => ?_
  subst hU
  refine (State_fn b p U _).mono ?_
  rintro v L' ⟨rfl, rfl⟩
  exact ⟨_, Ent.SD rfl, rfl, rfl⟩
theorem WaitND (b : Nat) (S : PS) (L : List SA) : Fn Try.prog 22 [pt b 0] (SD b S :: L) (fun v L' => v = vN S.queue.length ∧ L' = SD b S :: L) := by
  refine Fn.SD fun p U hU => ?_
  subst hU
  refine (Waiting_fn b p U _).mono ?_
  rintro v L' ⟨rfl, rfl⟩
  exact ⟨_, Ent.SD rfl, by rw [InvP.lenT], rfl⟩
theorem gt0 : GT netY0 ∧ HS netY0 := by
  have h0 : ∀ s r : Q, ∀ f b : List Pk, s.acked = 0 → r.got = 0 → (∀ i, s.come i = false) → (∀ i, r.kept i = false) → (∀ i, Pk.data i ∉ f) → (∀ c l, Pk.sack c l ∉ b) → G s r f b := fun s r f b h1 h2 h3 h4 h5 h6 =>
    ⟨fun i hi => absurd hi (h5 i), fun i hi => (by rw [h4] at hi; cases hi), by omega, by omega, fun c l hc => absurd hc (h6 c l), fun i hi => by
      rcases hi with hi | ⟨c, l, hc, _⟩ | hi
      · rw [h3] at hi; cases hi
      · exact absurd hc (h6 c l)
      · rw [h4] at hi; cases hi⟩
  refine ⟨⟨h0 _ _ _ _ rfl rfl (fun _ => rfl) (fun _ => rfl) (fun i hi => ?_) (fun c l hc => ?_), h0 _ _ _ _ rfl rfl (fun _ => rfl) (fun _ => rfl) (fun i hi => ?_) (fun c l hc => ?_), ?_, ?_⟩, ?_⟩
  · exact absurd (List.mem_singleton.1 hi) (by nofun)
  · cases hc
  · cases hi
  · exact absurd (List.mem_singleton.1 hc) (by nofun)
  · exact ⟨by decide, by decide, by decide, fun _ => rfl, fun h => absurd (show (1 : Nat) = 3 from h) (by decide), fun h => absurd (show (1 : Nat) = 3 from h) (by decide), fun _ => rfl, by decide⟩
  · exact ⟨by decide, by decide, by decide, fun h => absurd (show (0 : Nat) = 1 ∨ (0 : Nat) = 2 from h) (by decide), fun h => absurd (show (0 : Nat) = 3 from h) (by decide), fun h => absurd (show (0 : Nat) = 3 from h) (by decide), fun _ => rfl, by decide⟩
  · exact ⟨by decide, by decide, by decide, fun h => (by cases h), fun h => absurd (show (1 : Nat) = 3 from h) (by decide), fun p hp => (by cases hp)⟩
structure Al (P : SP) (x : PN) (y : NQ) (m : Nat) (t : Int) : Prop where
  sim : Sim P false true x y
  gt : GT y
  hs : HS y
  a : y.a.msgs.length ≤ m
  b : y.b.msgs.length ≤ m
  ab : y.ab.length ≤ 200
  ba : y.ba.length ≤ 200
  n0 : 0 ≤ y.now
  n1 : y.now ≤ t
theorem Al.fits {P : SP} {x : PN} {y : NQ} {m : Nat} {t : Int} (h : Al P x y m t) (hP : SPok P) (ht : t ≤ 1000000000000) : Fits x := h.sim.fits hP h.ab h.ba ⟨h.n0, Int.le_trans h.n1 ht⟩
theorem Al.step {P : SP} {x : PN} {y : NQ} {m : Nat} {t : Int} (h : Al P x y m t) (hP : SPok P) (hm : m < 100000) (kd N : Int) (kp : Bool) (d : List UInt8) (nw : UInt16) : Al P (x.step kd N kp d nw) (y.step kd N kp d nw) (m + 1) (t + 4000) := by
  have ha := h.a; have hb := h.b
  have hR := room_step y h.ab h.ba kd N kp d nw
  obtain ⟨g1, g2⟩ := inv_step h.gt h.hs h.sim.net (by omega) kd N kp d nw
  exact ⟨h.sim.step hP kd N kp d nw (by omega) (by omega), g1, g2, Nat.le_trans hR.a (by omega), Nat.le_trans hR.b (by omega), hR.ab, hR.ba, Int.le_trans h.n0 hR.now.1, Int.le_trans hR.now.2 (by have := h.n1; omega)⟩
theorem Al.mono {P : SP} {x : PN} {y : NQ} {m m' : Nat} {t t' : Int} (h : Al P x y m t) (h1 : m ≤ m') (h2 : t ≤ t') : Al P x y m' t' := ⟨h.sim, h.gt, h.hs, Nat.le_trans h.a h1, Nat.le_trans h.b h1, h.ab, h.ba, h.n0, Int.le_trans h.n1 h2⟩
theorem r3_msgs (y : NQ) : y.r3.a.msgs = y.a.msgs ∧ y.r3.b.msgs = y.b.msgs ∧ y.r3.now = y.now := by
  unfold NQ.r3
  cases y.ab with
  | nil => exact ⟨rfl, rfl, rfl⟩
  | cons p t => exact ⟨rfl, Q.hand_msgs _ p, rfl⟩
theorem r4_msgs (y : NQ) : y.r4.a.msgs = y.a.msgs ∧ y.r4.b.msgs = y.b.msgs ∧ y.r4.now = y.now := by
  unfold NQ.r4
  cases y.ba with
  | nil => exact ⟨rfl, rfl, rfl⟩
  | cons p t => exact ⟨Q.hand_msgs _ p, rfl, rfl⟩
theorem Al.r3 {P : SP} {x : PN} {y : NQ} {m : Nat} {t : Int} (h : Al P x y m t) (hP : SPok P) (hm : m < 100000) : Al P (x.step 3 0 false [] 0) y.r3 m t := by
  have h1 := h.step hP hm 3 0 false [] 0
  rw [step_r3] at h1
  have e := r3_msgs y
  exact ⟨h1.sim, h1.gt, h1.hs, by rw [e.1]; exact h.a, by rw [e.2.1]; exact h.b, h1.ab, h1.ba, h1.n0, by rw [e.2.2]; exact h.n1⟩
theorem Al.r4 {P : SP} {x : PN} {y : NQ} {m : Nat} {t : Int} (h : Al P x y m t) (hP : SPok P) (hm : m < 100000) : Al P (x.step 4 0 false [] 0) y.r4 m t := by
  have h1 := h.step hP hm 4 0 false [] 0
  rw [step_r4] at h1
  have e := r4_msgs y
  exact ⟨h1.sim, h1.gt, h1.hs, by rw [e.1]; exact h.a, by rw [e.2.1]; exact h.b, h1.ab, h1.ba, h1.n0, by rw [e.2.2]; exact h.n1⟩
theorem step_wait (y : NQ) (d : List UInt8) : ({ y with now := y.now + 8000 } : NQ).step 7 0 false d 0 = y.wait := by
  unfold NQ.step
  rw [if_neg (by decide), if_neg (by decide), if_neg (by decide), if_neg (by decide), if_pos rfl]
  rfl
theorem Al.later {P : SP} {x : PN} {y : NQ} {m : Nat} {t : Int} (h : Al P x y m t) : Al P { x with now := x.now + 8000 } { y with now := y.now + 8000 } m (t + 8000) := by
  have e := h.sim.now
  have h1 := h.sim.later (y.now + 8000)
  have h0 := h.n0; have h2 := h.n1
  exact ⟨by rw [e]; exact h1, h.gt.later (by omega), ⟨h.hs.a1, h.hs.b1, h.hs.four, h.hs.ck, h.hs.op, h.hs.ini⟩, h.a, h.b, h.ab, h.ba, by show 0 ≤ y.now + 8000; omega, by show y.now + 8000 ≤ t + 8000; omega⟩
theorem Al.wait {P : SP} {x : PN} {y : NQ} {m : Nat} {t : Int} (h : Al P x y m t) (hP : SPok P) (hm : m < 100000) : Al P (({ x with now := x.now + 8000 } : PN).step 7 0 false [] 0) y.wait m (t + 8000) := by
  have h1 := h.later.step hP hm 7 0 false [] 0
  rw [step_wait] at h1
  have ta := tick_same y.a (y.now + 8000)
  have tb := tick_same y.b (y.now + 8000)
  have e : y.wait.now = y.now + 8000 := by show y.now + 8000 + ((0 : Nat) : Int) = _; rw [Int.natCast_zero, Int.add_zero]
  exact ⟨h1.sim, h1.gt, h1.hs, by rw [wait_a, ta.2.2.2.2.2]; exact h.a, by rw [wait_b, tb.2.2.2.2.2]; exact h.b, h1.ab, h1.ba, h1.n0, by rw [e]; have := h.n1; omega⟩
theorem Al.end {P : SP} {n : NP} {A B : PS} {y : NQ} {m : Nat} {t : Int} (h : Al P (absN n A B) y m t) (hd : Gone y ∨ Done y) (h1 : ¬ A.state = 4) (h2 : ¬ B.state = 4) :
    n.gB.l.map pm = n.sent.l.map pm ∧ n.gA.l.map pm = n.back.l.map pm ∧ A.queue.length = 0 ∧ B.queue.length = 0 := by
  have sa : A.state = y.a.state := h.sim.ra.state
  have sb : B.state = y.b.state := h.sim.rb.state
  have dn : Done y := hd.resolve_left fun x => by rcases x with x | x <;> omega
  have la : A.queue.length = y.a.msgs.length - y.a.acked := h.sim.ra.len
  have lb : B.queue.length = y.b.msgs.length - y.b.acked := h.sim.rb.len
  have e1 : n.gB.l.map pm = y.a.msgs.take y.b.got := h.sim.gB
  have e2 : n.sent.l.map pm = y.a.msgs := h.sim.sent
  have e3 : n.gA.l.map pm = y.b.msgs.take y.a.got := h.sim.gA
  have e4 : n.back.l.map pm = y.b.msgs := h.sim.back
  have d1 := dn.a; have d2 := dn.ga; have d3 := dn.b; have d4 := dn.gb
  exact ⟨by rw [e1, e2, d2, List.take_length], by rw [e3, e4, d4, List.take_length], by omega, by omega⟩
abbrev noD : Bs := ⟨none, 0, []⟩
set_option maxHeartbeats 8000000 in
theorem all_fn (tag tsn other first : UInt32) (s : Sl NetT) (hs : ∀ x ∈ s.l, x.2.2.2.1.l.length ≤ 140737488351232) (hl : s.l.length ≤ 140737488351232) (L : List SA) :
    Fn Try.prog 6 [v32 tag, v32 tsn, v32 other, v32 first, s.v] (SA.dat s :: L) (fun v L' => v = .bool true ∧ L' = SA.dat s :: L) := by
  obtain ⟨sa, sc, sl⟩ := s
  simp only at hs hl
  have hP := parS_ok tag tsn other first
  refine Fn.of (N := 123) Try.func6 rfl rfl ?_
  intro Xh
  refine TC.seq (TC.region ?_)
  refine TL.sg ?_
  refine TL.nil (TQ.next (TC.seq (TC.seq (TC.region ?_))))
  refine TL.eff rfl rfl rfl (X.cl rfl Try.func10 rfl (h := (ac.awake_fn _))) ?_
  rintro _ _ ⟨rfl, rfl⟩
  refine TL.val rfl rfl rfl (Y.not rfl rfl) ?_
  refine TL.nil (TQ.next ?_)
  refine TC.cond_f rfl ?_
  refine TC.skip (TQ.next (TC.seq (TC.region ?_)))
  refine TL.mv ?_
  refine TL.mv ?_
  refine TL.mv ?_
  refine TL.mv ?_
  refine TL.eff rfl rfl rfl (X.cl rfl Try.func15 rfl (h := (begun_nd tag tsn other first _))) ?_
  rintro _ _ ⟨nb, rfl, rfl⟩
  refine TL.sg ?_
  refine TL.nil (TQ.next (TC.seq (TC.seq (TC.region ?_))))
  refine TL.mv ?_
  refine TL.val rfl rfl rfl (Y.len rfl Try.underlying36 rfl) ?_
  refine TL.as (vN sl.length) (by rfl) ?_
  refine TL.mv ?_
  refine TL.nil (TQ.next (TC.block ?_))
  refine TC.loopF (ι := Nat × PN × NQ) [] (fun i => i.1 ≤ sl.length ∧ Al (parS tag tsn other first) i.2.1 i.2.2 (min i.1 100) (4000 * ((min i.1 100 : Nat) : Int))) (fun i => [(22, some (vN i.1))]) (fun i => [ND nb i.2.1]) (fun i => sl.length - i.1) ((0, netX0 tag tsn other first, netY0)) (⟨Nat.zero_le _, sim0 tag tsn other first, gt0.1, gt0.2, Nat.zero_le _, Nat.zero_le _, by show 1 ≤ 200; decide, by show 0 ≤ 200; decide, Int.le_refl 0, by show (0 : Int) ≤ 4000 * ((min 0 100 : Nat) : Int); decide⟩) ⟨rfl, trivial⟩ (Pulls.cons pul Pulls.nil) ?_
  rintro ⟨k, x0, y0⟩ ⟨hk, hA⟩ F' L' rfl hL'
  simp only [List.cons_append, List.nil_append] at hL'
  subst hL'
  simp only at hk hA ⊢
  refine TC.seq (TC.region ?_)
  refine TL.val rfl rfl rfl (Y.bin rfl rfl rfl (br_ltN)) ?_
  refine TL.nil (TQ.next (TC.seq ?_))
  refine TC.cond rfl (fun c1 => ?_) (fun c1 => ?_)
  · try simp only [zA, zB, zC, zD, zE, zF, zG, zH, zI, zJ] at c1
    refine TC.skip (TQ.next (TC.seq (TC.block (TC.seq (TC.region ?_)))))
    refine TL.mv ?_
    refine TL.sg ?_
    refine TL.nil (TQ.next (TC.seq (TC.region ?_)))
    refine TL.mv ?_
    refine TL.val rfl rfl rfl (Y.bin rfl rfl rfl (br_ltN (n := 100))) ?_
    refine TL.nil (TQ.next ?_)
    refine TC.cond rfl (fun c2 => ?_) (fun c2 => ?_)
    · try simp only [zA, zB, zC, zD, zE, zF, zG, zH, zI, zJ] at c2
      obtain ⟨⟨kd, N, kp, d, nw⟩, hx, hxm⟩ := getS (l := sl) (i := k) (by omega)
      refine TC.know (dat_some (a := sa) (l := sl) (cap := sc) inn (by omega)) ?_
      rintro ⟨sg, so, rfl⟩
      have hF := hA.fits hP (by omega)
      have hA1 := (hA.step hP (by omega) kd N kp d.l nw).mono (m' := min (k + 1) 100) (t' := 4000 * ((min (k + 1) 100 : Nat) : Int)) (by omega) (by omega)
      have hd := hs _ hxm
      simp only at hd
      refine TC.to ((Pull.ent (A := SA.dat (⟨some ⟨sg, so, none⟩, sc, sl⟩ : Sl NetT)) pul).trans (Ent.netD hxm)) ?_
      refine TC.region ?_
      refine TL.mv ?_
      refine TL.mv ?_
      refine TL.as (.slice (some ⟨sg, so, none⟩) sl.length sc) (by rfl) ?_
      refine TL.mv ?_
      refine TL.val rfl rfl rfl (by first | exact Y.indexSlB rfl sl36 rfl rfl (by omega) nqq | exact Y.indexSl rfl sl36 rfl rfl (by omega) nqq) ?_
      refine TL.val rfl rfl rfl (Y.loadAgg rfl ag42 rfl (by first | exact Cels.datAt inn (by assumption) | exact Cels.full inn) (by first | rfl | ((try simp only [List.length_map, List.length_set, List.length_replicate]); omega))) ?_
      refine TL.as (.agg (netArg kd N kp d.v nw)) (by rfl) ?_
      refine TL.eff rfl rfl rfl (X.cl rfl Try.func16 rfl (h := (step_fn nb x0 hF kd N kp d hd nw _))) ?_
      rintro _ _ rfl
      generalize x0.step kd N kp d.l nw = x1 at hA1 ⊢
      generalize y0.step kd N kp d.l nw = y1 at hA1
      refine TL.nil (TQ.block_normal (TQ.next (TC.region ?_)))
      refine TL.val rfl rfl rfl (Y.bin rfl rfl rfl (br_addN (n := 1) (by omega))) ?_
      refine TL.mv ?_
      refine TL.nil ?_
      refine TQ.loopF ((k + 1, x1, y1)) (⟨by show k + 1 ≤ sl.length; omega, hA1⟩) (by show sl.length - (k + 1) < sl.length - k; omega) ⟨rfl, trivial⟩ grw ?_ ?_ ?_
      · kernel_rfl
      · rfl
      · simp only [List.cons_append, List.nil_append]
        exact ett
    · try simp only [zA, zB, zC, zD, zE, zF, zG, zH, zI, zJ] at c2
      obtain ⟨x1, hx1⟩ : ∃ x1, x1 = x0 := ⟨_, rfl⟩
      obtain ⟨y1, hy1⟩ : ∃ y1, y1 = y0 := ⟨_, rfl⟩
      rw [← hx1] at hA ⊢
      rw [← hy1] at hA
      have hA1 := hA.mono (m' := min (k + 1) 100) (t' := 4000 * ((min (k + 1) 100 : Nat) : Int)) (by omega) (by omega)
      refine TC.skip (TQ.block_normal (TQ.next (TC.region ?_)))
      refine TL.val rfl rfl rfl (Y.bin rfl rfl rfl (br_addN (n := 1) (by omega))) ?_
      refine TL.mv ?_
      refine TL.nil ?_
      refine TQ.loopF ((k + 1, x1, y1)) (⟨by show k + 1 ≤ sl.length; omega, hA1⟩) (by show sl.length - (k + 1) < sl.length - k; omega) ⟨rfl, trivial⟩ grw ?_ ?_ ?_
      · kernel_rfl
      · rfl
      · simp only [List.cons_append, List.nil_append]
        exact ett
  · try simp only [zA, zB, zC, zD, zE, zF, zG, zH, zI, zJ] at c1
    refine TC.exit (TQ.then_exit (TQ.then_exit (TQ.block_exit (TQ.next (TC.seq (TC.seq ?_))))))
    have hA := hA.mono (m' := 100) (t' := 400000) (by omega) (by omega)
    refine TC.nd (X := x0) pul ?_
    rintro n A B hX
    refine TC.region ?_
    refine TL.mv ?_
    refine TL.nc ?_
    refine TL.val rfl rfl rfl (by first | exact Y.fieldAddrJ rfl fo46_0 rfl nqq | exact Y.fieldAddr rfl fo46_0 rfl nqq) ?_
    refine TL.val rfl rfl rfl (Y.load rfl sc26 rfl celD) ?_
    refine TL.as (pt n.a 0) (by rfl) ?_
    refine TL.eff rfl rfl rfl (X.cl rfl Try.func14 rfl (h := (StateND n.a A _))) ?_
    rintro _ _ ⟨rfl, rfl⟩
    refine TL.val rfl rfl rfl (Y.bin rfl rfl rfl (br_eqN (n := 4))) ?_
    refine TL.mv ?_
    refine TL.case (fun g10_6 => ?_) (fun g10_6 => ?_)
    · try simp only [zA, zB, zC, zD, zG, zH, zI, zJ] at g10_6
      refine TL.not rfl rfl rfl ?_
      refine TL.not rfl rfl rfl ?_
      refine TL.not rfl rfl rfl ?_
      refine TL.not rfl rfl rfl ?_
      refine TL.not rfl rfl rfl ?_
      refine TL.not rfl rfl rfl ?_
      refine TL.val rfl rfl rfl (Y.pick_t rfl rfl rfl) ?_
      refine TL.nil (TQ.next ?_)
      refine TC.cond_t rfl ?_
      refine TC.seq (TC.region ?_)
      refine TL.sg ?_
      refine TL.nil (TQ.next (TC.ret (TQ.then_ret ?_)))
      refine TQ.retE (res1 rfl rfl) (⟨rfl, rfl⟩) ?_
      exact ett
    · try simp only [zA, zB, zC, zD, zG, zH, zI, zJ] at g10_6
      refine TL.mg ?_
      refine TL.valG rfl rfl rfl (Y.nilCheck rfl rfl) ?_
      refine TL.valG rfl rfl rfl (by first | exact Y.fieldAddrJ rfl fo46_1 rfl nqq | exact Y.fieldAddr rfl fo46_1 rfl nqq) ?_
      refine TL.valG rfl rfl rfl (Y.load rfl sc26 rfl celD) ?_
      refine TL.as (pt n.b 0) (by rfl) ?_
      refine TL.effG rfl rfl rfl (X.cl rfl Try.func14 rfl (h := (StateND n.b B _))) ?_
      rintro _ _ ⟨rfl, rfl⟩
      refine TL.valG rfl rfl rfl (Y.bin rfl rfl rfl (br_eqN (n := 4))) ?_
      refine TL.val rfl rfl rfl (Y.pick_f rfl rfl rfl) ?_
      refine TL.nil (TQ.next ?_)
      refine TC.cond rfl (fun c3 => ?_) (fun c3 => ?_)
      · try simp only [zA, zB, zC, zD, zE, zF, zG, zH, zI, zJ] at c3
        refine TC.seq (TC.region ?_)
        refine TL.sg ?_
        refine TL.nil (TQ.next (TC.ret (TQ.then_ret ?_)))
        refine TQ.retE (res1 rfl rfl) (⟨rfl, rfl⟩) ?_
        exact ett
      · try simp only [zA, zB, zC, zD, zE, zF, zG, zH, zI, zJ] at c3
        refine TC.skip (TQ.next (TC.seq (TC.seq ?_)))
        refine TC.to (Ent.nd hX (Pulls.cons pul (Pulls.cons pul (Pulls.cons pul (Pulls.cons pul (Pulls.cons pul (Pulls.cons pul (Pulls.cons pul (Pulls.cons pul (Pulls.cons pul (Pulls.cons pul (Pulls.cons pul (Pulls.cons pul (Pulls.cons pul (Pulls.cons pul (Pulls.cons pul Pulls.nil)))))))))))))))) ?_
        refine TC.region ?_
        refine TL.mv ?_
        refine TL.nil (TQ.next (TC.block ?_))
        refine TC.loopF (ι := Nat × PN × NQ) [] (fun i => i.1 ≤ 10 ∧ Al (parS tag tsn other first) i.2.1 i.2.2 100 (400000 + 8000 * (i.1 : Int)) ∧ (i.1 ≤ 9 → InQ i.1 0 i.2.2) ∧ (i.1 = 10 → Gone i.2.2 ∨ Done i.2.2)) (fun i => [(48, some (vN i.1))]) (fun i => [ND nb i.2.1]) (fun i => 10 - i.1) ((0, x0, y0)) (⟨Nat.zero_le _, hA.mono (Nat.le_refl _) (by show (400000 : Int) ≤ 400000 + 8000 * ((0 : Nat) : Int); decide), fun _ => InQ.first hA.gt hA.hs hA.sim.net hA.ab hA.ba, fun h => absurd (show (0 : Nat) = 10 from h) (by decide)⟩) ⟨rfl, trivial⟩ (Pulls.cons pul Pulls.nil) ?_
        rintro ⟨w, x2, y2⟩ ⟨hw, hA2, hq, he⟩ F' L' rfl hL'
        simp only [List.cons_append, List.nil_append] at hL'
        subst hL'
        simp only at hw hA2 hq he ⊢
        refine TC.seq (TC.region ?_)
        refine TL.val rfl rfl rfl (Y.bin rfl rfl rfl (br_ltN (n := 10))) ?_
        refine TL.nil (TQ.next (TC.seq ?_))
        refine TC.cond rfl (fun c4 => ?_) (fun c4 => ?_)
        · try simp only [zA, zB, zC, zD, zE, zF, zG, zH, zI, zJ] at c4
          have hq := hq (by omega)
          refine TC.skip (TQ.next (TC.seq (TC.block (TC.seq (TC.seq (TC.region ?_))))))
          refine TL.mv ?_
          refine TL.nil (TQ.next (TC.block ?_))
          refine TC.loopF (ι := Nat × PN × NQ) [] (fun i => i.1 ≤ 300 ∧ Al (parS tag tsn other first) i.2.1 i.2.2 100 (400000 + 8000 * (w : Int)) ∧ InQ w i.1 i.2.2) (fun i => [(50, some (vN i.1))]) (fun i => [ND nb i.2.1]) (fun i => 300 - i.1) ((0, x2, y2)) (⟨Nat.zero_le _, hA2, hq⟩) ⟨rfl, trivial⟩ (Pulls.cons pul Pulls.nil) ?_
          rintro ⟨j, x3, y3⟩ ⟨hj, hA3, hq3⟩ F' L' rfl hL'
          simp only [List.cons_append, List.nil_append] at hL'
          subst hL'
          simp only at hj hA3 hq3 ⊢
          refine TC.seq (TC.region ?_)
          refine TL.val rfl rfl rfl (Y.bin rfl rfl rfl (br_ltN (n := 300))) ?_
          refine TL.nil (TQ.next (TC.seq ?_))
          refine TC.cond rfl (fun c5 => ?_) (fun c5 => ?_)
          · try simp only [zA, zB, zC, zD, zE, zF, zG, zH, zI, zJ] at c5
            have hF3 := hA3.fits hP (by omega)
            have hA4 := hA3.r3 hP (by decide)
            have hF4 := hA4.fits hP (by omega)
            have hA5 := hA4.r4 hP (by decide)
            have hq5 := hq3.round hA3.sim.net hA4.sim.net
            refine TC.to (Ent.nilD (α := UInt8)) ?_
            refine TC.skip (TQ.next (TC.seq (TC.block (TC.seq (TC.region ?_)))))
            refine TL.mv ?_
            refine TL.val rfl rfl rfl (Y.buildS (cells := netArg 3 0 false (.slice none 0 0) 0) rfl rfl pl42 zc42 (by kernel_rfl)) ?_
            refine TL.eff rfl rfl rfl (X.cl rfl Try.func16 rfl (h := (step_fn nb x3 hF3 3 0 false noD (Nat.zero_le _) 0 _))) ?_
            rintro _ _ rfl
            generalize x3.step 3 0 false noD.l 0 = x4 at hA4 hF4 hA5 ⊢
            refine TL.nil (TQ.next (TC.region ?_))
            refine TL.mv ?_
            refine TL.val rfl rfl rfl (Y.buildS (cells := netArg 4 0 false (.slice none 0 0) 0) rfl rfl pl42 zc42 (by kernel_rfl)) ?_
            refine TL.eff rfl rfl rfl (X.cl rfl Try.func16 rfl (h := (step_fn nb x4 hF4 4 0 false noD (Nat.zero_le _) 0 _))) ?_
            rintro _ _ rfl
            refine TL.nil (TQ.block_normal (TQ.next (TC.region ?_)))
            refine TL.val rfl rfl rfl (Y.bin rfl rfl rfl (br_addN (n := 1) (by omega))) ?_
            refine TL.mv ?_
            refine TL.nil ?_
            refine TQ.loopF ((j + 1, x4.step 4 0 false noD.l 0, y3.r3.r4)) (⟨by show j + 1 ≤ 300; omega, hA5, hq5⟩) (by show 300 - (j + 1) < 300 - j; omega) ⟨rfl, trivial⟩ grw ?_ ?_ ?_
            · kernel_rfl
            · rfl
            · simp only [List.cons_append, List.nil_append]
              exact ett
          · try simp only [zA, zB, zC, zD, zE, zF, zG, zH, zI, zJ] at c5
            obtain rfl : j = 300 := by omega
            have hAw := hA3.wait hP (by decide)
            have hFw := hA3.later.fits hP (by omega)
            refine TC.nd (X := x3) pul ?_
            rintro n A B hX
            have hnow : 0 ≤ n.now ∧ n.now ≤ 1000000000 := by
              have h4 : n.now = x3.now := by rw [← hX]; rfl
              have h1 : x3.now = y3.now := hA3.sim.now
              have h2 := hA3.n0
              have h3 := hA3.n1
              omega
            have hlast : w + 1 = 10 → Gone y3.wait ∨ Done y3.wait := fun h => by
              obtain rfl : w = 9 := by omega
              exact hq3.last hA3.sim.net
            refine TC.exit (TQ.then_exit (TQ.then_exit (TQ.block_exit (TQ.next (TC.seq (TC.region ?_))))))
            refine TL.mv ?_
            refine TL.mv ?_
            refine TL.nc ?_
            refine TL.val rfl rfl rfl (by first | exact Y.fieldAddrJ rfl fo46_8 rfl nqq | exact Y.fieldAddr rfl fo46_8 rfl nqq) ?_
            refine TL.val rfl rfl rfl (Y.load rfl sc2 rfl celN) ?_
            refine TL.as (vI n.now) (by rfl) ?_
            refine TL.val rfl rfl rfl (Y.bin rfl rfl rfl (br_addI (n := 8000) (by omega) (by omega))) ?_
            refine TL.nc ?_
            refine TL.val rfl rfl rfl (by first | exact Y.fieldAddrJ rfl fo46_8 rfl nqq | exact Y.fieldAddr rfl fo46_8 rfl nqq) ?_
            refine TL.eff0 rfl rfl (X.store (cs' := netC { n with now := n.now + 8000 }) rfl (by kernel_rfl) rfl rfl rfl pul (by show 8 < 9; decide) rfl) ?_
            rintro _ _ rfl
            refine TL.nil ?_
            refine TQ.to (Ent.nd (n := { n with now := n.now + 8000 }) (A := A) (B := B) (X := { x3 with now := x3.now + 8000 }) (by rw [← hX]; rfl) (Pulls.cons pul (Pulls.cons pul (Pulls.cons pul (Pulls.cons pul (Pulls.cons pul (Pulls.cons pul (Pulls.cons pul (Pulls.cons pul (Pulls.cons pul (Pulls.cons pul (Pulls.cons pul (Pulls.cons pul (Pulls.cons pul (Pulls.cons pul (Pulls.cons pul Pulls.nil)))))))))))))))) ?_
            refine TQ.next ?_
            refine TC.to (Ent.nilD (α := UInt8)) ?_
            refine TC.region ?_
            refine TL.mv ?_
            refine TL.val rfl rfl rfl (Y.buildS (cells := netArg 7 0 false (.slice none 0 0) 0) rfl rfl pl42 zc42 (by kernel_rfl)) ?_
            refine TL.eff rfl rfl rfl (X.cl rfl Try.func16 rfl (h := (step_fn nb { x3 with now := x3.now + 8000 } hFw 7 0 false noD (Nat.zero_le _) 0 _))) ?_
            rintro _ _ rfl
            refine TL.nil (TQ.block_normal (TQ.next (TC.region ?_)))
            refine TL.val rfl rfl rfl (Y.bin rfl rfl rfl (br_addN (n := 1) (by omega))) ?_
            refine TL.mv ?_
            refine TL.nil ?_
            refine TQ.loopF ((w + 1, ({ x3 with now := x3.now + 8000 } : PN).step 7 0 false noD.l 0, y3.wait)) (⟨by show w + 1 ≤ 10; omega, hAw.mono (Nat.le_refl _) (by show 400000 + 8000 * (w : Int) + 8000 ≤ 400000 + 8000 * ((w + 1 : Nat) : Int); omega), fun h => hq3.wait hA3.sim.net (by have := hA3.n1; omega), hlast⟩) (by show 10 - (w + 1) < 10 - w; omega) ⟨rfl, trivial⟩ grw ?_ ?_ ?_
            · kernel_rfl
            · rfl
            · simp only [List.cons_append, List.nil_append]
              exact ett
        · try simp only [zA, zB, zC, zD, zE, zF, zG, zH, zI, zJ] at c4
          obtain rfl : w = 10 := by omega
          have he := he rfl
          refine TC.nd (X := x2) pul ?_
          rintro n A B hX
          have hA2 := hX.symm ▸ hA2
          have hend := hA2.end he
          have hlen := (hA2.fits hP (by omega)).lens
          refine TC.exit (TQ.then_exit (TQ.then_exit (TQ.block_exit (TQ.next (TC.seq ?_)))))
          refine TC.draws 53 [nB nb n] (by kernel_rfl) (by kernel_rfl) hld ?_
          refine TA.tk 0 rfl rfl (Y.move rfl rfl) ?_
          refine TA.tk 1 rfl rfl (Y.nilCheck rfl rfl) ?_
          refine TA.tk 2 rfl rfl (by first | exact Y.fieldAddrJ rfl fo46_0 rfl nqq | exact Y.fieldAddr rfl fo46_0 rfl nqq) ?_
          refine TA.tk 3 rfl rfl (Y.load rfl sc26 rfl celD) ?_
          refine TA.as (pt n.a 0) (by rfl) ?_
          refine TA.one 4 (by kernel_rfl) rfl rfl rfl rfl (X.cl rfl Try.func14 rfl (h := (StateND n.a A _))) ?_
          rintro _ _ ⟨rfl, rfl⟩
          refine ⟨(Or.inr hld), ?_⟩
          refine TA.tk 5 rfl rfl (Y.bin rfl rfl rfl (br_eqN (n := 4))) ?_
          refine TA.tk 6 rfl rfl (Y.move rfl rfl) ?_
          refine TA.case (fun g22_6 => ?_) (fun g22_6 => ?_)
          · try simp only [zA, zB, zC, zD, zG, zH, zI, zJ] at g22_6
            refine TA.tn 7 rfl rfl ?_
            refine TA.tn 8 rfl rfl ?_
            refine TA.tn 9 rfl rfl ?_
            refine TA.tn 10 rfl rfl ?_
            refine TA.tn 11 rfl rfl ?_
            refine TA.tn 12 rfl rfl ?_
            refine TA.tk 13 rfl rfl (Y.pick_t rfl rfl rfl) ?_
            refine TA.tk 14 rfl rfl (Y.move rfl rfl) ?_
            refine TA.tn 15 rfl rfl ?_
            refine TA.tn 16 rfl rfl ?_
            refine TA.tn 17 rfl rfl ?_
            refine TA.tn 18 rfl rfl ?_
            refine TA.tn 19 rfl rfl ?_
            refine TA.tn 20 rfl rfl ?_
            refine TA.tn 21 rfl rfl ?_
            refine TA.tn 22 rfl rfl ?_
            refine TA.tn 23 rfl rfl ?_
            refine TA.tn 24 rfl rfl ?_
            refine TA.tn 25 rfl rfl ?_
            refine TA.tn 26 rfl rfl ?_
            refine TA.tn 27 rfl rfl ?_
            refine TA.tn 28 rfl rfl ?_
            refine TA.tn 29 rfl rfl ?_
            refine TA.tn 30 rfl rfl ?_
            refine TA.tn 31 rfl rfl ?_
            refine TA.tn 32 rfl rfl ?_
            refine TA.tn 33 rfl rfl ?_
            refine TA.tn 34 rfl rfl ?_
            refine TA.tn 35 rfl rfl ?_
            refine TA.tn 36 rfl rfl ?_
            refine TA.tn 37 rfl rfl ?_
            refine TA.tn 38 rfl rfl ?_
            refine TA.tn 39 rfl rfl ?_
            refine TA.tn 40 rfl rfl ?_
            refine TA.tn 41 rfl rfl ?_
            refine TA.tn 42 rfl rfl ?_
            refine TA.tn 43 rfl rfl ?_
            refine TA.tn 44 rfl rfl ?_
            refine TA.tn 45 rfl rfl ?_
            refine TA.tn 46 rfl rfl ?_
            refine TA.tn 47 rfl rfl ?_
            refine TA.tn 48 rfl rfl ?_
            refine TA.tn 49 rfl rfl ?_
            refine TA.tn 50 rfl rfl ?_
            refine TA.tk 51 rfl rfl (Y.pick_t rfl rfl rfl) ?_
            refine TA.tk 52 rfl rfl (Y.assign rfl rfl) ?_
            refine TA.done (by kernel_rfl) ?_
            refine TQ.next (TC.ret ?_)
            refine TQ.retE (res1 rfl rfl) (⟨rfl, rfl⟩) ?_
            exact ett
          · try simp only [zA, zB, zC, zD, zG, zH, zI, zJ] at g22_6
            refine TA.tk 7 rfl rfl (Y.move rfl rfl) ?_
            refine TA.tk 8 rfl rfl (Y.nilCheck rfl rfl) ?_
            refine TA.tk 9 rfl rfl (by first | exact Y.fieldAddrJ rfl fo46_1 rfl nqq | exact Y.fieldAddr rfl fo46_1 rfl nqq) ?_
            refine TA.tk 10 rfl rfl (Y.load rfl sc26 rfl celD) ?_
            refine TA.as (pt n.b 0) (by rfl) ?_
            refine TA.one 11 (by kernel_rfl) rfl rfl rfl rfl (X.cl rfl Try.func14 rfl (h := (StateND n.b B _))) ?_
            rintro _ _ ⟨rfl, rfl⟩
            refine ⟨(Or.inr hld), ?_⟩
            refine TA.tk 12 rfl rfl (Y.bin rfl rfl rfl (br_eqN (n := 4))) ?_
            refine TA.tk 13 rfl rfl (Y.pick_f rfl rfl rfl) ?_
            refine TA.tk 14 rfl rfl (Y.move rfl rfl) ?_
            refine TA.case (fun g22_14 => ?_) (fun g22_14 => ?_)
            · try simp only [zA, zB, zC, zD, zG, zH, zI, zJ] at g22_14
              refine TA.tn 15 rfl rfl ?_
              refine TA.tn 16 rfl rfl ?_
              refine TA.tn 17 rfl rfl ?_
              refine TA.tn 18 rfl rfl ?_
              refine TA.tn 19 rfl rfl ?_
              refine TA.tn 20 rfl rfl ?_
              refine TA.tn 21 rfl rfl ?_
              refine TA.tn 22 rfl rfl ?_
              refine TA.tn 23 rfl rfl ?_
              refine TA.tn 24 rfl rfl ?_
              refine TA.tn 25 rfl rfl ?_
              refine TA.tn 26 rfl rfl ?_
              refine TA.tn 27 rfl rfl ?_
              refine TA.tn 28 rfl rfl ?_
              refine TA.tn 29 rfl rfl ?_
              refine TA.tn 30 rfl rfl ?_
              refine TA.tn 31 rfl rfl ?_
              refine TA.tn 32 rfl rfl ?_
              refine TA.tn 33 rfl rfl ?_
              refine TA.tn 34 rfl rfl ?_
              refine TA.tn 35 rfl rfl ?_
              refine TA.tn 36 rfl rfl ?_
              refine TA.tn 37 rfl rfl ?_
              refine TA.tn 38 rfl rfl ?_
              refine TA.tn 39 rfl rfl ?_
              refine TA.tn 40 rfl rfl ?_
              refine TA.tn 41 rfl rfl ?_
              refine TA.tn 42 rfl rfl ?_
              refine TA.tn 43 rfl rfl ?_
              refine TA.tn 44 rfl rfl ?_
              refine TA.tn 45 rfl rfl ?_
              refine TA.tn 46 rfl rfl ?_
              refine TA.tn 47 rfl rfl ?_
              refine TA.tn 48 rfl rfl ?_
              refine TA.tn 49 rfl rfl ?_
              refine TA.tn 50 rfl rfl ?_
              refine TA.tk 51 rfl rfl (Y.pick_t rfl rfl rfl) ?_
              refine TA.tk 52 rfl rfl (Y.assign rfl rfl) ?_
              refine TA.done (by kernel_rfl) ?_
              refine TQ.next (TC.ret ?_)
              refine TQ.retE (res1 rfl rfl) (⟨rfl, rfl⟩) ?_
              exact ett
            · try simp only [zA, zB, zC, zD, zG, zH, zI, zJ] at g22_14
              refine TA.tk 15 rfl rfl (Y.move rfl rfl) ?_
              refine TA.tk 16 rfl rfl (Y.nilCheck rfl rfl) ?_
              refine TA.tk 17 rfl rfl (by first | exact Y.fieldAddrJ rfl fo46_6 rfl nqq | exact Y.fieldAddr rfl fo46_6 rfl nqq) ?_
              refine TA.tk 18 rfl rfl (Y.load rfl sc44 rfl celD) ?_
              refine TA.as (.slice n.gB.a n.gB.l.length n.gB.cap) (by rfl) ?_
              refine TA.tk 19 rfl rfl (Y.move rfl rfl) ?_
              refine TA.tk 20 rfl rfl (Y.nilCheck rfl rfl) ?_
              refine TA.tk 21 rfl rfl (by first | exact Y.fieldAddrJ rfl fo46_4 rfl nqq | exact Y.fieldAddr rfl fo46_4 rfl nqq) ?_
              refine TA.tk 22 rfl rfl (Y.load rfl sc44 rfl celD) ?_
              refine TA.as (.slice n.sent.a n.sent.l.length n.sent.cap) (by rfl) ?_
              refine TA.one 23 (by kernel_rfl) rfl rfl rfl rfl (X.cl rfl Try.func21 rfl (h := (same_fn n.gB n.sent (hend g22_6 g22_14).1 hlen.2.2.2.2.1 _))) ?_
              rintro _ _ ⟨rfl, rfl⟩
              refine ⟨(Or.inr hld), ?_⟩
              refine TA.is true isf ?_
              refine TA.tk 24 rfl rfl (Y.move rfl rfl) ?_
              refine TA.tk 25 rfl rfl (Y.move rfl rfl) ?_
              refine TA.tk 26 rfl rfl (Y.nilCheck rfl rfl) ?_
              refine TA.tk 27 rfl rfl (by first | exact Y.fieldAddrJ rfl fo46_7 rfl nqq | exact Y.fieldAddr rfl fo46_7 rfl nqq) ?_
              refine TA.tk 28 rfl rfl (Y.load rfl sc44 rfl celD) ?_
              refine TA.as (.slice n.gA.a n.gA.l.length n.gA.cap) (by rfl) ?_
              refine TA.tk 29 rfl rfl (Y.move rfl rfl) ?_
              refine TA.tk 30 rfl rfl (Y.nilCheck rfl rfl) ?_
              refine TA.tk 31 rfl rfl (by first | exact Y.fieldAddrJ rfl fo46_5 rfl nqq | exact Y.fieldAddr rfl fo46_5 rfl nqq) ?_
              refine TA.tk 32 rfl rfl (Y.load rfl sc44 rfl celD) ?_
              refine TA.as (.slice n.back.a n.back.l.length n.back.cap) (by rfl) ?_
              refine TA.one 33 (by kernel_rfl) rfl rfl rfl rfl (X.cl rfl Try.func21 rfl (h := (same_fn n.gA n.back (hend g22_6 g22_14).2.1 hlen.2.2.2.2.2 _))) ?_
              rintro _ _ ⟨rfl, rfl⟩
              refine ⟨(Or.inr hld), ?_⟩
              refine TA.is true isf ?_
              refine TA.tk 34 rfl rfl (Y.pick_t rfl rfl rfl) ?_
              refine TA.tk 35 rfl rfl (Y.move rfl rfl) ?_
              refine TA.tk 36 rfl rfl (Y.move rfl rfl) ?_
              refine TA.tk 37 rfl rfl (Y.nilCheck rfl rfl) ?_
              refine TA.tk 38 rfl rfl (by first | exact Y.fieldAddrJ rfl fo46_0 rfl nqq | exact Y.fieldAddr rfl fo46_0 rfl nqq) ?_
              refine TA.tk 39 rfl rfl (Y.load rfl sc26 rfl celD) ?_
              refine TA.as (pt n.a 0) (by rfl) ?_
              refine TA.one 40 (by kernel_rfl) rfl rfl rfl rfl (X.cl rfl Try.func22 rfl (h := (WaitND n.a A _))) ?_
              rintro _ _ ⟨rfl, rfl⟩
              refine ⟨(Or.inr hld), ?_⟩
              refine TA.tk 41 rfl rfl (Y.bin rfl rfl rfl (br_eqN (n := 0))) ?_
              refine TA.is true (by (rw [(hend g22_6 g22_14).2.2.1]; rfl)) ?_
              refine TA.tk 42 rfl rfl (Y.pick_t rfl rfl rfl) ?_
              refine TA.tk 43 rfl rfl (Y.move rfl rfl) ?_
              refine TA.tk 44 rfl rfl (Y.move rfl rfl) ?_
              refine TA.tk 45 rfl rfl (Y.nilCheck rfl rfl) ?_
              refine TA.tk 46 rfl rfl (by first | exact Y.fieldAddrJ rfl fo46_1 rfl nqq | exact Y.fieldAddr rfl fo46_1 rfl nqq) ?_
              refine TA.tk 47 rfl rfl (Y.load rfl sc26 rfl celD) ?_
              refine TA.as (pt n.b 0) (by rfl) ?_
              refine TA.one 48 (by kernel_rfl) rfl rfl rfl rfl (X.cl rfl Try.func22 rfl (h := (WaitND n.b B _))) ?_
              rintro _ _ ⟨rfl, rfl⟩
              refine ⟨(Or.inr hld), ?_⟩
              refine TA.tk 49 rfl rfl (Y.bin rfl rfl rfl (br_eqN (n := 0))) ?_
              refine TA.is true (by (rw [(hend g22_6 g22_14).2.2.2]; rfl)) ?_
              refine TA.tk 50 rfl rfl (Y.pick_t rfl rfl rfl) ?_
              refine TA.tk 51 rfl rfl (Y.pick_f rfl rfl rfl) ?_
              refine TA.tk 52 rfl rfl (Y.assign rfl rfl) ?_
              refine TA.done (by kernel_rfl) ?_
              refine TQ.next (TC.ret ?_)
              refine TQ.retE (res1 rfl rfl) (⟨rfl, rfl⟩) ?_
              exact ett
variable {H : Type} {enc : TypeId × Value → H} {W : World} {base : Nat}
set_option maxRecDepth 100000 in
theorem all_open {v4 : Value} {t1 t2 t3 t4 : Int} {d0 d1 d2 d3 d4 : DataW H} {p4 : List MemPlace} (h1 : (Lit.int .u32 t1).wf = true) (h2 : (Lit.int .u32 t2).wf = true) (h3 : (Lit.int .u32 t3).wf = true) (h4 : (Lit.int .u32 t4).wf = true)
    (o4 : Value.okWide Try.prog W .any base 36 v4) (k4 : DataW.Trod enc Try.prog W 0 (fun _ => true) true 36 v4 d4 p4)
    (hsz : (DataW.weightsEach Try.prog ([22, 22, 22, 22, 36] ++ []) ([d0, d1, d2, d3, d4] ++ [])).all (· ≤ reachBytes) = true) :
    Calls Try.prog 6 #[.int .u32 t1, .int .u32 t2, .int .u32 t3, .int .u32 t4, v4] W fun e w' => e = .returned (.bool true) ∧ Fr [] W w' := by
  rw [wf_u32 h1, wf_u32 h2, wf_u32 h3, wf_u32 h4]
  obtain ⟨⟨a, cap, ls⟩, rfl, g1, g0, g2⟩ := open_slice (DatT.slice (B := 56) Try.underlying36 (by kernel_rfl) (by kernel_rfl) datNet) Try.underlying36 4 o4 k4 hsz rfl rfl
  exact Fn.topD (As := [SA.dat (⟨a, cap, ls⟩ : Sl NetT)]) (all_fn _ _ _ _ ⟨a, cap, ls⟩ (fun x hx => Nat.le_trans (by have := (g2 x hx).2.2.2.1.1; omega) (show reachBytes ≤ 140737488351232 by decide)) (by
    have h0 : ls.length * 56 ≤ reachBytes := g0
    have h9 : reachBytes ≤ 140737488351232 := by decide
    show ls.length ≤ 140737488351232
    omega) [SA.old W]) (fun A hA => by rw [hA.one]; exact SA.dat_arg g1)
end ac
end Go.Proofs.Ytomplpdeeomehaa


/- assoc: two sides between which nothing is lost: the law of AssocOpens, in numbers. -/
namespace Go.Proofs.Ytomplpdeeomehaa
set_option linter.unusedVariables false
set_option linter.unusedSimpArgs false
open Go.RowKit
namespace ac
def isD : Pk → Prop
  | .data _ => True
  | _ => False
def isS : Pk → Prop
  | .sack _ _ => True
  | _ => False
def Shape (m k : Nat) (l : List Pk) : Prop := ∃ t1 t2, l = t1 ++ t2 ∧ t1.length = m - k ∧ (∀ p ∈ t1, isD p) ∧ t2.length = min k (2 * m - k) ∧ ∀ p ∈ t2, isS p
theorem Shape.wts {m k : Nat} {l : List Pk} (h : Shape m k l) (hm : m ≤ 16) : wts l ≤ 64 ∧ l.length ≤ 32 := by
  obtain ⟨t1, t2, rfl, h1, h2, h3, h4⟩ := h
  have w1 := wts_le 2 t1 fun p hp => by
    have := h2 p hp
    cases p <;> first | exact this.elim | exact Nat.le_refl _
  have w2 := wts_le 2 t2 fun p hp => by
    have := h4 p hp
    cases p <;> first | exact this.elim | exact Nat.le_of_ble_eq_true rfl
  rw [wts_app, List.length_append]
  omega
structure Op (m k : Nat) (Y : NQ) : Prop where
  d : D2 Y
  ua : un Y.a = 0
  ub : un Y.b = 0
  ab : Shape m k Y.ab
  ba : Shape m k Y.ba
section
variable {Y : NQ} {m k : Nat}
theorem Op.phi (h : Op m k Y) (hm : m ≤ 16) : Phi Y ≤ 200 := by
  have h1 := (h.ab.wts hm).1; have h2 := (h.ba.wts hm).1
  have h3 := h.ua; have h4 := h.ub
  unfold Phi; omega
structure Half (m k : Nat) (Y : NQ) : Prop where
  d : D2 Y
  ua : un Y.a = 0
  ub : un Y.b = 0
  ab : ∃ t1 t2, Y.ab = t1 ++ t2 ∧ t1.length = m - (k + 1) ∧ (∀ p ∈ t1, isD p) ∧ t2.length = (if k < m then k else 2 * m - (k + 1)) ∧ ∀ p ∈ t2, isS p
  ba : ∃ t1 t2, Y.ba = t1 ++ t2 ∧ t1.length = m - k ∧ (∀ p ∈ t1, isD p) ∧ t2.length = (if k < m then k + 1 else 2 * m - k) ∧ ∀ p ∈ t2, isS p
theorem data_hand {q : Q} {p : Pk} (hs : q.state = 3) (hp : isD p) : un (q.hand p).1 = un q ∧ ∃ c l, (q.hand p).2 = [.sack c l] := by
  cases p with
  | data i =>
    simp only [Q.hand]
    rw [if_pos hs]
    have e := Q.recv_same q i
    exact ⟨by show un (q.recv i) = un q; unfold un; rw [e.2.1, e.2.2.1, e.2.2.2.1], _, _, rfl⟩
  | _ => exact hp.elim
theorem sack_hand {q : Q} {ol : Nat} {p : Pk} (hb : QB q ol) (hu : un q = 0) (hp : isS p) : un (q.hand p).1 = 0 ∧ (q.hand p).2 = [] := by
  have h1 := hand_phi hb p
  have h2 : wt p = 1 := by cases p <;> first | exact hp.elim | rfl
  have h3 : wts (q.hand p).2 = 0 := by omega
  refine ⟨by omega, ?_⟩
  have := wts_len (q.hand p).2
  exact List.length_eq_zero_iff.1 (by omega)
theorem Op.r3 (h : Op m k Y) (hm : m ≤ 16) (hn : Net Y) (hg : GT Y) : Half m k Y.r3 := by
  have hφ := h.phi hm
  have hd := h.d.r3 hn hg hφ
  obtain ⟨t1, t2, e, l1, d1, l2, s2⟩ := h.ab
  obtain ⟨u1, u2, e', l1', d1', l2', s2'⟩ := h.ba
  have ob : (Y.b.clocked Y.now).state = 3 := h.d.ob
  have hqb := hn.qb.clocked Y.now
  have hub : un (Y.b.clocked Y.now) = 0 := h.ub
  cases t1 with
  | cons p t =>
    have he : Y.ab = p :: (t ++ t2) := e
    have hw := r3_whole hn hφ he
    rw [hw] at hd ⊢
    obtain ⟨x1, c, l, x2⟩ := data_hand ob (d1 p List.mem_cons_self)
    have hl1 : t.length + 1 = m - k := l1
    refine ⟨hd, h.ua, x1.trans hub, ⟨t, t2, rfl, by omega, fun q hq => d1 q (List.mem_cons_of_mem _ hq), by rw [if_pos (by omega)]; omega, s2⟩, ⟨u1, u2 ++ [.sack c l], ?_, l1', d1', by rw [if_pos (by omega), List.length_append]; show u2.length + 1 = _; omega, fun q hq => ?_⟩⟩
    · show Y.ba ++ ((Y.b.clocked Y.now).hand p).2 = _
      rw [x2, e', List.append_assoc]
    · rcases List.mem_append.1 hq with hq | hq
      · exact s2' q hq
      · rw [List.mem_singleton.1 hq]; trivial
  | nil =>
    have hl1 : 0 = m - k := l1
    cases t2 with
    | nil =>
      have hz : 0 = min k (2 * m - k) := l2
      have e0 : Y.r3 = Y := by unfold NQ.r3; rw [e]; rfl
      rw [e0]
      exact ⟨h.d, h.ua, h.ub, ⟨[], [], e, by show 0 = _; omega, fun q hq => (nomatch hq), by show 0 = _; split <;> omega, fun q hq => (nomatch hq)⟩, ⟨u1, u2, e', l1', d1', by split <;> omega, s2'⟩⟩
    | cons p t =>
      have he : Y.ab = p :: t := e
      have hw := r3_whole hn hφ he
      rw [hw] at hd ⊢
      obtain ⟨x1, x2⟩ := sack_hand hqb hub (s2 p List.mem_cons_self)
      have hl2 : t.length + 1 = min k (2 * m - k) := l2
      refine ⟨hd, h.ua, x1, ⟨[], t, rfl, by show 0 = _; omega, fun q hq => (nomatch hq), by rw [if_neg (by omega)]; omega, fun q hq => s2 q (List.mem_cons_of_mem _ hq)⟩, ⟨u1, u2, ?_, l1', d1', by rw [if_neg (by omega)]; omega, s2'⟩⟩
      show Y.ba ++ ((Y.b.clocked Y.now).hand p).2 = _
      rw [x2, e', List.append_nil]
theorem Half.phi (h : Half m k Y) (hm : m ≤ 16) : Phi Y ≤ 200 := by
  obtain ⟨t1, t2, e, l1, d1, l2, s2⟩ := h.ab
  obtain ⟨u1, u2, e', l1', d1', l2', s2'⟩ := h.ba
  have w : ∀ t : List Pk, (∀ p ∈ t, isD p ∨ isS p) → wts t ≤ 2 * t.length := fun t ht => wts_le 2 t fun p hp => by
    have := ht p hp
    cases p <;> first | exact (this.elim id id).elim | exact Nat.le_of_ble_eq_true rfl
  have w1 := w t1 fun p hp => .inl (d1 p hp)
  have w2 := w t2 fun p hp => .inr (s2 p hp)
  have w3 := w u1 fun p hp => .inl (d1' p hp)
  have w4 := w u2 fun p hp => .inr (s2' p hp)
  have h3 := h.ua; have h4 := h.ub
  unfold Phi
  rw [e, e', wts_app, wts_app]
  split at l2 <;> split at l2' <;> omega
theorem Half.r4 (h : Half m k Y) (hm : m ≤ 16) (hn : Net Y) (hg : GT Y) : Op m (k + 1) Y.r4 := by
  have hφ := h.phi hm
  have hd := h.d.r4 hn hg hφ
  obtain ⟨t1, t2, e, l1, d1, l2, s2⟩ := h.ab
  obtain ⟨u1, u2, e', l1', d1', l2', s2'⟩ := h.ba
  have oa : (Y.a.clocked Y.now).state = 3 := h.d.oa
  have hqa := hn.qa.clocked Y.now
  have hua : un (Y.a.clocked Y.now) = 0 := h.ua
  have whole : ∀ {p : Pk} {t : List Pk}, Y.ba = p :: t → Y.r4 = ({ Y with ba := t } : NQ).hand4 p := fun {p t} he => by
    rw [r4_swap, r3_whole hn.swap (by rw [Phi_swap]; exact hφ) (p := p) (t := t) he]; rfl
  cases u1 with
  | cons p t =>
    have he : Y.ba = p :: (t ++ u2) := e'
    have hw := whole he
    rw [hw] at hd ⊢
    obtain ⟨x1, c, l, x2⟩ := data_hand oa (d1' p List.mem_cons_self)
    have hl1 : t.length + 1 = m - k := l1'
    rw [if_pos (by omega)] at l2 l2'
    refine ⟨hd, x1.trans hua, h.ub, ⟨t1, t2 ++ [.sack c l], ?_, by omega, d1, by rw [List.length_append]; show t2.length + 1 = _; omega, fun q hq => ?_⟩, ⟨t, u2, rfl, by omega, fun q hq => d1' q (List.mem_cons_of_mem _ hq), by omega, s2'⟩⟩
    · show Y.ab ++ ((Y.a.clocked Y.now).hand p).2 = _
      rw [x2, e, List.append_assoc]
    · rcases List.mem_append.1 hq with hq | hq
      · exact s2 q hq
      · rw [List.mem_singleton.1 hq]; trivial
  | nil =>
    have hl1 : 0 = m - k := l1'
    rw [if_neg (by omega)] at l2 l2'
    cases u2 with
    | nil =>
      have hz : 0 = 2 * m - k := l2'
      have e0 : Y.r4 = Y := by unfold NQ.r4; rw [e']; rfl
      rw [e0]
      exact ⟨h.d, h.ua, h.ub, ⟨t1, t2, e, by omega, d1, by omega, s2⟩, ⟨[], [], e', by show 0 = _; omega, fun q hq => (nomatch hq), by show 0 = _; omega, fun q hq => (nomatch hq)⟩⟩
    | cons p t =>
      have he : Y.ba = p :: t := e'
      have hw := whole he
      rw [hw] at hd ⊢
      obtain ⟨x1, x2⟩ := sack_hand hqa hua (s2' p List.mem_cons_self)
      have hl2 : t.length + 1 = 2 * m - k := l2'
      refine ⟨hd, x1, h.ub, ⟨t1, t2, ?_, by omega, d1, by omega, s2⟩, ⟨[], t, rfl, by show 0 = _; omega, fun q hq => (nomatch hq), by omega, fun q hq => s2' q (List.mem_cons_of_mem _ hq)⟩⟩
      show Y.ab ++ ((Y.a.clocked Y.now).hand p).2 = _
      rw [x2, e, List.append_nil]
theorem Op.dry (h : Op m k Y) (hk : 2 * m ≤ k) : Dry Y := by
  have z : ∀ {l : List Pk}, Shape m k l → l = [] := fun {l} hl => by
    obtain ⟨t1, t2, rfl, l1, d1, l2, s2⟩ := hl
    have h1 : t1 = [] := List.length_eq_zero_iff.1 (by omega)
    have h2 : t2 = [] := List.length_eq_zero_iff.1 (by omega)
    rw [h1, h2]; rfl
  exact ⟨z h.ab, z h.ba⟩
theorem send_open {q : Q} {ol : Nat} (hb : QB q ol) (ht : T q Y.now) (hs : q.state = 3) (hu : un q = 0) (hl : q.msgs.length < 16) (m : PM) (hm : m.2.2.length ≤ 1024) :
    q.can m ∧ (q.send m Y.now).2 = [.data (q.acked + q.sent)] ∧ un (q.send m Y.now).1 = 0 ∧ (q.send m Y.now).1.state = 3 ∧ (q.send m Y.now).1.acked = q.acked ∧ (q.send m Y.now).1.sent = q.sent + 1 ∧ (q.send m Y.now).1.got = q.got ∧ (q.send m Y.now).1.kept = q.kept ∧ (q.send m Y.now).1.msgs = q.msgs ++ [m] := by
  have hlen : q.len = q.msgs.length - q.acked := rfl
  have hw := hb.win
  have hc : q.can m := ⟨hs, hm, by omega⟩
  have hu2 : q.msgs.length - (q.acked + q.sent) = 0 := hu
  have e := Q.more_same (q.taken m Y.now)
  have tl : (q.taken m Y.now).len = q.len + 1 := by show (q.msgs ++ [m]).length - q.acked = _; rw [List.length_append]; show q.msgs.length + 1 - q.acked = _; omega
  have ts : (q.taken m Y.now).sent = q.sent := rfl
  have hwin : (q.taken m Y.now).win = [q.sent] := by
    unfold Q.win
    rw [tl, ts, show min (q.len + 1) 16 - q.sent = 1 by omega]; rfl
  have e8 : (q.taken m Y.now).more.sent = q.sent + 1 := by rw [e.2.2.2.2.2.2.2, tl, ts]; omega
  unfold Q.send
  rw [if_pos hc]
  refine ⟨hc, ?_, ?_, e.1.trans hs, e.2.2.2.2.2.1, e8, e.2.2.1, e.2.2.2.1, e.2.1⟩
  · show (q.taken m Y.now).win.map _ = _
    rw [hwin]; rfl
  · show (q.taken m Y.now).more.msgs.length - ((q.taken m Y.now).more.acked + (q.taken m Y.now).more.sent) = 0
    rw [e.2.1, e.2.2.2.2.2.1, e8]
    show (q.msgs ++ [m]).length - (q.acked + (q.sent + 1)) = 0
    rw [List.length_append]; show q.msgs.length + 1 - _ = 0; omega
structure Sent (m k1 k2 : Nat) (Y : NQ) : Prop where
  d : D2 Y
  ua : un Y.a = 0
  ub : un Y.b = 0
  ab : Y.ab.length = k1 ∧ ∀ p ∈ Y.ab, isD p
  ba : Y.ba.length = k2 ∧ ∀ p ∈ Y.ba, isD p
  ma : Y.a.msgs.length = k1
  mb : Y.b.msgs.length = k2
theorem Sent.swap {k1 k2 : Nat} (h : Sent m k1 k2 Y) : Sent m k2 k1 Y.swap := ⟨h.d.swap, h.ub, h.ua, h.ba, h.ab, h.mb, h.ma⟩
theorem Sent.send1 {k1 k2 : Nat} (h : Sent m k1 k2 Y) (hn : Net Y) (hg : GT Y) (h1 : k1 < 16) (h2 : k2 ≤ 16) (x : PM) (hx : x.2.2.length ≤ 1024) : Sent m (k1 + 1) k2 (Y.send1 x).clip := by
  obtain ⟨c1, c2, c3, c4, c5, c6, c7, c8, c9⟩ := send_open (Y := Y) hn.qa hg.ta h.d.oa h.ua (by rw [h.ma]; exact h1) x hx
  have e1 : (Y.send1 x).clip.ab = Y.ab ++ [.data (Y.a.acked + Y.a.sent)] := by
    show (Y.ab ++ (Y.a.send x Y.now).2).take 200 = _
    rw [c2, List.take_of_length_le (by rw [List.length_append, h.ab.1]; show k1 + 1 ≤ 200; omega)]
  have e2 : (Y.send1 x).clip.ba = Y.ba := by
    show Y.ba.take 200 = _
    rw [List.take_of_length_le (by rw [h.ba.1]; omega)]
  have dd1 := h.d.d1; have dd2 := h.d.d2
  refine ⟨⟨c4, h.d.ob, ?_, ?_⟩, c3, h.ub, ?_, ?_, ?_, h.mb⟩
  · rw [e1, e2]
    refine ⟨fun i g1 g2 => ?_, ?_⟩
    · have g1 : Y.a.acked ≤ i := by rw [← c5]; exact g1
      have g2 : i < Y.a.acked + (Y.a.sent + 1) := by rw [← c5, ← c6]; exact g2
      by_cases hi : i < Y.a.acked + Y.a.sent
      · exact (dd1.d i g1 hi).imp (fun z => List.mem_append_left _ z) id
      · exact .inl (List.mem_append_right _ (List.mem_singleton.2 (by congr 1; omega)))
    · show Y.b.got = (Y.a.send x Y.now).1.acked ∨ _
      rw [c5]
      exact dd1.f.imp id fun z => z.imp id fun ⟨i, hi⟩ => ⟨i, List.mem_append_left _ hi⟩
  · rw [e1, e2]
    refine ⟨fun i g1 g2 => (dd2.d i g1 g2).imp id fun z => ?_, ?_⟩
    · show i < (Y.a.send x Y.now).1.got ∨ (Y.a.send x Y.now).1.kept i = true
      rw [c7, c8]; exact z
    · show (Y.a.send x Y.now).1.got = Y.b.acked ∨ (∃ l, Pk.sack (Y.a.send x Y.now).1.got l ∈ _) ∨ _
      rw [c7]
      exact dd2.f.imp id fun z => z.imp (fun ⟨l, hl⟩ => ⟨l, List.mem_append_left _ hl⟩) id
  · rw [e1]
    refine ⟨by rw [List.length_append, h.ab.1]; rfl, fun p hp => ?_⟩
    rcases List.mem_append.1 hp with hp | hp
    · exact h.ab.2 p hp
    · rw [List.mem_singleton.1 hp]; trivial
  · rw [e2]; exact h.ba
  · show (Y.a.send x Y.now).1.msgs.length = k1 + 1
    rw [c9, List.length_append, h.ma]; rfl
theorem Sent.send2 {k1 k2 : Nat} (h : Sent m k1 k2 Y) (hn : Net Y) (hg : GT Y) (h1 : k1 ≤ 16) (h2 : k2 < 16) (x : PM) (hx : x.2.2.length ≤ 1024) : Sent m k1 (k2 + 1) (Y.send2 x).clip := (h.swap.send1 hn.swap hg.swap h2 h1 x hx).swap
theorem Sent.op {k1 : Nat} (h : Sent m k1 k1 Y) : Op k1 0 Y :=
  ⟨h.d, h.ua, h.ub, ⟨Y.ab, [], (List.append_nil _).symm, h.ab.1, h.ab.2, by show 0 = _; omega, fun q hq => (nomatch hq)⟩, ⟨Y.ba, [], (List.append_nil _).symm, h.ba.1, h.ba.2, by show 0 = _; omega, fun q hq => (nomatch hq)⟩⟩
end
/-! ### the handshake -/
def rk (Y : NQ) : Nat → NQ
  | 0 => Y
  | k + 1 => (rk Y k).r3.r4
end ac
end Go.Proofs.Ytomplpdeeomehaa


/- assoc: AssocOpens, walked and opened. -/
namespace Go.Proofs.Ytomplpdeeomehaa
set_option linter.unusedVariables false
set_option linter.unusedSimpArgs false
open Go.ChangeShapes Go.WideShapes Go.ChangeAt Go.RowKit
namespace ac
open wr (be16 be32)
open rd (num)
open Go.Proofs.Ytomplpdeeomehaa.ac.FxAsNet4 Go.Proofs.Ytomplpdeeomehaa.ac.FxAsNet Go.Proofs.Ytomplpdeeomehaa.ac.FxAsN1 Go.Proofs.Ytomplpdeeomehaa.ac.FxAsOg Go.Proofs.Ytomplpdeeomehaa.rd.FxWireR Go.Proofs.Ytomplpdeeomehaa.ac.FxAsS Go.Proofs.Ytomplpdeeomehaa.sha.FxShaSum
theorem TL.nd {κ : Ctx} {P : Program} {N : Nat} {ops : Array Oper} {rest : List Oper} {F : FE} {L L0 : List SA} {Qx : Exit → Act → World → Prop} {nb : Nat} {X : PN} (hp : Pull (ac.ND nb X) L L0) (k : ∀ n A B, absN n A B = X → TL κ P N ops rest F (nB nb n :: ac.SD n.a A :: ac.SD n.b B :: oP n.ab :: rP n.ab :: oP n.ba :: rP n.ba :: oM n.sent :: rMs n.sent :: oM n.back :: rMs n.back :: oM n.gB :: rMs n.gB :: oM n.gA :: rMs n.gA :: L0) Qx) : TL κ P N ops rest F L Qx := fun ds a w ha hd hw => by
  obtain ⟨n, A, B, hX, h1⟩ := ND_st ((Pull.there hp).st hw)
  refine k n A B hX ds a w ha hd ?_
  exact (show Ent (NAt nb n A B ++ SA.hid κ.X ds :: L0) (SA.hid κ.X ds :: (NAt nb n A B ++ L0)) by
    generalize ac.SD n.a A = A1
    generalize ac.SD n.b B = A2
    generalize SA.hid κ.X ds = A3
    simp only [List.cons_append, List.nil_append]
    exact ett).st h1
theorem step_s1 (y : NQ) (N : Int) (kp : Bool) (d : List UInt8) (nw : UInt16) : y.step 1 N kp d nw = (y.send1 (mkM N d)).clip := by unfold NQ.step; rw [if_pos rfl]
theorem step_s2 (y : NQ) (N : Int) (kp : Bool) (d : List UInt8) (nw : UInt16) : y.step 2 N kp d nw = (y.send2 (mkM N d)).clip := by unfold NQ.step; rw [if_neg (by decide), if_pos rfl]
theorem mkM_len (N : Int) (d : List UInt8) : (mkM N d).2.2.length ≤ 1024 := by show (d.take 200).length ≤ 1024; rw [List.length_take]; omega
theorem al0 (tag tsn other first : UInt32) : Al (parS tag tsn other first) (netX0 tag tsn other first) netY0 0 0 :=
  ⟨sim0 tag tsn other first, gt0.1, gt0.2, Nat.le_refl _, Nat.le_refl _, by show 1 ≤ 200; decide, by show 0 ≤ 200; decide, Int.le_refl 0, Int.le_refl 0⟩
abbrev y4 : NQ := rk netY0 4
theorem y4_st : y4.a.state = 3 ∧ y4.b.state = 3 := ⟨rfl, rfl⟩
theorem sent0 : Sent 0 0 0 y4 := by
  refine ⟨⟨rfl, rfl, ⟨fun i h1 h2 => ?_, .inl rfl⟩, ⟨fun i h1 h2 => ?_, .inl rfl⟩⟩, rfl, rfl, ⟨rfl, fun p hp => (by cases hp)⟩, ⟨rfl, fun p hp => (by cases hp)⟩, rfl, rfl⟩
  · have h2 : i < 0 + 0 := h2
    omega
  · have h2 : i < 0 + 0 := h2
    omega
set_option maxHeartbeats 4000000 in
theorem opened_nd (nb : Nat) (P : SP) (hP : SPok P) (x : PN) (hx : Al P x netY0 0 0) (L : List SA) :
    Fn Try.prog 18 [pt nb 0] (ND nb x :: L) (fun v L' => ∃ x', v = .bool true ∧ Al P x' y4 0 0 ∧ L' = ND nb x' :: L) := by
  refine Fn.of (N := 26) Try.func18 rfl rfl ?_
  intro Xh
  refine TC.seq (TC.region ?_)
  refine TL.sg ?_
  refine TL.nil (TQ.next (TC.seq (TC.seq (TC.region ?_))))
  refine TL.mv ?_
  refine TL.nil (TQ.next (TC.block ?_))
  refine TC.loopF (ι := Nat × PN) [] (fun i => i.1 ≤ 4 ∧ Al P i.2 (rk netY0 i.1) 0 0) (fun i => [(3, some (vN i.1))]) (fun i => [ND nb i.2]) (fun i => 4 - i.1) ((0, x)) (⟨Nat.zero_le 4, hx⟩) ⟨rfl, trivial⟩ (Pulls.cons pul Pulls.nil) ?_
  rintro ⟨k, x0⟩ ⟨hk, hA⟩ F' L' rfl hL'
  simp only [List.cons_append, List.nil_append] at hL'
  subst hL'
  simp only at hk hA ⊢
  refine TC.seq (TC.region ?_)
  refine TL.val rfl rfl rfl (Y.bin rfl rfl rfl (br_ltN (n := 4))) ?_
  refine TL.nil (TQ.next (TC.seq ?_))
  refine TC.cond rfl (fun c0 => ?_) (fun c0 => ?_)
  · try simp only [zA, zB, zC, zD, zE, zF, zG, zH, zI, zJ] at c0
    have hF := hA.fits hP (by omega)
    have hA4 := hA.r3 hP (by decide)
    have hF4 := hA4.fits hP (by omega)
    have hA5 := hA4.r4 hP (by decide)
    refine TC.to (Ent.nilD (α := UInt8)) ?_
    refine TC.skip (TQ.next (TC.seq (TC.block (TC.seq (TC.region ?_)))))
    refine TL.mv ?_
    refine TL.val rfl rfl rfl (Y.buildS (cells := netArg 3 0 false (.slice none 0 0) 0) rfl rfl pl42 zc42 (by kernel_rfl)) ?_
    refine TL.eff rfl rfl rfl (X.cl rfl Try.func16 rfl (h := (step_fn nb x0 hF 3 0 false noD (Nat.zero_le _) 0 _))) ?_
    rintro _ _ rfl
    generalize x0.step 3 0 false noD.l 0 = x4 at hA4 hF4 hA5 ⊢
    refine TL.nil (TQ.next (TC.region ?_))
    refine TL.mv ?_
    refine TL.val rfl rfl rfl (Y.buildS (cells := netArg 4 0 false (.slice none 0 0) 0) rfl rfl pl42 zc42 (by kernel_rfl)) ?_
    refine TL.eff rfl rfl rfl (X.cl rfl Try.func16 rfl (h := (step_fn nb x4 hF4 4 0 false noD (Nat.zero_le _) 0 _))) ?_
    rintro _ _ rfl
    refine TL.nil (TQ.block_normal (TQ.next (TC.region ?_)))
    refine TL.val rfl rfl rfl (Y.bin rfl rfl rfl (br_addN (n := 1) (by omega))) ?_
    refine TL.mv ?_
    refine TL.nil ?_
    refine TQ.loopF ((k + 1, x4.step 4 0 false noD.l 0)) (⟨by show k + 1 ≤ 4; omega, hA5⟩) (by show 4 - (k + 1) < 4 - k; omega) ⟨rfl, trivial⟩ grw ?_ ?_ ?_
    · kernel_rfl
    · rfl
    · simp only [List.cons_append, List.nil_append]
      exact ett
  · try simp only [zA, zB, zC, zD, zE, zF, zG, zH, zI, zJ] at c0
    obtain rfl : k = 4 := by omega
    refine TC.nd (X := x0) pul ?_
    rintro n A B hX
    have hS := (hX.symm ▸ hA).sim
    have sa : A.state = 3 := hS.ra.state.trans y4_st.1
    have sb : B.state = 3 := hS.rb.state.trans y4_st.2
    refine TC.exit (TQ.then_exit (TQ.then_exit (TQ.block_exit (TQ.next (TC.seq (TC.region ?_))))))
    refine TL.mv ?_
    refine TL.nc ?_
    refine TL.val rfl rfl rfl (by first | exact Y.fieldAddrJ rfl fo46_0 rfl nqq | exact Y.fieldAddr rfl fo46_0 rfl nqq) ?_
    refine TL.val rfl rfl rfl (Y.load rfl sc26 rfl celD) ?_
    refine TL.as (pt n.a 0) (by rfl) ?_
    refine TL.eff rfl rfl rfl (X.cl rfl Try.func14 rfl (h := (StateND n.a A _))) ?_
    rintro _ _ ⟨rfl, rfl⟩
    refine TL.val rfl rfl rfl (Y.bin rfl rfl rfl (br_eqN (n := 3))) ?_
    refine TL.is true (by (rw [sa]; rfl)) ?_
    refine TL.mv ?_
    refine TL.mg ?_
    refine TL.valG rfl rfl rfl (Y.nilCheck rfl rfl) ?_
    refine TL.valG rfl rfl rfl (by first | exact Y.fieldAddrJ rfl fo46_1 rfl nqq | exact Y.fieldAddr rfl fo46_1 rfl nqq) ?_
    refine TL.valG rfl rfl rfl (Y.load rfl sc26 rfl celD) ?_
    refine TL.as (pt n.b 0) (by rfl) ?_
    refine TL.effG rfl rfl rfl (X.cl rfl Try.func14 rfl (h := (StateND n.b B _))) ?_
    rintro _ _ ⟨rfl, rfl⟩
    refine TL.valG rfl rfl rfl (Y.bin rfl rfl rfl (br_eqN (n := 3))) ?_
    refine TL.is true (by (rw [sb]; rfl)) ?_
    refine TL.val rfl rfl rfl (Y.pick_t rfl rfl rfl) ?_
    refine TL.sg ?_
    refine TL.nil (TQ.next (TC.ret ?_))
    refine TQ.to (Ent.nd hX (Pulls.cons pul (Pulls.cons pul (Pulls.cons pul (Pulls.cons pul (Pulls.cons pul (Pulls.cons pul (Pulls.cons pul (Pulls.cons pul (Pulls.cons pul (Pulls.cons pul (Pulls.cons pul (Pulls.cons pul (Pulls.cons pul (Pulls.cons pul (Pulls.cons pul Pulls.nil)))))))))))))))) ?_
    refine TQ.retE (res1 rfl rfl) (⟨x0, rfl, hA, rfl⟩) ?_
    exact ett
set_option maxHeartbeats 8000000 in
theorem opens_fn (tag tsn other first : UInt32) (s : Sl Bs) (hs : ∀ x ∈ s.l, x.l.length ≤ 140737488351232) (hl : s.l.length ≤ 140737488351232) (L : List SA) :
    Fn Try.prog 7 [v32 tag, v32 tsn, v32 other, v32 first, s.v] (SA.dat s :: L) (fun v L' => v = .bool true ∧ L' = SA.dat s :: L) := by
  obtain ⟨sa, sc, sl⟩ := s
  simp only at hs hl
  have hP := parS_ok tag tsn other first
  refine Fn.of (N := 101) Try.func7 rfl rfl ?_
  intro Xh
  refine TC.seq (TC.region ?_)
  refine TL.sg ?_
  refine TL.nil (TQ.next (TC.seq (TC.seq (TC.region ?_))))
  refine TL.eff rfl rfl rfl (X.cl rfl Try.func10 rfl (h := (ac.awake_fn _))) ?_
  rintro _ _ ⟨rfl, rfl⟩
  refine TL.val rfl rfl rfl (Y.not rfl rfl) ?_
  refine TL.nil (TQ.next ?_)
  refine TC.cond_f rfl ?_
  refine TC.skip (TQ.next (TC.seq (TC.region ?_)))
  refine TL.mv ?_
  refine TL.mv ?_
  refine TL.mv ?_
  refine TL.mv ?_
  refine TL.eff rfl rfl rfl (X.cl rfl Try.func15 rfl (h := (begun_nd tag tsn other first _))) ?_
  rintro _ _ ⟨nb, rfl, rfl⟩
  refine TL.sg ?_
  refine TL.nil (TQ.next (TC.seq (TC.seq (TC.region ?_))))
  refine TL.mv ?_
  refine TL.eff rfl rfl rfl (X.cl rfl Try.func18 rfl (h := (opened_nd nb _ hP _ (al0 tag tsn other first) _))) ?_
  rintro _ _ ⟨x1, rfl, hA1, rfl⟩
  refine TL.nd (X := x1) pul ?_
  rintro n A B hX
  have hq : A.queue.length = 0 := by
    have h1 := (hX.symm ▸ hA1)
    have h2 : A.queue.length = y4.a.msgs.length - y4.a.acked := h1.sim.ra.len
    have h3 := h1.a
    omega
  refine TL.val rfl rfl rfl (Y.not rfl rfl) ?_
  refine TL.mv ?_
  refine TL.mg ?_
  refine TL.valG rfl rfl rfl (Y.nilCheck rfl rfl) ?_
  refine TL.valG rfl rfl rfl (by first | exact Y.fieldAddrJ rfl fo46_0 rfl nqq | exact Y.fieldAddr rfl fo46_0 rfl nqq) ?_
  refine TL.valG rfl rfl rfl (Y.load rfl sc26 rfl celD) ?_
  refine TL.as (pt n.a 0) (by rfl) ?_
  refine TL.effG rfl rfl rfl (X.cl rfl Try.func22 rfl (h := (WaitND n.a A _))) ?_
  rintro _ _ ⟨rfl, rfl⟩
  refine TL.valG rfl rfl rfl (Y.bin rfl rfl rfl (br_neN (n := 0))) ?_
  refine TL.is false (by (rw [hq]; rfl)) ?_
  refine TL.val rfl rfl rfl (Y.pick_f rfl rfl rfl) ?_
  refine TL.nil ?_
  refine TQ.to (Ent.nd hX (Pulls.cons pul (Pulls.cons pul (Pulls.cons pul (Pulls.cons pul (Pulls.cons pul (Pulls.cons pul (Pulls.cons pul (Pulls.cons pul (Pulls.cons pul (Pulls.cons pul (Pulls.cons pul (Pulls.cons pul (Pulls.cons pul (Pulls.cons pul (Pulls.cons pul Pulls.nil)))))))))))))))) ?_
  refine TQ.next ?_
  refine TC.cond_f rfl ?_
  refine TC.skip (TQ.next ?_)
  refine TC.cutF (ι := Nat × PN × NQ) [] (fun i => i.1 = min sl.length 16 ∧ Al (parS tag tsn other first) i.2.1 i.2.2 32 200000 ∧ Sent 0 i.1 i.1 i.2.2) (fun i => []) (fun i => [ND nb i.2.1]) (Ao := [ND nb x1]) (Pulls.cons pul Pulls.nil) ?_ ?_
  · rintro L' hL'
    simp only [List.cons_append, List.nil_append] at hL'
    subst hL'
    refine TC.seq (TC.region ?_)
    refine TL.mv ?_
    refine TL.val rfl rfl rfl (Y.len rfl Try.underlying24 rfl) ?_
    refine TL.as (vN sl.length) (by rfl) ?_
    refine TL.mv ?_
    refine TL.nil (TQ.next (TC.block ?_))
    refine TC.loopF (ι := Nat × PN × NQ) [] (fun i => i.1 ≤ sl.length ∧ i.1 ≤ 16 ∧ Al (parS tag tsn other first) i.2.1 i.2.2 (2 * i.1) (8000 * (i.1 : Int)) ∧ Sent 0 i.1 i.1 i.2.2) (fun i => [(33, some (vN i.1))]) (fun i => [ND nb i.2.1]) (fun i => sl.length - i.1) ((0, x1, y4)) (⟨Nat.zero_le _, Nat.zero_le _, hA1, sent0⟩) ⟨rfl, trivial⟩ (Pulls.cons pul Pulls.nil) ?_
    rintro ⟨k, x0, y0⟩ ⟨hk, hk2, hA, hS⟩ F' L' rfl hL'
    simp only [List.cons_append, List.nil_append] at hL'
    subst hL'
    simp only at hk hk2 hA hS ⊢
    refine TC.seq (TC.region ?_)
    refine TL.val rfl rfl rfl (Y.bin rfl rfl rfl (br_ltN)) ?_
    refine TL.nil (TQ.next (TC.seq ?_))
    refine TC.cond rfl (fun c2 => ?_) (fun c2 => ?_)
    · try simp only [zA, zB, zC, zD, zE, zF, zG, zH, zI, zJ] at c2
      refine TC.skip (TQ.next (TC.seq (TC.block (TC.seq (TC.region ?_)))))
      refine TL.mv ?_
      refine TL.sg ?_
      refine TL.nil (TQ.next (TC.seq (TC.seq (TC.region ?_))))
      refine TL.mv ?_
      refine TL.val rfl rfl rfl (Y.bin rfl rfl rfl (br_geN (n := 16))) ?_
      refine TL.nil (TQ.next ?_)
      refine TC.cond rfl (fun c3 => ?_) (fun c3 => ?_)
      · try simp only [zA, zB, zC, zD, zE, zF, zG, zH, zI, zJ] at c3
        refine TC.exit (TQ.then_exit (TQ.block_out rfl (TQ.then_exit (TQ.then_exit (TQ.block_exit ?_)))))
        refine TQ.meetF (ι := Nat × PN × NQ) (I := fun i => i.1 = min sl.length 16 ∧ Al (parS tag tsn other first) i.2.1 i.2.2 32 200000 ∧ Sent 0 i.1 i.1 i.2.2) (C := fun (_ : Nat × PN × NQ) => []) (U := []) ((k, x0, y0)) (⟨by show k = min sl.length 16; omega, hA.mono (by omega) (by omega), hS⟩) trivial grw ?_ ?_
        · kernel_rfl
        · simp only [List.cons_append, List.nil_append]
          exact ett
      · try simp only [zA, zB, zC, zD, zE, zF, zG, zH, zI, zJ] at c3
        obtain ⟨d, hx, hxm⟩ := getS (l := sl) (i := k) (by omega)
        refine TC.know (dat_some (a := sa) (l := sl) (cap := sc) inn (by omega)) ?_
        rintro ⟨sg, so, rfl⟩
        have hd := hs _ hxm
        have hF := hA.fits hP (by omega)
        have hA2 := hA.step hP (by omega) 1 0 false d.l 0
        have hF2 := hA2.fits hP (by omega)
        have hA3 := hA2.step hP (by omega) 2 0 false d.l 0
        have hS2 := hS.send1 hA.sim.net hA.gt (by omega) (by omega) (mkM 0 d.l) (mkM_len 0 d.l)
        rw [← step_s1 y0 0 false d.l 0] at hS2
        have hS3 := hS2.send2 hA2.sim.net hA2.gt (by omega) (by omega) (mkM 0 d.l) (mkM_len 0 d.l)
        rw [← step_s2 _ 0 false d.l 0] at hS3
        refine TC.to ((Pull.ent (A := SA.dat (⟨some ⟨sg, so, none⟩, sc, sl⟩ : Sl Bs)) pul).trans (Ent.elem hxm)) ?_
        refine TC.skip (TQ.next (TC.seq (TC.region ?_)))
        refine TL.mv ?_
        refine TL.mv ?_
        refine TL.as (.slice (some ⟨sg, so, none⟩) sl.length sc) (by rfl) ?_
        refine TL.mv ?_
        refine TL.val rfl rfl rfl (by first | exact Y.indexSlB rfl sl24 rfl rfl (by omega) nqq | exact Y.indexSl rfl sl24 rfl rfl (by omega) nqq) ?_
        refine TL.val rfl rfl rfl (Y.load rfl sc23 rfl celD) ?_
        refine TL.as (.slice d.a d.l.length d.cap) (by rfl) ?_
        refine TL.val rfl rfl rfl (Y.buildS (cells := netArg 1 0 false (.slice d.a d.l.length d.cap) 0) rfl rfl pl42 zc42 (by kernel_rfl)) ?_
        refine TL.eff rfl rfl rfl (X.cl rfl Try.func16 rfl (h := (step_fn nb x0 hF 1 0 false d hd 0 _))) ?_
        rintro _ _ rfl
        generalize x0.step 1 0 false d.l 0 = x2 at hA2 hF2 hA3 ⊢
        refine TL.nil (TQ.next (TC.region ?_))
        refine TL.mv ?_
        refine TL.mv ?_
        refine TL.as (.slice (some ⟨sg, so, none⟩) sl.length sc) (by rfl) ?_
        refine TL.mv ?_
        refine TL.val rfl rfl rfl (by first | exact Y.indexSlB rfl sl24 rfl rfl (by omega) nqq | exact Y.indexSl rfl sl24 rfl rfl (by omega) nqq) ?_
        refine TL.val rfl rfl rfl (Y.load rfl sc23 rfl celD) ?_
        refine TL.as (.slice d.a d.l.length d.cap) (by rfl) ?_
        refine TL.val rfl rfl rfl (Y.buildS (cells := netArg 2 0 false (.slice d.a d.l.length d.cap) 0) rfl rfl pl42 zc42 (by kernel_rfl)) ?_
        refine TL.eff rfl rfl rfl (X.cl rfl Try.func16 rfl (h := (step_fn nb x2 hF2 2 0 false d hd 0 _))) ?_
        rintro _ _ rfl
        refine TL.nil (TQ.block_normal (TQ.next (TC.region ?_)))
        refine TL.val rfl rfl rfl (Y.bin rfl rfl rfl (br_addN (n := 1) (by omega))) ?_
        refine TL.mv ?_
        refine TL.nil ?_
        refine TQ.loopF ((k + 1, x2.step 2 0 false d.l 0, (y0.step 1 0 false d.l 0).step 2 0 false d.l 0)) (⟨by show k + 1 ≤ sl.length; omega, by show k + 1 ≤ 16; omega, hA3.mono (by show 2 * k + 1 + 1 ≤ 2 * (k + 1); omega) (by show 8000 * (k : Int) + 4000 + 4000 ≤ 8000 * ((k + 1 : Nat) : Int); omega), hS3⟩) (by show sl.length - (k + 1) < sl.length - k; omega) ⟨rfl, trivial⟩ grw ?_ ?_ ?_
        · kernel_rfl
        · rfl
        · simp only [List.cons_append, List.nil_append]
          exact ett
    · try simp only [zA, zB, zC, zD, zE, zF, zG, zH, zI, zJ] at c2
      refine TC.exit (TQ.then_exit (TQ.then_exit (TQ.block_exit ?_)))
      refine TQ.meetF (ι := Nat × PN × NQ) (I := fun i => i.1 = min sl.length 16 ∧ Al (parS tag tsn other first) i.2.1 i.2.2 32 200000 ∧ Sent 0 i.1 i.1 i.2.2) (C := fun (_ : Nat × PN × NQ) => []) (U := []) ((k, x0, y0)) (⟨by show k = min sl.length 16; omega, hA.mono (by omega) (by omega), hS⟩) trivial grw ?_ ?_
      · kernel_rfl
      · simp only [List.cons_append, List.nil_append]
        exact ett
  · rintro ⟨m, x5, y5⟩ ⟨hm, hA5, hS5⟩ F' L' rfl hL'
    simp only [List.cons_append, List.nil_append] at hL'
    subst hL'
    simp only at hm hA5 hS5 ⊢
    refine TC.seq (TC.seq (TC.region ?_))
    refine TL.mv ?_
    refine TL.nil (TQ.next (TC.block ?_))
    refine TC.loopF (ι := Nat × PN × NQ) [] (fun i => i.1 ≤ 40 ∧ Al (parS tag tsn other first) i.2.1 i.2.2 32 200000 ∧ Op m i.1 i.2.2 ∧ i.2.2.a.msgs.length = m) (fun i => [(53, some (vN i.1))]) (fun i => [ND nb i.2.1]) (fun i => 40 - i.1) ((0, x5, y5)) (⟨Nat.zero_le _, hA5, hS5.op, hS5.ma⟩) ⟨rfl, trivial⟩ (Pulls.cons pul Pulls.nil) ?_
    rintro ⟨j, x3, y3⟩ ⟨hj, hA3, ho3, hm3⟩ F' L' rfl hL'
    simp only [List.cons_append, List.nil_append] at hL'
    subst hL'
    simp only at hj hA3 ho3 hm3 ⊢
    refine TC.seq (TC.region ?_)
    refine TL.val rfl rfl rfl (Y.bin rfl rfl rfl (br_ltN (n := 40))) ?_
    refine TL.nil (TQ.next (TC.seq ?_))
    refine TC.cond rfl (fun c4 => ?_) (fun c4 => ?_)
    · try simp only [zA, zB, zC, zD, zE, zF, zG, zH, zI, zJ] at c4
      have hF3 := hA3.fits hP (by omega)
      have hA4 := hA3.r3 hP (by decide)
      have hF4 := hA4.fits hP (by omega)
      have hA6 := hA4.r4 hP (by decide)
      have ho4 := ho3.r3 (by omega) hA3.sim.net hA3.gt
      have ho6 := ho4.r4 (by omega) hA4.sim.net hA4.gt
      have hm6 : y3.r3.r4.a.msgs.length = m := by rw [(r4_msgs _).1, (r3_msgs _).1]; exact hm3
      refine TC.to (Ent.nilD (α := UInt8)) ?_
      refine TC.skip (TQ.next (TC.seq (TC.block (TC.seq (TC.region ?_)))))
      refine TL.mv ?_
      refine TL.val rfl rfl rfl (Y.buildS (cells := netArg 3 0 false (.slice none 0 0) 0) rfl rfl pl42 zc42 (by kernel_rfl)) ?_
      refine TL.eff rfl rfl rfl (X.cl rfl Try.func16 rfl (h := (step_fn nb x3 hF3 3 0 false noD (Nat.zero_le _) 0 _))) ?_
      rintro _ _ rfl
      generalize x3.step 3 0 false noD.l 0 = x4 at hA4 hF4 hA6 ⊢
      refine TL.nil (TQ.next (TC.region ?_))
      refine TL.mv ?_
      refine TL.val rfl rfl rfl (Y.buildS (cells := netArg 4 0 false (.slice none 0 0) 0) rfl rfl pl42 zc42 (by kernel_rfl)) ?_
      refine TL.eff rfl rfl rfl (X.cl rfl Try.func16 rfl (h := (step_fn nb x4 hF4 4 0 false noD (Nat.zero_le _) 0 _))) ?_
      rintro _ _ rfl
      refine TL.nil (TQ.block_normal (TQ.next (TC.region ?_)))
      refine TL.val rfl rfl rfl (Y.bin rfl rfl rfl (br_addN (n := 1) (by omega))) ?_
      refine TL.mv ?_
      refine TL.nil ?_
      refine TQ.loopF ((j + 1, x4.step 4 0 false noD.l 0, y3.r3.r4)) (⟨by show j + 1 ≤ 40; omega, hA6, ho6, hm6⟩) (by show 40 - (j + 1) < 40 - j; omega) ⟨rfl, trivial⟩ grw ?_ ?_ ?_
      · kernel_rfl
      · rfl
      · simp only [List.cons_append, List.nil_append]
        exact ett
    · try simp only [zA, zB, zC, zD, zE, zF, zG, zH, zI, zJ] at c4
      obtain rfl : j = 40 := by omega
      refine TC.nd (X := x3) pul ?_
      rintro n A B hX
      have hA3 := hX.symm ▸ hA3
      have dn := ho3.d.done hA3.sim.net hA3.gt (ho3.dry (by omega))
      have st1 : A.state = 3 := hA3.sim.ra.state.trans ho3.d.oa
      have st2 : B.state = 3 := hA3.sim.rb.state.trans ho3.d.ob
      have hend := hA3.end (.inr dn) (by omega) (by omega)
      have hlen := (hA3.fits hP (by omega)).lens
      have hsl : n.sent.l.length = min sl.length 16 := by
        have e : n.sent.l.map pm = y3.a.msgs := hA3.sim.sent
        have e2 := congrArg List.length e
        rw [List.length_map] at e2
        omega
      refine TC.exit (TQ.then_exit (TQ.then_exit (TQ.block_exit (TQ.next (TC.seq ?_)))))
      refine TC.draws 40 [nB nb n] (by kernel_rfl) (by kernel_rfl) hld ?_
      refine TA.tk 0 rfl rfl (Y.move rfl rfl) ?_
      refine TA.tk 1 rfl rfl (Y.nilCheck rfl rfl) ?_
      refine TA.tk 2 rfl rfl (by first | exact Y.fieldAddrJ rfl fo46_6 rfl nqq | exact Y.fieldAddr rfl fo46_6 rfl nqq) ?_
      refine TA.tk 3 rfl rfl (Y.load rfl sc44 rfl celD) ?_
      refine TA.as (.slice n.gB.a n.gB.l.length n.gB.cap) (by rfl) ?_
      refine TA.tk 4 rfl rfl (Y.move rfl rfl) ?_
      refine TA.tk 5 rfl rfl (Y.nilCheck rfl rfl) ?_
      refine TA.tk 6 rfl rfl (by first | exact Y.fieldAddrJ rfl fo46_4 rfl nqq | exact Y.fieldAddr rfl fo46_4 rfl nqq) ?_
      refine TA.tk 7 rfl rfl (Y.load rfl sc44 rfl celD) ?_
      refine TA.as (.slice n.sent.a n.sent.l.length n.sent.cap) (by rfl) ?_
      refine TA.one 8 (by kernel_rfl) rfl rfl rfl rfl (X.cl rfl Try.func21 rfl (h := (same_fn n.gB n.sent hend.1 hlen.2.2.2.2.1 _))) ?_
      rintro _ _ ⟨rfl, rfl⟩
      refine ⟨(Or.inr hld), ?_⟩
      refine TA.is true isf ?_
      refine TA.tk 9 rfl rfl (Y.move rfl rfl) ?_
      refine TA.tk 10 rfl rfl (Y.move rfl rfl) ?_
      refine TA.tk 11 rfl rfl (Y.nilCheck rfl rfl) ?_
      refine TA.tk 12 rfl rfl (by first | exact Y.fieldAddrJ rfl fo46_7 rfl nqq | exact Y.fieldAddr rfl fo46_7 rfl nqq) ?_
      refine TA.tk 13 rfl rfl (Y.load rfl sc44 rfl celD) ?_
      refine TA.as (.slice n.gA.a n.gA.l.length n.gA.cap) (by rfl) ?_
      refine TA.tk 14 rfl rfl (Y.move rfl rfl) ?_
      refine TA.tk 15 rfl rfl (Y.nilCheck rfl rfl) ?_
      refine TA.tk 16 rfl rfl (by first | exact Y.fieldAddrJ rfl fo46_5 rfl nqq | exact Y.fieldAddr rfl fo46_5 rfl nqq) ?_
      refine TA.tk 17 rfl rfl (Y.load rfl sc44 rfl celD) ?_
      refine TA.as (.slice n.back.a n.back.l.length n.back.cap) (by rfl) ?_
      refine TA.one 18 (by kernel_rfl) rfl rfl rfl rfl (X.cl rfl Try.func21 rfl (h := (same_fn n.gA n.back hend.2.1 hlen.2.2.2.2.2 _))) ?_
      rintro _ _ ⟨rfl, rfl⟩
      refine ⟨(Or.inr hld), ?_⟩
      refine TA.is true isf ?_
      refine TA.tk 19 rfl rfl (Y.pick_t rfl rfl rfl) ?_
      refine TA.tk 20 rfl rfl (Y.move rfl rfl) ?_
      refine TA.tk 21 rfl rfl (Y.move rfl rfl) ?_
      refine TA.tk 22 rfl rfl (Y.nilCheck rfl rfl) ?_
      refine TA.tk 23 rfl rfl (by first | exact Y.fieldAddrJ rfl fo46_4 rfl nqq | exact Y.fieldAddr rfl fo46_4 rfl nqq) ?_
      refine TA.tk 24 rfl rfl (Y.load rfl sc44 rfl celD) ?_
      refine TA.as (.slice n.sent.a n.sent.l.length n.sent.cap) (by rfl) ?_
      refine TA.tk 25 rfl rfl (Y.len rfl Try.underlying44 rfl) ?_
      refine TA.tk 26 rfl rfl (Y.move rfl rfl) ?_
      refine TA.tk 27 rfl rfl (Y.len rfl Try.underlying24 rfl) ?_
      refine TA.as (vN sl.length) (by rfl) ?_
      refine TA.tk 28 rfl rfl (Y.minI (n := 16) rfl rfl rfl) ?_
      refine TA.as (vN (min sl.length 16)) (by (show Value.int .i64 _ = Value.int .i64 _; congr 1; omega)) ?_
      refine TA.tk 29 rfl rfl (Y.bin rfl rfl rfl (br_eqN)) ?_
      refine TA.is true (by (rw [hsl]; simp)) ?_
      refine TA.tk 30 rfl rfl (Y.pick_t rfl rfl rfl) ?_
      refine TA.tk 31 rfl rfl (Y.move rfl rfl) ?_
      refine TA.tk 32 rfl rfl (Y.move rfl rfl) ?_
      refine TA.tk 33 rfl rfl (Y.nilCheck rfl rfl) ?_
      refine TA.tk 34 rfl rfl (by first | exact Y.fieldAddrJ rfl fo46_0 rfl nqq | exact Y.fieldAddr rfl fo46_0 rfl nqq) ?_
      refine TA.tk 35 rfl rfl (Y.load rfl sc26 rfl celD) ?_
      refine TA.as (pt n.a 0) (by rfl) ?_
      refine TA.one 36 (by kernel_rfl) rfl rfl rfl rfl (X.cl rfl Try.func22 rfl (h := (WaitND n.a A _))) ?_
      rintro _ _ ⟨rfl, rfl⟩
      refine ⟨(Or.inr hld), ?_⟩
      refine TA.tk 37 rfl rfl (Y.bin rfl rfl rfl (br_eqN (n := 0))) ?_
      refine TA.is true (by (rw [hend.2.2.1]; rfl)) ?_
      refine TA.tk 38 rfl rfl (Y.pick_t rfl rfl rfl) ?_
      refine TA.tk 39 rfl rfl (Y.assign rfl rfl) ?_
      refine TA.done (by kernel_rfl) ?_
      refine TQ.next (TC.ret ?_)
      refine TQ.retE (res1 rfl rfl) (⟨rfl, rfl⟩) ?_
      exact ett
variable {H : Type} {enc : TypeId × Value → H} {W : World} {base : Nat}
set_option maxRecDepth 100000 in
theorem opens_open {v4 : Value} {t1 t2 t3 t4 : Int} {d0 d1 d2 d3 d4 : DataW H} {p4 : List MemPlace} (h1 : (Lit.int .u32 t1).wf = true) (h2 : (Lit.int .u32 t2).wf = true) (h3 : (Lit.int .u32 t3).wf = true) (h4 : (Lit.int .u32 t4).wf = true)
    (o4 : Value.okWide Try.prog W .any base 24 v4) (k4 : DataW.Trod enc Try.prog W 0 (fun _ => true) true 24 v4 d4 p4)
    (hsz : (DataW.weightsEach Try.prog ([22, 22, 22, 22, 24] ++ []) ([d0, d1, d2, d3, d4] ++ [])).all (· ≤ reachBytes) = true) :
    Calls Try.prog 7 #[.int .u32 t1, .int .u32 t2, .int .u32 t3, .int .u32 t4, v4] W fun e w' => e = .returned (.bool true) ∧ Fr [] W w' := by
  rw [wf_u32 h1, wf_u32 h2, wf_u32 h3, wf_u32 h4]
  obtain ⟨⟨a, cap, ls⟩, rfl, g1, g0, g2⟩ := open_slice (Bd := fun s : Sl Bs => s.l.length * 24 ≤ reachBytes ∧ ∀ x ∈ s.l, _) (DatT.slice Try.underlying24 (by kernel_rfl) (by kernel_rfl) (DatT.bytes Try.underlying23 Try.underlying5 (by kernel_rfl) (by kernel_rfl))) Try.underlying24 4 o4 k4 hsz rfl rfl
  exact Fn.topD (As := [SA.dat (⟨a, cap, ls⟩ : Sl Bs)]) (opens_fn _ _ _ _ ⟨a, cap, ls⟩ (fun x hx => Nat.le_trans (g2 x hx) (by decide)) (by
    have h0 : ls.length * 24 ≤ reachBytes := g0
    have h9 : reachBytes ≤ 140737488351232 := by decide
    show ls.length ≤ 140737488351232
    omega) [SA.old W]) (fun A hA => by rw [hA.one]; exact SA.dat_arg g1)
end ac
end Go.Proofs.Ytomplpdeeomehaa

