/- assoc: what a side does, as plain data. -/
import Derived.Test.YtomplpdeeomehaaAsC
namespace Go.Proofs.Ytomplpdeeomehaa
set_option linter.unusedVariables false
set_option linter.unusedSimpArgs false
open Go.RowKit
namespace ac
open wr (be16 be32)
open rd (num)
abbrev PS := AS PM
def abs (S : AS Msg) : PS := { tag := S.tag, first := S.first, secret := S.secret, state := S.state, known := S.known, other := S.other, top := S.top, kept := fun k => (S.kept k).map pm, base := S.base, queue := S.queue.map fun x => (pm x.1, x.2), sent := S.sent, clock := S.clock, tset := S.tset, moment := S.moment, delay := S.delay, fires := S.fires, shake := S.shake }
def n32 (b : List UInt8) (at_ : Nat) : UInt32 := num ((b.drop at_).take 4)
def fitsB (k : UInt8) (n : Nat) : Bool :=
  if k = 1 then decide (n = 8) else if k = 2 then decide (n = 44) else if k = 3 then decide (n = 36) else if k = 4 ∨ k = 7 then decide (n = 0)
  else if k = 5 then decide (10 ≤ n ∧ n ≤ 1034) else if k = 6 then decide (4 ≤ n ∧ n % 4 = 0 ∧ n ≤ 68) else false
section
variable {μ : Type} (S : AS μ)
def AS.clocked (now : Int) : AS μ := { S with clock := max S.clock now }
/-- an INIT is answered -/
def AS.initAckB (tag tsn : UInt32) : List UInt8 := pkt tag 2 ++ be32 S.tag ++ be32 S.first ++ cookieB S tag tsn
def echoB (other : UInt32) (c : List UInt8) : List UInt8 := pkt other 3 ++ c
def AS.echo (tag tsn : UInt32) (c : List UInt8) : AS μ := ({ S with known := true, other := tag, top := tsn - 1, state := 2, shake := echoB tag c } : AS μ).starts
def AS.opened (tag tsn : UInt32) : AS μ := { S with state := 3, known := true, other := tag, top := tsn - 1 }
/-- a message is kept, if it is new and near -/
def AS.keep (t : UInt32) (m : μ) : AS μ := if (S.kept t).isNone = true ∧ t - S.top - 1 < 32 then { S with kept := mput S.kept t m } else S
def AS.step1 : AS μ := { S with top := S.top + 1, kept := mdel S.kept (S.top + 1) }
/-- what is next is delivered -/
def AS.deliver : Nat → AS μ → List μ × AS μ
  | 0, S => ([], S)
  | f + 1, S => match S.kept (S.top + 1) with
    | none => ([], S)
    | some m => (m :: (AS.deliver f S.step1).1, (AS.deliver f S.step1).2)
def AS.recv (t : UInt32) (m : μ) : List μ × AS μ := AS.deliver 33 (S.keep t m)
/-- the numbers beyond the last one that have come -/
def AS.beyond : List UInt32 := ((List.range 32).map fun d => S.top + 1 + UInt32.ofNat d).filter fun t => (S.kept t).isSome
def AS.sackB : List UInt8 := pkt S.other 6 ++ be32 S.top ++ (S.beyond.take 16).flatMap be32
/-- all that is kept is near -/
def AS.Win (w : Nat) : Prop := ∀ k, (S.kept k).isSome = true → (k - S.top - 1).toNat < w
def AS.left (cum : UInt32) : Bool := decide (1 ≤ cum - S.base + 1 ∧ cum - S.base + 1 ≤ UInt32.ofNat S.sent)
def AS.cutQ (n : UInt32) : AS μ := { S with queue := S.queue.drop n.toNat, base := S.base + n, sent := S.sent - n.toNat }
def AS.drop1 (cum : UInt32) : AS μ := if S.left cum then S.cutQ (cum - S.base + 1) else S
def AS.mark (t : UInt32) : AS μ := if t - S.base < UInt32.ofNat S.sent then { S with queue := S.queue.modify (t - S.base).toNat fun x => (x.1, true) } else S
def AS.ack1 (cum : UInt32) (gaps : List UInt32) : AS μ :=
  if S.left cum then { (gaps.foldl AS.mark (S.drop1 cum)).starts with tset := decide (0 < (gaps.foldl AS.mark (S.drop1 cum)).sent) } else gaps.foldl AS.mark (S.drop1 cum)
def AS.win : List Nat := List.range' S.sent (min S.queue.length 16 - S.sent)
def AS.more : AS μ := if S.win ≠ [] ∧ S.tset = false then ({ S with sent := max S.sent (min S.queue.length 16) } : AS μ).starts else { S with sent := max S.sent (min S.queue.length 16) }
def AS.taken (m : μ) (now : Int) : AS μ := { S with clock := max S.clock now, queue := S.queue ++ [(m, false)] }
end
def words : List UInt8 → List UInt32
  | a :: b :: c :: d :: r => num [a, b, c, d] :: words r
  | _ => []
def pdef : PM := (0, 0, [])
def AS.dataAt (S : PS) (i : Nat) : List UInt8 := dataB S.other (S.base + UInt32.ofNat i) ((S.queue[i]?.map (·.1)).getD pdef)
def AS.moreOut (S : PS) : List (List UInt8) := S.win.map S.dataAt
/-- a packet is taken: the state behind it, what is sent, what is delivered, the error -/
def AS.handle (S0 : PS) (now : Int) (b : List UInt8) : PS × List (List UInt8) × List PM × Nat :=
  let S := S0.clocked now
  let kw := n32 b 4
  let k := shr32 kw 24
  if b.length < 8 ∨ kw &&& 16777215 ≠ 0 ∨ fitsB k.toUInt8 (b.length - 8) = false ∨ (decide (n32 b 0 = 0) ≠ decide (k = 1)) then (S, [], [], 2)
  else if k ≤ 2 ∧ n32 b 8 = 0 then (S, [], [], 2)
  else if k = 1 then (if S.state ≠ 0 ∧ S.state ≠ 3 then (S, [], [], 9) else (S, [S.initAckB (n32 b 8) (n32 b 12)], [], 0))
  else if n32 b 0 ≠ S.tag then (S, [], [], 4)
  else if k = 2 then (if S.state ≠ 1 then (S, [], [], 9) else (S.echo (n32 b 8) (n32 b 12) (b.drop 16), [echoB (n32 b 8) (b.drop 16)], [], 0))
  else if k = 3 then (
    if b.drop 8 ≠ cookieB S (n32 b 8) (n32 b 12) then (S, [], [], 4)
    else if S.state = 0 then (S.opened (n32 b 8) (n32 b 12), [pkt (n32 b 8) 4], [], 0)
    else if S.state ≠ 3 ∨ S.other ≠ n32 b 8 then (S, [], [], 9)
    else (S, [pkt S.other 4], [], 0))
  else if k = 4 then (if S.state = 2 then ({ S with state := 3, tset := false }, [], [], 0) else if S.state = 3 then (S, [], [], 0) else (S, [], [], 9))
  else if k = 7 then ({ S with state := 4, tset := false }, [], [], 0)
  else if S.state ≠ 3 then (S, [], [], 9)
  else if k = 5 then (
    let r := S.recv (n32 b 8) ((num ((b.drop 12).take 2)).toUInt16, n32 b 14, b.drop 18)
    (r.2, [r.2.sackB], r.1, 0))
  else (
    let S2 := S.ack1 (n32 b 8) (words (b.drop 12))
    (S2.more, S2.moreOut, [], 0))
/-- what holds of a side always -/
structure Inv {μ : Type} (S : AS μ) : Prop where
  sent : S.sent ≤ S.queue.length
  s16 : S.sent ≤ 16
  q32 : S.queue.length ≤ 32
  near : S.Win 32
  none : S.state < 3 → ∀ k, S.kept k = none
  secret : S.secret.length ≤ 140737488351232
  shake : S.shake.length ≤ 1000
  fires : S.fires ≤ 8
  delay : 0 ≤ S.delay ∧ S.delay ≤ 8000
/-- all messages are short -/
structure Short (S : AS Msg) : Prop where
  queue : ∀ x ∈ S.queue, x.1.2.2.l.length ≤ 1024
end ac
end Go.Proofs.Ytomplpdeeomehaa
