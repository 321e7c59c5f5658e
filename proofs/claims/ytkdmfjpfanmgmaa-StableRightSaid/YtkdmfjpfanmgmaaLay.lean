/- Plain: things of fields as bytes, and back. No condition: no program is in sight. -/
import Derived.Test.YtkdmfjpfanmgmaaLe
namespace Go.Proofs.Ytkdmfjpfanmgmaa
open Le

/-- A field's shape: a number, a whole number, a text, a flag, a list of things of such fields. -/
inductive Sh where
  | num | whole | text | flag
  | rows (l : List Sh)
/-- What a field holds. -/
inductive Da where
  | int (n : Int)
  | text (b : List UInt8)
  | flag (b : Bool)
  | rows (l : List (List Da))
/-- The bytes that are laid, and the first error. -/
abbrev St := List UInt8 × Nat
def u64w (n : Int) : Nat := (n % 18446744073709551616).toNat
def i64w (v : Nat) : Int := if v < 9223372036854775808 then (v : Int) else (v : Int) - 18446744073709551616

def St.put (s : St) (b : List UInt8) : St := (s.1 ++ b, s.2)
def St.fail (s : St) (e : Nat) : St := (s.1, if s.2 = 0 then e else s.2)
/-- Errors: 1 an argument (ErrArg), 2 a limit (ErrLimit). -/
def layNum (n : Int) (s : St) : St := if 0 ≤ n ∧ n ≤ 1000000000 then s.put (low n.toNat 4) else s.fail 1
def layText (b : List UInt8) (s : St) : St := if b.length ≤ 65536 then s.put (low b.length 4 ++ b) else s.fail 2
def layWhole (n : Int) (s : St) : St := s.put (low (u64w n) 8)
def layFlag (b : Bool) (s : St) : St := s.put [if b then 1 else 0]
def layMany (n : Nat) (s : St) : St := if n ≤ 4096 then layNum n s else s.fail 2

mutual
def lay : Sh → Da → St → St
  | .num, .int n, s => layNum n s
  | .whole, .int n, s => layWhole n s
  | .text, .text b, s => layText b s
  | .flag, .flag b, s => layFlag b s
  | .rows l, .rows ds, s => if s.2 = 0 then (if ds.length ≤ 4096 then ds.foldl (fun s d => lays l d s) (layNum ds.length s) else s.fail 2) else s
  | _, _, s => s
def lays : List Sh → List Da → St → St
  | a :: l, d :: ds, s => lays l ds (lay a d s)
  | _, _, s => s
end

/-- A list of n things, each by f. -/
def iter {α : Type} (f : List UInt8 → Option (α × List UInt8)) : Nat → List UInt8 → Option (List α × List UInt8)
  | 0, l => some ([], l)
  | n + 1, l => (f l).bind fun x => (iter f n x.2).bind fun y => some (x.1 :: y.1, y.2)
def rdNum (l : List UInt8) : Option (Nat × List UInt8) := if l.length < 4 then none else if 1000000000 < num (l.take 4) then none else some (num (l.take 4), l.drop 4)
def rdWhole (l : List UInt8) : Option (Int × List UInt8) := if l.length < 8 then none else some (i64w (num (l.take 8)), l.drop 8)
def rdTx (l : List UInt8) : Option (List UInt8 × List UInt8) :=
  if l.length < 4 then none else if 65536 < num (l.take 4) then none else if l.length < 4 + num (l.take 4) then none
  else some ((l.drop 4).take (num (l.take 4)), l.drop (4 + num (l.take 4)))
def rdFlag : List UInt8 → Option (Bool × List UInt8)
  | [] => none
  | c :: l => if c.toNat ≤ 1 then some (c.toNat == 1, l) else none
mutual
def rd : Sh → List UInt8 → Option (Da × List UInt8)
  | .num, l => (rdNum l).bind fun x => some (.int x.1, x.2)
  | .whole, l => (rdWhole l).bind fun x => some (.int x.1, x.2)
  | .text, l => (rdTx l).bind fun x => some (.text x.1, x.2)
  | .flag, l => (rdFlag l).bind fun x => some (.flag x.1, x.2)
  | .rows sh, l => (rdNum l).bind fun x => if x.1 ≤ 4096 then (iter (rds sh) x.1 x.2).bind fun y => some (.rows y.1, y.2) else none
def rds : List Sh → List UInt8 → Option (List Da × List UInt8)
  | [], l => some ([], l)
  | a :: sh, l => (rd a l).bind fun x => (rds sh x.2).bind fun y => some (x.1 :: y.1, y.2)
end
end Go.Proofs.Ytkdmfjpfanmgmaa
