/- Plain mathematics of choices: valid keys and choices, the order of keys. No program here. -/
namespace ChoP
/-- a key -/
structure Key where
  kind : Int
  a : Int
  b : Int
  n : Int
def inB (v low high : Int) : Bool := decide (low ≤ v) && decide (v ≤ high)
def pairB (k : Int) : Bool := (k == 1) || (k == 5) || (k == 6) || (k == 7)
def timedB (k : Int) : Bool := (k == 1) || (k == 2) || (k == 3) || (k == 4)
def measuredB (k : Int) : Bool := (k == 2) || (k == 3) || (k == 6) || (k == 7) || (k == 9)
/-- a key is valid -/
def keyOK (k : Key) : Bool := inB k.kind 1 9 && inB k.a 0 7 && inB k.b 0 (if pairB k.kind then 7 else 0) && inB k.n 0 65535
def lowD (k : Int) : Int := if (k == 3) || (k == 6) || (k == 9) then 1 else 0
def highD (k : Int) : Int := if k == 2 then 1 else if k == 3 then 3 else if (k == 6) || (k == 7) || (k == 9) then 200 else 0
/-- a choice with that many arguments is valid -/
def choOK (k : Key) (t d : Int) (args : Nat) : Bool := keyOK k && inB t 0 (if timedB k.kind then 200 else 0) && inB d (lowD k.kind) (highD k.kind) && decide (args ≤ if k.kind == 1 then 4 else 0)
def cmpI (x y : Int) : Int := if x < y then -1 else if y < x then 1 else 0
/-- the first number that is not 0 -/
def orI (l : List Int) : Int := (l.find? (fun x => x != 0)).getD 0
def cmpK (x y : Key) : Int := orI [cmpI x.kind y.kind, cmpI x.a y.a, cmpI x.b y.b, cmpI x.n y.n]
def lessB (x y : Key) : Bool := decide (cmpK x y < 0)
end ChoP
