/- What the layers 2, 3, 16 compute, as plain Lean functions on lists of bytes: no program in sight. -/
import Derived.Lib.ItoaMem
import Derived.Lib.AtoiAll
namespace Go.Proofs.YtcnnpedmccjdkaaGreatDoor
abbrev B := List UInt8
def lower (c : UInt8) : Bool := 97 ≤ c && c ≤ 122
def upper (c : UInt8) : Bool := 65 ≤ c && c ≤ 90
def digit (c : UInt8) : Bool := 48 ≤ c && c ≤ 57
def small (c : UInt8) : Bool := lower c || digit c || c == 95
def wordy (c : UInt8) : Bool := lower c || upper c || digit c || c == 45 || c == 46
/-- A column's name. -/
def isName : B → Bool
  | [] => false
  | c :: t => lower c && t.all small && decide (t.length ≤ 15)

/-! ### whole numbers -/
/-- The number of digits alone. -/
def digitsVal : Nat → B → Option Nat
  | a, [] => some a
  | a, c :: t => if digit c then digitsVal (10 * a + (c.toNat - 48)) t else none
/-- A numeral without noughts ahead. -/
def natOf? : B → Option Nat
  | [] => none
  | [48] => some 0
  | 48 :: _ => none
  | l => digitsVal 0 l
def intOf? : B → Option Int
  | 45 :: l => match natOf? l with
    | some (n + 1) => if n + 1 ≤ 9223372036854775808 then some (-((n : Int) + 1)) else none
    | _ => none
  | l => match natOf? l with
    | some n => if n ≤ 9223372036854775807 then some n else none
    | none => none

/-! ### hex -/
def hexd (n : Nat) : UInt8 := if n < 10 then UInt8.ofNat (48 + n) else UInt8.ofNat (87 + n)
def unhexd (c : UInt8) : Option Nat :=
  if digit c then some (c.toNat - 48) else if 97 ≤ c && c ≤ 102 then some (c.toNat - 87) else none
def hexS : B → B
  | [] => []
  | c :: t => hexd (c.toNat / 16) :: hexd (c.toNat % 16) :: hexS t
def unhexS : B → Option B
  | [] => some []
  | [_] => none
  | a :: b :: t => match unhexd a, unhexd b, unhexS t with
    | some x, some y, some r => some (UInt8.ofNat (16 * x + y) :: r)
    | _, _, _ => none
/-- k hex digits of a number. -/
def hexN : Nat → Nat → B
  | 0, _ => []
  | k + 1, u => hexN k (u / 16) ++ [hexd (u % 16)]
def unhexN : Nat → B → Option Nat
  | a, [] => some a
  | a, c :: t => match unhexd c with
    | some x => unhexN (16 * a + x) t
    | none => none

/-! ### floats by their bits -/
def fnan : Nat := 9221120237041090560
def finf : Nat := 9218868437227405312
def fninf : Nat := 18442240474082181120
def fnegz : Nat := 9223372036854775808
def isNaN (u : Nat) : Bool := decide (finf < u % 9223372036854775808)
def fcanon (u : Nat) : Nat := if isNaN u then fnan else u
def fwhole (u : Nat) : Option Int :=
  let s := u / 9223372036854775808
  let e := u / 4503599627370496 % 2048
  let m := u % 4503599627370496
  if e = 0 ∧ m = 0 then some 0
  else if e < 1023 ∨ 1076 < e ∨ (e = 1076 ∧ 0 < m) then none
  else
    let n := m + 4503599627370496
    if e ≤ 1075 then
      if n % 2 ^ (1075 - e) = 0 then some (if s = 1 then -((n / 2 ^ (1075 - e) : Nat) : Int) else ((n / 2 ^ (1075 - e) : Nat) : Int)) else none
    else some (if s = 1 then -((2 * n : Nat) : Int) else ((2 * n : Nat) : Int))
def ffromInt (n : Int) : Nat :=
  if n = 0 then 0
  else (if n < 0 then 9223372036854775808 else 0) + (n.natAbs.log2 + 1022) * 4503599627370496 + n.natAbs * 4503599627370496 / 2 ^ n.natAbs.log2
def fprint (u : Nat) : B :=
  let v := fcanon u
  if v = fnan then [110, 97, 110]
  else if v = finf then [105, 110, 102]
  else if v = fninf then [45, 105, 110, 102]
  else if v = fnegz then [45, 48, 46]
  else match fwhole v with
    | some n => Lib.itoa n ++ [46]
    | none => 48 :: 120 :: hexN 16 v
def floatOf? (l : B) : Option Nat :=
  if l = [110, 97, 110] then some fnan
  else if l = [105, 110, 102] then some finf
  else if l = [45, 105, 110, 102] then some fninf
  else if l = [45, 48, 46] then some fnegz
  else if l.getLast? = some 46 then
    match intOf? l.dropLast with
    | some n => if n.natAbs ≤ 9007199254740992 then some (ffromInt n) else none
    | none => none
  else match l with
    | 48 :: 120 :: t => if t.length = 16 then
        match unhexN 0 t with
        | some u => if isNaN u = false ∧ u ≠ finf ∧ u ≠ fninf ∧ fwhole u = none then some u else none
        | none => none
      else none
    | _ => none

/-! ### values -/
structure Val where
  kind : Int
  n : Int
  s : B
  f : Nat
  deriving DecidableEq
def vzero : Val := ⟨0, 0, [], 0⟩
def vright (v : Val) : Bool :=
  if v.kind = 1 then v.s = [] && v.f = 0
  else if v.kind = 2 then v.s = [] && v.f = 0 && (v.n = 0 || v.n = 1)
  else if v.kind = 3 then v.n = 0 && v.f = 0 && decide (v.s.length ≤ 64)
  else if v.kind = 4 then v.n = 0 && v.s = [] && fcanon v.f = v.f
  else v = vzero
def vnorm (v : Val) : Val := if vright v then v else vzero
def vprint (v : Val) : B :=
  let x := vnorm v
  if x.kind = 1 then Lib.itoa x.n
  else if x.kind = 2 then (if x.n = 1 then [116, 114, 117, 101] else [102, 97, 108, 115, 101])
  else if x.kind = 3 then 120 :: hexS x.s
  else if x.kind = 4 then fprint x.f
  else [110, 117, 108, 108]
def vparse (l : B) : Option Val :=
  if l = [110, 117, 108, 108] then some vzero
  else if l = [102, 97, 108, 115, 101] then some ⟨2, 0, [], 0⟩
  else if l = [116, 114, 117, 101] then some ⟨2, 1, [], 0⟩
  else match floatOf? l with
    | some u => some ⟨4, 0, [], u⟩
    | none => match intOf? l with
      | some n => some ⟨1, n, [], 0⟩
      | none => match l with
        | 120 :: t => match unhexS t with
          | some b => if b.length ≤ 64 then some ⟨3, 0, b, 0⟩ else none
          | none => none
        | _ => none

/-! ### tokens -/
structure Tok where
  kind : Int
  at_ : Int
  text : B
  op : Int
  val : Val
  deriving DecidableEq
def words : List B := [[97, 110, 100], [111, 114], [110, 111, 116], [105, 115]]
def lexWord (w : B) : Option Tok :=
  if w ∈ words then some ⟨3, 0, w, 0, vzero⟩ else (vparse w).map fun v => ⟨1, 0, [], 0, v⟩
/-- The token at the beginning of a text that isn't empty, and its length. -/
def lexTok (l : B) : Option (Tok × Nat) :=
  match l with
  | 61 :: _ => some (⟨2, 0, [], 0, vzero⟩, 1)
  | 33 :: 61 :: _ => some (⟨2, 0, [], 1, vzero⟩, 2)
  | 60 :: 61 :: _ => some (⟨2, 0, [], 3, vzero⟩, 2)
  | 62 :: 61 :: _ => some (⟨2, 0, [], 5, vzero⟩, 2)
  | 60 :: _ => some (⟨2, 0, [], 2, vzero⟩, 1)
  | 62 :: _ => some (⟨2, 0, [], 4, vzero⟩, 1)
  | 40 :: _ => some (⟨4, 0, [], 0, vzero⟩, 1)
  | 41 :: _ => some (⟨5, 0, [], 0, vzero⟩, 1)
  | 36 :: t => if isName (t.takeWhile small) then some (⟨0, 0, t.takeWhile small, 0, vzero⟩, 1 + (t.takeWhile small).length) else none
  | l => if l.takeWhile wordy = [] then none else (lexWord (l.takeWhile wordy)).map fun t => (t, (l.takeWhile wordy).length)
def pre (ts : List Tok) : Except Nat (List Tok) → Except Nat (List Tok)
  | .ok r => .ok (ts ++ r)
  | .error e => .error e
def lexGo : Nat → B → Nat → Except Nat (List Tok)
  | 0, _, at_ => .error at_
  | k + 1, l, at_ => match l with
    | [] => .ok []
    | c :: t => if c = 32 then lexGo k t (at_ + 1)
      else match lexTok (c :: t) with
        | none => .error at_
        | some (x, n) => pre [{ x with at_ := at_ }] (lexGo k ((c :: t).drop n) (at_ + n))
def lexS (l : B) : Except Nat (List Tok) := if 2000 < l.length then .error 2000 else lexGo (l.length + 1) l 0
theorem spec_try : lexS [36, 97, 32, 62, 61, 32, 45, 51] = .ok [⟨0, 0, [97], 0, vzero⟩, ⟨2, 3, [], 5, vzero⟩, ⟨1, 6, [], 0, ⟨1, -3, [], 0⟩⟩] := by rfl
end Go.Proofs.YtcnnpedmccjdkaaGreatDoor
