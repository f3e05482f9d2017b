/- Characters: what the document says of them, as plain functions. No program. -/
namespace Go.Proofs.YteegbjjpjdlcmaaGreatDoor

def spans : List (Int × Int) := [(65, 90), (97, 122), (192, 214), (216, 246), (248, 255), (913, 929), (931, 937), (945, 969), (1024, 1119)]
def shifts : List (Int × Int × Int) := [(65, 90, 32), (192, 214, 32), (216, 222, 32), (913, 929, 32), (931, 937, 32), (1024, 1039, 80), (1040, 1071, 32)]

/-- Is a number a letter? -/
def isLetter (c : Int) : Bool := spans.any fun s => decide (s.1 ≤ c) && decide (c ≤ s.2)
def isDigit (c : Int) : Bool := decide (48 ≤ c) && decide (c ≤ 57)
/-- Is a character one of a word? -/
def inWord (c : Int) : Bool := isLetter c || isDigit c
def small (c : Int) : Int := match shifts.find? fun s => decide (s.1 ≤ c) && decide (c ≤ s.2.1) with | some s => c + s.2.2 | none => c
/-- Is a number a character? -/
def isChar (c : Int) : Bool := decide (0 ≤ c) && decide (c ≤ 1114111) && (decide (c < 55296) || decide (57343 < c))
def csize (c : Int) : Int := if c < 128 then 1 else if c < 2048 then 2 else if c < 65536 then 3 else 4

def u8 (x : Int) : UInt8 := UInt8.ofNat x.toNat
/-- The bytes of a character. -/
def enc (c : Int) : List UInt8 :=
  if c < 128 then [u8 c]
  else if c < 2048 then [u8 (192 + c / 64), u8 (128 + c % 64)]
  else if c < 65536 then [u8 (224 + c / 4096), u8 (128 + c / 64 % 64), u8 (128 + c % 64)]
  else [u8 (240 + c / 262144), u8 (128 + c / 4096 % 64), u8 (128 + c / 64 % 64), u8 (128 + c % 64)]

def ch (b : UInt8) : Int := b.toNat
def cont (b : UInt8) : Bool := decide (128 ≤ ch b) && decide (ch b < 192)
def bad : Int × Nat := (65533, 1)

def first2 (x : Int) : List UInt8 → Int × Nat
  | [] => bad
  | b1 :: _ => if cont b1 && decide (128 ≤ x * 64 + (ch b1 - 128)) then (x * 64 + (ch b1 - 128), 2) else bad
def first3 (x : Int) : List UInt8 → Int × Nat
  | [] => bad
  | [_] => bad
  | b1 :: b2 :: _ => if cont b1 && cont b2 && isChar ((x * 64 + (ch b1 - 128)) * 64 + (ch b2 - 128)) && decide (2048 ≤ (x * 64 + (ch b1 - 128)) * 64 + (ch b2 - 128)) then ((x * 64 + (ch b1 - 128)) * 64 + (ch b2 - 128), 3) else bad
def first4 (x : Int) : List UInt8 → Int × Nat
  | [] => bad
  | [_] => bad
  | [_, _] => bad
  | b1 :: b2 :: b3 :: _ => if cont b1 && cont b2 && cont b3 && isChar (((x * 64 + (ch b1 - 128)) * 64 + (ch b2 - 128)) * 64 + (ch b3 - 128)) && decide (65536 ≤ ((x * 64 + (ch b1 - 128)) * 64 + (ch b2 - 128)) * 64 + (ch b3 - 128)) then (((x * 64 + (ch b1 - 128)) * 64 + (ch b2 - 128)) * 64 + (ch b3 - 128), 4) else bad

/-- The first character of bytes, and how many bytes it has. -/
def first : List UInt8 → Int × Nat
  | [] => bad
  | b0 :: r =>
    if ch b0 < 128 then (ch b0, 1)
    else if ch b0 < 192 then bad
    else if ch b0 < 224 then first2 (ch b0 - 192) r
    else if ch b0 < 240 then first3 (ch b0 - 224) r
    else if ch b0 < 248 then first4 (ch b0 - 240) r
    else bad

def decodeF : Nat → List UInt8 → List Int
  | 0, _ => []
  | f + 1, b => if b = [] then [] else (first b).1 :: decodeF f (b.drop (first b).2)
/-- The characters of bytes. -/
def decode (b : List UInt8) : List Int := decodeF b.length b

/-- The term of a word's characters: bytes so far. -/
def termGo (t : List UInt8) : List Int → List UInt8
  | [] => t
  | c :: r => if 64 < t.length + (enc (small c)).length then t else termGo (t ++ enc (small c)) r
def term (l : List Int) : List UInt8 := termGo [] l

/-- The words of characters: 'cur' is what of a word has been seen. -/
def wordsGo (cur : List Int) : List Int → List (List Int)
  | [] => if cur = [] then [] else [cur]
  | c :: r => if inWord c then wordsGo (cur ++ [c]) r else if cur = [] then wordsGo [] r else cur :: wordsGo [] r
def words (l : List Int) : List (List Int) := wordsGo [] l
/-- The terms of bytes. -/
def terms (b : List UInt8) : List (List UInt8) := (words (decode b)).map term
end Go.Proofs.YteegbjjpjdlcmaaGreatDoor

