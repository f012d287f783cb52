/- What the functions of stamp that the print does not take give back. -/
import Derived.Test.YtbondhnhiinlbaaPrx4
import Derived.Test.YtbondhnhiinlbaaPrx5
import Derived.Test.YtbondhnhiinlbaaPrx25
set_option linter.unusedVariables false
namespace Go.Proofs.Ytbondhnhiinlbaa.Pr
open Go.RowKit Go.Proofs.YtbondhnhiinlbaaW.PrintWords Go.Proofs.YtbondhnhiinlbaaW.PrintLast Go.Proofs.YtbondhnhiinlbaaW.PrintMore

def fixed_sum.f (a0 a1 : Int) : Option (Int × Int × Bool) :=
  if (-9223372036854775808 ≤ a0 ∧ a0 ≤ 9223372036854775807) ∧ (-9223372036854775808 ≤ a1 ∧ a1 ≤ 9223372036854775807) then
    (if a0 + a1 < 0 then some ((-(a0 + a1)) / 18446744073709551616, (-(a0 + a1)) % 18446744073709551616, true) else some (0, a0 + a1, false))
  else none

def yr : Nat → Int → Int → Option Int
  | 0, _, _ => none
  | k + 1, day, y => (stamp_begins.f (wrap64 (y + 1))).bind fun b => if day ≥ b then yr k day (wrap64 (y + 1)) else some y
/-- how many days the months have, the leap day being t -/
def mtab (t : Int) : List Int := [31, wrap64 (28 + t), 31, 30, 31, 30, 31, 31, 30, 31, 30, 31]
def mo : List Int → Nat → Int → Int → Int × Int
  | [], _, m, d => (m, d)
  | n :: l, i, m, d => if d ≤ n then (((i + 1 : Nat) : Int), d) else mo l (i + 1) ((i + 1 : Nat) : Int) (wrap64 (d - n))
def secsOf (e a : Int) : Int := wrap64 (wrap64 (wrap64 (e * 4294967296) + wrap64 (a / 4294967296)) + 59926608000)
def civil (s a y b t : Int) : Int × Int × Int × Int × Int × Int × Int × Int :=
  (y, (mo (mtab t) 0 0 (wrap64 (wrap64 (wrap64 (Int.tdiv s 86400) - b) + 1))).1, (mo (mtab t) 0 0 (wrap64 (wrap64 (wrap64 (Int.tdiv s 86400) - b) + 1))).2, Int.tmod (wrap64 (Int.tdiv s 3600)) 24, Int.tmod (wrap64 (Int.tdiv s 60)) 60, Int.tmod s 60, a % 4294967296, 0)
def ofSecs (s a : Int) : Option (Int × Int × Int × Int × Int × Int × Int × Int) :=
  if s < 0 then some (0, 0, 0, 0, 0, 0, 0, 20) else (stamp_begins.f 2101).bind fun b => if wrap64 (Int.tdiv s 86400) ≥ b then some (0, 0, 0, 0, 0, 0, 0, 20) else
    (yr 3000 (wrap64 (Int.tdiv s 86400)) (wrap64 (wrap64 (Int.tdiv (wrap64 (Int.tdiv s 86400)) 366) + 1))).bind fun y => (stamp_begins.f y).bind fun b => (stamp_leap.f y).bind fun t => some (civil s a y b t)
def stamp_OfDate.f (a0_0 : Int) (a0_1 : Int) : Option (Int × Int × Int × Int × Int × Int × Int × Int) :=
  if a0_0 < -16 ∨ a0_0 > 2 then some (0, 0, 0, 0, 0, 0, 0, 20) else ofSecs (secsOf a0_0 a0_1) a0_1

def badDay (y m d h mi s : Int) : Bool := decide (y < 1) || decide (y > 2100) || decide (m < 1) || decide (m > 12) || decide (d < 1) || decide (h < 0) || decide (h > 23) || decide (mi < 0) || decide (mi > 59) || decide (s < 0) || decide (s > 59)
def sumDays (l : List Int) (day : Int) : Int := l.foldl (fun d n => wrap64 (d + n)) day
def toSecs (day h mi s : Int) : Int := wrap64 (wrap64 (wrap64 (wrap64 (day * 86400) + wrap64 (h * 3600)) + wrap64 (mi * 60)) + s)
def stamp_ToDate.f (a0_0 a0_1 a0_2 a0_3 a0_4 a0_5 a0_6 : Int) : Option (Int × Int × Int) :=
  if badDay a0_0 a0_1 a0_2 a0_3 a0_4 a0_5 = true then some (0, 0, 20) else
    (stamp_leap.f a0_0).bind fun t => if a0_2 > (mtab t).getD (a0_1 - 1).toNat 0 then some (0, 0, 20) else (stamp_begins.f a0_0).bind fun b =>
      if 0 ≤ a0_6 ∧ a0_6 < 4294967296 then
        some (toSecs (sumDays ((mtab t).take (a0_1 - 1).toNat) (wrap64 (wrap64 (wrap64 (b + a0_2) - 1) - 693595))) a0_3 a0_4 a0_5 / 4294967296,
          toSecs (sumDays ((mtab t).take (a0_1 - 1).toNat) (wrap64 (wrap64 (wrap64 (b + a0_2) - 1) - 693595))) a0_3 a0_4 a0_5 % 4294967296 * 4294967296 + a0_6, 0)
      else none

/-- so many digits from a place on -/
def digs (s : ByteArray) : Nat → Nat → Int → Option Int
  | 0, _, n => some n
  | k + 1, i, n => if h : i < s.size then (if 48 ≤ s[i].toNat ∧ s[i].toNat ≤ 57 then digs s k (i + 1) (n * 10 + ((s[i].toNat : Int) - 48)) else none) else none
def number (s : ByteArray) (many sign : Nat) : Option (Int × ByteArray) :=
  (digs s many 0 0).bind fun n => if sign = 0 then (if s.size = many then some (n, ⟨#[]⟩) else none) else (if h : many < s.size then (if s[many].toNat = sign then some (n, s.extract (many + 1) s.size) else none) else none)
def fields : List (Nat × Nat) → ByteArray → Option (List Int)
  | [], _ => some []
  | (m, g) :: l, s => (number s m g).bind fun p => (fields l p.2).bind fun r => some (p.1 :: r)
def form7 : List (Nat × Nat) := [(4, 45), (2, 45), (2, 32), (2, 58), (2, 58), (2, 46), (6, 0)]
def stamp_Parse.f (s : ByteArray) : Option (Int × Int × Int) :=
  match fields form7 s with
  | none => some (0, 0, 21)
  | some l => stamp_ToDate.f (l.getD 0 0) (l.getD 1 0) (l.getD 2 0) (l.getD 3 0) (l.getD 4 0) (l.getD 5 0) ((l.getD 6 0 * 4294967296 + 999999) / 1000000 % 4294967296)

def refSum : Nat → Nat → Int → Int → Int → Option Int
  | 0, _, _, _, n => some n
  | d + 1, k, y, m, n => (foliotref02_month.f k y m).bind fun t => refSum d k y (wrap64 (m + 1)) (wrap64 (n + t))
/-- within years that matter: the reference's own way to a date -/
def foliotref02_ToDate.f (a0_0 a0_1 a0_2 a0_3 a0_4 a0_5 a0_6 : Int) : Option (Int × Int × Int) := stamp_ToDate.f a0_0 a0_1 a0_2 a0_3 a0_4 a0_5 a0_6

end Go.Proofs.Ytbondhnhiinlbaa.Pr
