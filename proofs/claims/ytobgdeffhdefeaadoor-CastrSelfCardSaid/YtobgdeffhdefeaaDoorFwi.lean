import Derived.Test.YtobgdeffhdefeaaDoorFwg
/- Bytes of strings; bits. -/
namespace Go.Proofs.YtobgdeffhdefeaaDoor
set_option linter.unusedSimpArgs false
set_option linter.unusedVariables false
open Go Go.RowKit
def byteAt (s : ByteArray) (i : Nat) : Nat := if h : i < s.size then s[i].toNat else 0
theorem byteAt_lt (s : ByteArray) (i : Nat) : byteAt s i < 256 := by
  unfold byteAt
  split
  · exact UInt8.toNat_lt _
  · omega
def orB (a b : Nat) : Nat := a ||| b
def andB (a b : Nat) : Nat := a &&& b
section
variable {P : Program} {X : Prop} {Next : Act → World → Prop} {o : Oper} {a : Act} {w : World} {N : Nat} {l : List (Nat × Value)} {d : Nat}
theorem r_byte {t : TypeId} {x y : Operand} {s : ByteArray} {p : Int} {ki : IntKind} {i : Nat} (hs : SteV P X Next o a w) (hR : Reg a N l) (hd : o.dst = some d) (ho : o.op = .index t x y) (hx : ev l x = some (.string s)) (hy : ev l y = some (.int ki p))
    (ht : P.underlying t = some .string) (hp : p = (i : Int)) (hi : i < s.size) (hdN : d < N) (k : ∀ a', Reg a' N ((d, .int .u8 ((byteAt s i : Nat) : Int)) :: l) → Next a' w) : X :=
  r_indexS hs hR hd ho hx hy ht hp hi hdN (by simpa [byteAt, hi] using k)
theorem run_or8 {P : Program} {w : World} {t : TypeId} {a b : Nat} (ha : a < 256) (hb : b < 256) : (Go.binOp .or t (.int .u8 (a : Int)) (.int .u8 (b : Int))).run P w = .ok (.int .u8 ((orB a b : Nat) : Int)) w := by
  have h : a ||| b < 256 := Nat.or_lt_two_pow (n := 8) ha hb
  have h1 : (BitVec.ofInt 8 (a : Int) ||| BitVec.ofInt 8 (b : Int)).toNat = a ||| b := by
    simp [Nat.mod_eq_of_lt ha, Nat.mod_eq_of_lt hb]
  show Result.ok (Value.int .u8 (IntKind.u8.wrap (((BitVec.ofInt 8 (a : Int) ||| BitVec.ofInt 8 (b : Int)).toNat : Nat) : Int))) w = _
  rw [h1]
  unfold IntKind.wrap
  simp only [IntKind.bits, IntKind.signed, Bool.false_and, if_false, Bool.false_eq_true]
  congr 2
  unfold orB
  omega
theorem run_or64 {P : Program} {w : World} {t : TypeId} {a b : Nat} (ha : a < 2 ^ 31) (hb : b < 2 ^ 31) : (Go.binOp .or t (.int .i64 (a : Int)) (.int .i64 (b : Int))).run P w = .ok (.int .i64 ((orB a b : Nat) : Int)) w := by
  have h : a ||| b < 2 ^ 31 := Nat.or_lt_two_pow (n := 31) ha hb
  have h1 : (BitVec.ofInt 64 (a : Int) ||| BitVec.ofInt 64 (b : Int)).toNat = a ||| b := by
    simp [Nat.mod_eq_of_lt (show a < 18446744073709551616 by omega), Nat.mod_eq_of_lt (show b < 18446744073709551616 by omega)]
  show Result.ok (Value.int .i64 (IntKind.i64.wrap (((BitVec.ofInt 64 (a : Int) ||| BitVec.ofInt 64 (b : Int)).toNat : Nat) : Int))) w = _
  rw [h1, IntWalk.i64_in _ (by constructor <;> omega)]
  rfl
theorem run_and64 {P : Program} {w : World} {t : TypeId} {a b : Nat} (ha : a < 2 ^ 31) (hb : b < 2 ^ 31) : (Go.binOp .and t (.int .i64 (a : Int)) (.int .i64 (b : Int))).run P w = .ok (.int .i64 ((andB a b : Nat) : Int)) w := by
  have h : a &&& b < 2 ^ 31 := Nat.and_lt_two_pow (n := 31) a hb
  have h1 : (BitVec.ofInt 64 (a : Int) &&& BitVec.ofInt 64 (b : Int)).toNat = a &&& b := by
    simp [Nat.mod_eq_of_lt (show a < 18446744073709551616 by omega), Nat.mod_eq_of_lt (show b < 18446744073709551616 by omega)]
  show Result.ok (Value.int .i64 (IntKind.i64.wrap (((BitVec.ofInt 64 (a : Int) &&& BitVec.ofInt 64 (b : Int)).toNat : Nat) : Int))) w = _
  rw [h1, IntWalk.i64_in _ (by constructor <;> omega)]
  rfl
end
set_option maxRecDepth 100000 in
/-- A letter, as the program tells it. -/
theorem letter_or : ∀ c : Fin 256, ((97 ≤ orB c.val 32 ∧ orB c.val 32 ≤ 122) ∨ c.val = 95) ↔ letter (UInt8.ofNat c.val) = true := by decide
end Go.Proofs.YtobgdeffhdefeaaDoor
