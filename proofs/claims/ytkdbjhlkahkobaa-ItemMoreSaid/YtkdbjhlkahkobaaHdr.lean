/- headers as plain data -/
import Derived.Test.YtkdbjhlkahkobaaDef
import Derived.Test.YtkdbjhlkahkobaaMem
namespace Jal
open Go
structure Hd where
  writer : Int
  seq : Int
  prev : Nat → Int
  epoch : Int
  control : Bool
  time : Int
  item : Nat → Int
  tp : Option Addr
  tn : Nat
  tc : Nat
  tok : Nat → Nat → Int
  knows : Nat → Int
  sum : Nat → Int
  size : Int
  code : Nat → Int
def encH (h : Hd) : List Value := .int .i64 h.writer :: .int .u64 h.seq :: (arr .u8 32 h.prev ++ (.int .i64 h.epoch :: .bool h.control :: .int .u64 h.time :: (arr .u8 16 h.item ++
  (.slice h.tp h.tn h.tc :: (arr .u64 6 h.knows ++ (arr .u8 32 h.sum ++ (.int .i64 h.size :: arr .u8 32 h.code)))))))
theorem encH_writer (h : Hd) : (encH h)[0]? = some (.int .i64 h.writer) := rfl
theorem encH_seq (h : Hd) : (encH h)[1]? = some (.int .u64 h.seq) := rfl
theorem encH_prev (h : Hd) : ((encH h).drop 2).take 32 = arr .u8 32 h.prev := rfl
theorem encH_epoch (h : Hd) : (encH h)[34]? = some (.int .i64 h.epoch) := rfl
theorem encH_control (h : Hd) : (encH h)[35]? = some (.bool h.control) := rfl
theorem encH_time (h : Hd) : (encH h)[36]? = some (.int .u64 h.time) := rfl
theorem encH_item (h : Hd) : ((encH h).drop 37).take 16 = arr .u8 16 h.item := rfl
theorem encH_tokens (h : Hd) : (encH h)[53]? = some (.slice h.tp h.tn h.tc) := rfl
theorem encH_knows (h : Hd) : ((encH h).drop 54).take 6 = arr .u64 6 h.knows := rfl
theorem encH_sum (h : Hd) : ((encH h).drop 60).take 32 = arr .u8 32 h.sum := rfl
theorem encH_size (h : Hd) : (encH h)[92]? = some (.int .i64 h.size) := rfl
theorem encH_code (h : Hd) : ((encH h).drop 93).take 32 = arr .u8 32 h.code := rfl
theorem encH_len (h : Hd) : (encH h).length = 125 := rfl
theorem encH_know (h : Hd) (i : Nat) (hi : i < 6) : (encH h)[0 + 54 + i * 1]? = some (.int .u64 (h.knows i)) := by
  rcases six hi with rfl | rfl | rfl | rfl | rfl | rfl <;> rfl
/-- the tokens lie where the header says -/
def HdIn (w : World) (h : Hd) : Prop := Sl w h.tp h.tn 16 (fun i => arr .u8 16 (h.tok i))
structure HdOk (h : Hd) : Prop where
  w : I64 h.writer
  s : U64 h.seq
  e : I64 h.epoch
  t : U64 h.time
  n : (h.tn : Int) ≤ 9223372036854775807
  k : ∀ i, i < 6 → U64 (h.knows i)
  z : I64 h.size
  tok : ∀ i, i < h.tn → ∀ j, j < 16 → 0 ≤ h.tok i j ∧ h.tok i j ≤ 255
  item : ∀ j, j < 16 → 0 ≤ h.item j ∧ h.item j ≤ 255
  prev : ∀ j, j < 32 → 0 ≤ h.prev j ∧ h.prev j ≤ 255
  sum : ∀ j, j < 32 → 0 ≤ h.sum j ∧ h.sum j ≤ 255
  code : ∀ j, j < 32 → 0 ≤ h.code j ∧ h.code j ≤ 255
def cmpI (a b : Int) : Int := bif decide (a < b) then -1 else bif decide (a > b) then 1 else 0
def or2 (a b : Int) : Int := bif decide (a ≠ 0) then a else bif decide (b ≠ 0) then b else 0
def or3 (a b c : Int) : Int := bif decide (a ≠ 0) then a else bif decide (b ≠ 0) then b else bif decide (c ≠ 0) then c else 0
end Jal
