/- Part of the proof that ReportInputs gives true at every text. -/
import Derived.Test.YtdidhokilifakaaGreatDoorHdMm
namespace Go.Ab.Hd
open Go Go.Ab Go.Proofs

def u64s (l : List Nat) : List Value := l.map u64
def u8s (l : List Nat) : List Value := l.map u8
/-- memory as the head finds it -/
def rows0 : List (Nat × AObj) := [(0, .cells [anyI] 3 1 true true),
  (1, .cells (u64s [1, 10, 100, 1000, 10000, 100000, 1000000, 10000000, 100000000, 1000000000, 10000000000, 100000000000, 1000000000000, 10000000000000, 100000000000000, 1000000000000000, 10000000000000000, 100000000000000000, 1000000000000000000, 10000000000000000000]) 455 20 true true),
  (4, .cells [.iface 511 (pt 14 0)] 86 1 true true), (5, .cells [.iface 511 (pt 13 0)] 86 1 true true),
  (6, .cells (u8s [0, 1, 28, 2, 29, 14, 24, 3, 30, 22, 20, 15, 25, 17, 4, 8, 31, 27, 13, 23, 21, 19, 16, 7, 26, 12, 18, 6, 11, 5, 10, 9]) 573 32 true true),
  (7, .cells (u8s [0, 1, 56, 2, 57, 49, 28, 3, 61, 58, 42, 50, 38, 29, 17, 4, 62, 47, 59, 36, 45, 43, 51, 22, 53, 39, 33, 30, 24, 18, 12, 5, 63, 55, 48, 27, 60, 41, 37, 16, 46, 35, 44, 21, 52, 32, 23, 11, 54, 26, 40, 15, 34, 20, 31, 10, 25, 14, 19, 9, 13, 8, 7, 6]) 574 64 true true)]
/-- the head's first state -/
noncomputable def frame0 : AFrame := (enterA A0 4 [] .normal).getD ⟨0, 0, .leaf, [], [], .run, .normal, none⟩
noncomputable def S0 : AState := ⟨frame0, [], heapL rows0 15⟩
end Go.Ab.Hd
