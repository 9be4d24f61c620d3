/- Part of the proof that ReportInputs gives true at every text. -/
import Derived.Test.YtdidhokilifakaaGreatDoorAbP5
import Derived.Test.YtdidhokilifakaaGreatDoorHdP1
namespace Go.Ab.Hd
open Go Go.Ab Go.Proofs

def i (n : Nat) : Value := .int .i64 (.ofNat n)
def ng (n : Nat) : Value := .int .i64 (.negSucc n)
def u8 (n : Nat) : Value := .int .u8 (.ofNat n)
def u64 (n : Nat) : Value := .int .u64 (.ofNat n)
def u32 (n : Nat) : Value := .int .u32 (.ofNat n)
def i32 (n : Nat) : Value := .int .i32 (.ofNat n)
def nm : Value := .map none
def mp (b : Nat) : Value := .map (some b)
def fu (f : Nat) (a c : List Value) : Value := .func (.func f) ⟨a⟩ ⟨c⟩
def st (l : List Nat) : Value := .string ⟨⟨l.map UInt8.ofNat⟩⟩
def np : Value := .pointer none
def pt (b o : Nat) : Value := .pointer (some ⟨b, o, none⟩)
def ns : Value := .slice none 0 0
def sl (b o n c : Nat) : Value := .slice (some ⟨b, o, none⟩) n c
def ag (l : List Value) : Value := .agg ⟨l⟩
def tu (l : List Value) : Value := .tuple ⟨l⟩

/-- the example's tree, as it lies for the 1th time -/
def args1 : List Value := [(ag [(sl 312 0 9 19), (i 8)])]
def rows1 : List (Nat × AObj) := [(0, .cells [anyI] 3 1 true true),
  (225, (.cells [(i 1)] 3 1 true true)), (286, (.cells [(i 3), (i 4)] 3 1 true true)), (294, (.cells [(i 2), (i 5)] 3 1 true false)),
  (304, (.cells [(i 0), (i 6)] 3 1 true false)), (309, (.cells [(i 7)] 3 1 true false)),
  (312, (.cells [(i 5), (i 1), (i 14), (st [120]), ns, (i 18), (i 0), (i 32), (st [104, 105]), ns, (i 9), (i 0), (i 25), (st [120]), (sl 225 0 1 2), (i 18), (i 0), (i 40), (st [108, 111]), ns, (i 22), (i 0), (i 43), (st [120]), ns, (i 10), (i 0), (i 36), (st []), (sl 286 0 2 4), (i 6), (i 0), (i 12), (st []), (sl 294 0 2 5), (i 3), (i 0), (i 0), (st [109, 97, 105, 110]), (sl 304 0 2 5), (i 1), (i 0), (i 0), (st []), (sl 309 0 1 3)] 76 5 true false))]
/-- the example's tree, as it lies for the 2th time -/
def args2 : List Value := [(ag [(sl 2541 0 9 19), (i 8)])]
def rows2 : List (Nat × AObj) := [(0, .cells [anyI] 3 1 true true),
  (2541, (.cells [(i 5), (i 1), (i 14), (st [120]), (sl 2543 0 0 0), (i 18), (i 0), (i 32), (st [104, 105]), (sl 2545 0 0 0), (i 9), (i 0), (i 25), (st [120]), (sl 2548 0 1 3), (i 18), (i 0), (i 40), (st [108, 111]), (sl 2550 0 0 0), (i 22), (i 0), (i 43), (st [120]), (sl 2552 0 0 0), (i 10), (i 0), (i 36), (st []), (sl 2555 0 2 5), (i 6), (i 0), (i 12), (st []), (sl 2558 0 2 5), (i 3), (i 0), (i 0), (st [109, 97, 105, 110]), (sl 2561 0 2 5), (i 1), (i 0), (i 0), (st []), (sl 2564 0 1 3)] 76 5 true false)),
  (2543, (.cells [] 3 1 true true)),
  (2545, (.cells [] 3 1 true true)),
  (2548, (.cells [(i 1)] 3 1 true false)),
  (2550, (.cells [] 3 1 true true)),
  (2552, (.cells [] 3 1 true true)),
  (2555, (.cells [(i 3), (i 4)] 3 1 true false)),
  (2558, (.cells [(i 2), (i 5)] 3 1 true false)),
  (2561, (.cells [(i 0), (i 6)] 3 1 true false)),
  (2564, (.cells [(i 7)] 3 1 true false))]
/-- the example's tree, as it lies for the 3th time -/
def args3 : List Value := [(ag [(sl 3460 0 9 19), (i 8)])]
def rows3 : List (Nat × AObj) := [(0, .cells [anyI] 3 1 true true),
  (3373, (.cells [(i 1)] 3 1 true true)),
  (3434, (.cells [(i 3), (i 4)] 3 1 true true)),
  (3442, (.cells [(i 2), (i 5)] 3 1 true false)),
  (3452, (.cells [(i 0), (i 6)] 3 1 true false)),
  (3457, (.cells [(i 7)] 3 1 true false)),
  (3460, (.cells [(i 5), (i 1), (i 14), (st [120]), ns, (i 18), (i 0), (i 32), (st [104, 105]), ns, (i 9), (i 0), (i 25), (st [120]), (sl 3373 0 1 2), (i 18), (i 0), (i 40), (st [108, 111]), ns, (i 22), (i 0), (i 43), (st [120]), ns, (i 10), (i 0), (i 36), (st []), (sl 3434 0 2 4), (i 6), (i 0), (i 12), (st []), (sl 3442 0 2 5), (i 3), (i 0), (i 0), (st [109, 97, 105, 110]), (sl 3452 0 2 5), (i 1), (i 0), (i 0), (st []), (sl 3457 0 1 3)] 76 5 true false))]
def mOnes : Memo := { f := 577, args := [u64 0], rows := [], next := 100, val := i 0 }
theorem mOnes_ok : mOnes.ok 8 = true := by kernel_rfl
set_option maxRecDepth 1000000 in
theorem mOnes_run : memoRun A0 mOnes 300 = true := by kernel_rfl
noncomputable def A00 : AProg := addMemo A0 mOnes
theorem A00_ok : AOk A00 := addMemo_ok A0_ok mOnes_ok mOnes_run
def mSound1 : Memo := { f := 122, args := args1, rows := rows1, next := 5000, val := .bool true }
theorem mSound1_ok : mSound1.ok 8 = true := by kernel_rfl
set_option maxRecDepth 1000000 in
theorem mSound1_run : memoRun A00 mSound1 6000 = true := by kernel_rfl
noncomputable def ASound1 : AProg := addMemo A00 mSound1
theorem ASound1_ok : AOk ASound1 := addMemo_ok A00_ok mSound1_ok mSound1_run
def mDepth1 : Memo := { f := 118, args := args1, rows := rows1, next := 5000, val := i 5 }
theorem mDepth1_ok : mDepth1.ok 8 = true := by kernel_rfl
set_option maxRecDepth 1000000 in
theorem mDepth1_run : memoRun ASound1 mDepth1 6000 = true := by kernel_rfl
noncomputable def ADepth1 : AProg := addMemo ASound1 mDepth1
theorem ADepth1_ok : AOk ADepth1 := addMemo_ok ASound1_ok mDepth1_ok mDepth1_run
def mRight1 : Memo := { f := 58, args := args1, rows := rows1, next := 5000, val := .bool true }
theorem mRight1_ok : mRight1.ok 8 = true := by kernel_rfl
set_option maxRecDepth 1000000 in
theorem mRight1_run : memoRun ADepth1 mRight1 6000 = true := by kernel_rfl
noncomputable def ARight1 : AProg := addMemo ADepth1 mRight1
theorem ARight1_ok : AOk ARight1 := addMemo_ok ADepth1_ok mRight1_ok mRight1_run
def mCheck1 : Memo := { f := 22, args := args1, rows := rows1, next := 5000, val := tu [i 0, i 0] }
theorem mCheck1_ok : mCheck1.ok 8 = true := by kernel_rfl
set_option maxRecDepth 1000000 in
theorem mCheck1_run : memoRun ARight1 mCheck1 6000 = true := by kernel_rfl
noncomputable def ACheck1 : AProg := addMemo ARight1 mCheck1
theorem ACheck1_ok : AOk ACheck1 := addMemo_ok ARight1_ok mCheck1_ok mCheck1_run
def mMain1 : Memo := { f := 67, args := args1, rows := rows1, next := 5000, val := i 7 }
theorem mMain1_ok : mMain1.ok 8 = true := by kernel_rfl
set_option maxRecDepth 1000000 in
theorem mMain1_run : memoRun ACheck1 mMain1 6000 = true := by kernel_rfl
noncomputable def AMain1 : AProg := addMemo ACheck1 mMain1
theorem AMain1_ok : AOk AMain1 := addMemo_ok ACheck1_ok mMain1_ok mMain1_run
def mSound2 : Memo := { f := 122, args := args2, rows := rows2, next := 5000, val := .bool true }
theorem mSound2_ok : mSound2.ok 8 = true := by kernel_rfl
set_option maxRecDepth 1000000 in
theorem mSound2_run : memoRun AMain1 mSound2 6000 = true := by kernel_rfl
noncomputable def ASound2 : AProg := addMemo AMain1 mSound2
theorem ASound2_ok : AOk ASound2 := addMemo_ok AMain1_ok mSound2_ok mSound2_run
def mDepth2 : Memo := { f := 118, args := args2, rows := rows2, next := 5000, val := i 5 }
theorem mDepth2_ok : mDepth2.ok 8 = true := by kernel_rfl
set_option maxRecDepth 1000000 in
theorem mDepth2_run : memoRun ASound2 mDepth2 6000 = true := by kernel_rfl
noncomputable def ADepth2 : AProg := addMemo ASound2 mDepth2
theorem ADepth2_ok : AOk ADepth2 := addMemo_ok ASound2_ok mDepth2_ok mDepth2_run
def mRight2 : Memo := { f := 58, args := args2, rows := rows2, next := 5000, val := .bool true }
theorem mRight2_ok : mRight2.ok 8 = true := by kernel_rfl
set_option maxRecDepth 1000000 in
theorem mRight2_run : memoRun ADepth2 mRight2 6000 = true := by kernel_rfl
noncomputable def ARight2 : AProg := addMemo ADepth2 mRight2
theorem ARight2_ok : AOk ARight2 := addMemo_ok ADepth2_ok mRight2_ok mRight2_run
def mCheck2 : Memo := { f := 22, args := args2, rows := rows2, next := 5000, val := tu [i 0, i 0] }
theorem mCheck2_ok : mCheck2.ok 8 = true := by kernel_rfl
set_option maxRecDepth 1000000 in
theorem mCheck2_run : memoRun ARight2 mCheck2 6000 = true := by kernel_rfl
noncomputable def ACheck2 : AProg := addMemo ARight2 mCheck2
theorem ACheck2_ok : AOk ACheck2 := addMemo_ok ARight2_ok mCheck2_ok mCheck2_run
def mMain2 : Memo := { f := 67, args := args2, rows := rows2, next := 5000, val := i 7 }
theorem mMain2_ok : mMain2.ok 8 = true := by kernel_rfl
set_option maxRecDepth 1000000 in
theorem mMain2_run : memoRun ACheck2 mMain2 6000 = true := by kernel_rfl
noncomputable def AMain2 : AProg := addMemo ACheck2 mMain2
theorem AMain2_ok : AOk AMain2 := addMemo_ok ACheck2_ok mMain2_ok mMain2_run
def mSound3 : Memo := { f := 122, args := args3, rows := rows3, next := 5000, val := .bool true }
theorem mSound3_ok : mSound3.ok 8 = true := by kernel_rfl
set_option maxRecDepth 1000000 in
theorem mSound3_run : memoRun AMain2 mSound3 6000 = true := by kernel_rfl
noncomputable def ASound3 : AProg := addMemo AMain2 mSound3
theorem ASound3_ok : AOk ASound3 := addMemo_ok AMain2_ok mSound3_ok mSound3_run
def mDepth3 : Memo := { f := 118, args := args3, rows := rows3, next := 5000, val := i 5 }
theorem mDepth3_ok : mDepth3.ok 8 = true := by kernel_rfl
set_option maxRecDepth 1000000 in
theorem mDepth3_run : memoRun ASound3 mDepth3 6000 = true := by kernel_rfl
noncomputable def ADepth3 : AProg := addMemo ASound3 mDepth3
theorem ADepth3_ok : AOk ADepth3 := addMemo_ok ASound3_ok mDepth3_ok mDepth3_run
def mRight3 : Memo := { f := 58, args := args3, rows := rows3, next := 5000, val := .bool true }
theorem mRight3_ok : mRight3.ok 8 = true := by kernel_rfl
set_option maxRecDepth 1000000 in
theorem mRight3_run : memoRun ADepth3 mRight3 6000 = true := by kernel_rfl
noncomputable def ARight3 : AProg := addMemo ADepth3 mRight3
theorem ARight3_ok : AOk ARight3 := addMemo_ok ADepth3_ok mRight3_ok mRight3_run
def mCheck3 : Memo := { f := 22, args := args3, rows := rows3, next := 5000, val := tu [i 0, i 0] }
theorem mCheck3_ok : mCheck3.ok 8 = true := by kernel_rfl
set_option maxRecDepth 1000000 in
theorem mCheck3_run : memoRun ARight3 mCheck3 6000 = true := by kernel_rfl
noncomputable def ACheck3 : AProg := addMemo ARight3 mCheck3
theorem ACheck3_ok : AOk ACheck3 := addMemo_ok ARight3_ok mCheck3_ok mCheck3_run
def mMain3 : Memo := { f := 67, args := args3, rows := rows3, next := 5000, val := i 7 }
theorem mMain3_ok : mMain3.ok 8 = true := by kernel_rfl
set_option maxRecDepth 1000000 in
theorem mMain3_run : memoRun ACheck3 mMain3 6000 = true := by kernel_rfl
noncomputable def AMain3 : AProg := addMemo ACheck3 mMain3
theorem AMain3_ok : AOk AMain3 := addMemo_ok ACheck3_ok mMain3_ok mMain3_run
/-- the machine, with all of these known -/
noncomputable abbrev AA : AProg := AMain3
theorem AA_ok : AOk AA := AMain3_ok
end Go.Ab.Hd
