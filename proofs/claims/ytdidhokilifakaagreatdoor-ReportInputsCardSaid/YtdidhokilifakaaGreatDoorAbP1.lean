/- Part of the proof that ReportInputs gives true at every text. -/
import GoSem.Step
import Derived.Below
import Derived.Laws.Sem
import Derived.Laws.StructEq

section
namespace Go.Ab

inductive T (α : Type) where
  | leaf : T α
  | node : T α → Option α → T α → T α

namespace T
variable {α : Type}
def get : T α → Nat → Option α
  | leaf, _ => none
  | node l v r, k => cond (Nat.beq k 0) v (cond (Nat.beq (k % 2) 1) (l.get (k / 2)) (r.get (k / 2 - 1)))
def lft : T α → T α | leaf => leaf | node l _ _ => l
def rgt : T α → T α | leaf => leaf | node _ _ r => r
def val : T α → Option α | leaf => none | node _ v _ => v
/-- put or remove -/
def put : Nat → T α → Nat → Option α → T α
  | 0, t, _, _ => t
  | n + 1, t, k, a => cond (Nat.beq k 0) (node t.lft a t.rgt)
      (cond (Nat.beq (k % 2) 1) (node (put n t.lft (k / 2) a) t.val t.rgt) (node t.lft t.val (put n t.rgt (k / 2 - 1) a)))
end T

def depth : Nat := 20
def bound : Nat := 1000000     -- < 2 ^ 20 - 1

inductive AObj where
  | cells (c : List Value) (elem : TypeId) (stride : Nat) (ro exact : Bool)
  | map (es : List MapEntry) (clock : Nat)
  | strIter (s : List UInt8) (pos : Nat)
  | mapIter (m : Option Nat) (since : Nat) (seen : List Nat) (stepped : Nat)
  | loop (state : LoopState) (pending : Option Code) (fn : FuncId) (nt : Nat) (tmps : T Value) (params : Array Tmp) (assign body : Code) (defers : Nat)
  | deferred (calls : Option (List Deferred))

structure AHeap where
  m : T AObj
  next : Nat

def AHeap.get (h : AHeap) (b : Nat) : Option AObj := h.m.get b
def AHeap.set (h : AHeap) (b : Nat) (o : AObj) : AHeap := ⟨T.put depth h.m b (some o), h.next⟩
def AHeap.kill (h : AHeap) (b : Nat) : AHeap := ⟨T.put depth h.m b none, h.next⟩
def AHeap.new (h : AHeap) (o : AObj) : Option (Nat × AHeap) :=
  cond (Nat.blt h.next bound) (some (h.next, ⟨T.put depth h.m h.next (some o), h.next + 1⟩)) none

inductive AItem where
  | code (c : Code) | inBlock (id : Nat) | inLoop (body : Code) | inScope (body : Code)
  | ops (all : Array Oper) (i : Nat) (rest : List Oper)
  | draw (all : Array Oper) (left : List (Nat × Oper)) (quiet : List (Nat × Oper))
  | inRangeFunc (l : Nat) | endRangeFunc (l : Nat) | beginRound

structure AFrame where
  fn : FuncId
  nt : Nat
  tmps : T Value
  todo : List AItem
  defers : List Deferred
  mode : FrameMode
  kind : CallKind
  roundOf : Option Nat

structure AState where
  top : AFrame
  callers : List AFrame
  heap : AHeap

/-- the value that may be anything -/
def any : Value := .complex .f32 0 0

/-- the value that may be any whole number -/
def anyI : Value := .complex .f32 0 1

/-! plain values -/
def bl (s : ByteArray) : List UInt8 := s.data.toList
def mk (l : List UInt8) : ByteArray := ⟨⟨l⟩⟩
def str (l : List UInt8) : Value := .string (mk l)

def ieq : Int → Int → Bool
  | .ofNat a, .ofNat b => Nat.beq a b
  | .negSucc a, .negSucc b => Nat.beq a b
  | _, _ => false
def ilt : Int → Int → Bool
  | .ofNat a, .ofNat b => Nat.blt a b
  | .negSucc a, .negSucc b => Nat.blt b a
  | .negSucc _, .ofNat _ => true
  | .ofNat _, .negSucc _ => false
def inRange (k : IntKind) (n : Int) : Bool :=
  match k, n with
  | .i64, .ofNat m => Nat.blt m 9223372036854775808
  | .i64, .negSucc m => Nat.blt m 9223372036854775808
  | .u64, .ofNat m => Nat.blt m 18446744073709551616
  | .u32, .ofNat m => Nat.blt m 4294967296
  | .u8, .ofNat m => Nat.blt m 256
  | .i32, .ofNat m => Nat.blt m 2147483648
  | .i32, .negSucc m => Nat.blt m 2147483648
  | _, _ => false
def wrapK (k : IntKind) (n : Int) : Int := cond (inRange k n) n (k.wrap n)

def lbeq : List UInt8 → List UInt8 → Bool
  | [], [] => true
  | a :: l, b :: m => cond (Nat.beq a.toNat b.toNat) (lbeq l m) false
  | _, _ => false
def llt : List UInt8 → List UInt8 → Bool
  | _, [] => false
  | [], _ :: _ => true
  | a :: l, b :: m => cond (Nat.blt a.toNat b.toNat) true (cond (Nat.beq a.toNat b.toNat) (llt l m) false)
def kbeq : IntKind → IntKind → Bool
  | .i64, .i64 | .u8, .u8 | .u64, .u64 | .u32, .u32 | .i32, .i32 | .i16, .i16 | .u16, .u16 | .i8, .i8 => true
  | _, _ => false

def intBin (op : BinOp) (k : IntKind) (a b : Int) : Option Value :=
  match op with
  | .add => some (.int k (wrapK k (a + b)))
  | .sub => some (.int k (wrapK k (a - b)))
  | .mul => some (.int k (wrapK k (a * b)))
  | .quo => cond (ieq b 0) none (some (.int k (wrapK k (a.tdiv b))))
  | .rem => cond (ieq b 0) none (some (.int k (a.tmod b)))
  | .and => match a, b with
    | .ofNat m, .ofNat n => cond (inRange k a && inRange k b) (some (.int k (.ofNat (Nat.land m n)))) none
    | _, _ => none
  | .or => match a, b with
    | .ofNat m, .ofNat n => cond (inRange k a && inRange k b) (some (.int k (.ofNat (Nat.lor m n)))) none
    | _, _ => none
  | .xor => match a, b with
    | .ofNat m, .ofNat n => cond (inRange k a && inRange k b) (some (.int k (.ofNat (Nat.xor m n)))) none
    | _, _ => none
  | .andNot => match a, b with
    | .ofNat m, .ofNat n => cond (inRange k a && inRange k b) (some (.int k (.ofNat (Nat.land m (2 ^ k.bits - 1 - n))))) none
    | _, _ => none
  | .shl | .shr => none
  | .eql => some (.bool (ieq a b))
  | .neq => some (.bool (!ieq a b))
  | .lss => some (.bool (ilt a b))
  | .leq => some (.bool (!ilt b a))
  | .gtr => some (.bool (ilt b a))
  | .geq => some (.bool (!ilt a b))

def shiftV (op : BinOp) (k : IntKind) (a : Int) (y : Int) : Option Value :=
  match a, y with
  | .ofNat m, .ofNat n =>
    cond (Nat.blt n 64 && inRange k a)
      (match op with
       | .shl => some (.int k (wrapK k (.ofNat (m * 2 ^ (min n k.bits)))))
       | .shr => some (.int k (.ofNat (m / 2 ^ (min n k.bits))))
       | _ => none) none
  | _, _ => none

def strBin (op : BinOp) (x y : List UInt8) : Option Value :=
  match op with
  | .add => cond (Nat.blt (x.length + y.length) 1048576) (some (str (x ++ y))) none
  | .eql => some (.bool (lbeq x y))
  | .neq => some (.bool (!lbeq x y))
  | .lss => some (.bool (llt x y))
  | .leq => some (.bool (llt x y || lbeq x y))
  | .gtr => some (.bool (!(llt x y || lbeq x y)))
  | .geq => some (.bool (!llt x y))
  | _ => none

/-- a value that holds no address -/
def constCell (v : Value) : Bool := match v with
  | .bool _ | .int _ _ | .string _ | .pointer none | .slice none 0 0 | .map none | .nilFunc | .nilIface => true
  | _ => false
def constOk (v : Value) : Bool := match v with
  | .agg cs => cs.toList.all constCell
  | v => constCell v

section
variable (P : Program)

def size? (t : TypeId) : Option Nat := (P.info? t).map (·.size)
def agg? (t : TypeId) : Option Bool := (P.underlying t).map fun | .struct _ | .array _ _ => true | _ => false

def partV (t : TypeId) (cs : List Value) (off : Nat) : Option Value :=
  match agg? P t with
  | some true => (size? P t).map fun n => .agg ⟨(cs.drop off).take n⟩
  | some false => cs[off]?
  | none => none

/-- '==' of what can be told -/
def eqV : Nat → TypeId → Value → Value → Option Bool
  | 0, _, _, _ => none
  | d + 1, t, x, y =>
    match x, y with
    | .bool a, .bool b => match P.underlying t with | some .bool => some (a == b) | _ => none
    | .int k a, .int k' b => match P.underlying t with | some (.int _) => cond (kbeq k k') (some (ieq a b)) none | _ => none
    | .string a, .string b => match P.underlying t with | some .string => some (lbeq (bl a) (bl b)) | _ => none
    | .pointer none, .pointer b => match P.underlying t with | some (.pointer _) => some b.isNone | _ => none
    | .pointer _, .pointer none => match P.underlying t with | some (.pointer _) => some false | _ => none
    | .pointer (some a), .pointer (some b) => match P.underlying t with
      | some (.pointer e) => match size? P e with
        | some (_ + 1) => cond (Nat.beq a.block b.block) (some (Nat.beq a.off b.off)) none
        | _ => none
      | _ => none
    | .nilIface, .nilIface => match P.underlying t with | some (.interface _) => some true | _ => none
    | .nilIface, .iface _ _ => match P.underlying t with | some (.interface _) => some false | _ => none
    | .iface _ _, .nilIface => match P.underlying t with | some (.interface _) => some false | _ => none
    | .iface tx vx, .iface ty vy => match P.underlying t with
      | some (.interface _) => cond (Nat.beq tx ty) (match P.info? tx with | some i => cond i.comparable (eqV d tx vx vy) none | none => none) (some false)
      | _ => none
    | .slice none _ _, .slice b _ _ => match P.underlying t with | some (.slice _) => some b.isNone | _ => none
    | .slice _ _ _, .slice none _ _ => match P.underlying t with | some (.slice _) => some false | _ => none
    | .map none, .map b => match P.underlying t with | some (.map _ _) => some b.isNone | _ => none
    | .map _, .map none => match P.underlying t with | some (.map _ _) => some false | _ => none
    | .nilFunc, .nilFunc => match P.underlying t with | some (.func _ _ _) => some true | _ => none
    | .nilFunc, .func _ _ _ => match P.underlying t with | some (.func _ _ _) => some false | _ => none
    | .func _ _ _, .nilFunc => match P.underlying t with | some (.func _ _ _) => some false | _ => none
    | .agg xs, .agg ys => match P.underlying t with
      | some (.struct fs) => cond (P.stoodInHeld t) none (fs.toList.foldr (fun f (k : Option Bool) =>
          cond (f.name == "_") k
            (match partV P f.type xs.toList f.offset, partV P f.type ys.toList f.offset with
             | some u, some v => match eqV d f.type u v with
               | some true => k
               | r => r
             | _, _ => none)) (some true))
      | some (.array n e) => (size? P e).bind fun sz => (List.range n).foldr (fun i (k : Option Bool) =>
            match partV P e xs.toList (i * sz), partV P e ys.toList (i * sz) with
             | some u, some v => match eqV d e u v with
               | some true => k
               | r => r
             | _, _ => none) (some true)
      | _ => none
    | _, _ => none

def eqDepth : Nat := 6

def isC (x : Operand) : Bool := match x with | .const _ => true | _ => false
def guardIn (t : TypeId) (x y : Operand) (a b : Value) : Bool :=
  match a, b with
  | .nilIface, .nilIface => isC x || isC y
  | .agg _, .agg _ => !P.eqGuardType P.depth t
  | _, _ => true
def guardOk (op : BinOp) (t : TypeId) (x y : Operand) (a b : Value) : Bool :=
  match op with
  | .eql | .neq => guardIn P t x y a b
  | _ => true

def extractV (x : Value) (i : Nat) : Option Value := match x with | .tuple vs => vs.toList[i]? | _ => none
def fieldV (t : TypeId) (x : Value) (f : Nat) : Option Value := match P.underlying t, x with
  | some (.struct fs), .agg cs => (fs.toList[f]?).bind fun fd => partV P fd.type cs.toList fd.offset
  | _, _ => none

def binV (op : BinOp) (t : TypeId) (x y : Value) : Option Value :=
  match x, y with
  | .int k a, .int k' b =>
    match op with
    | .shl | .shr => shiftV op k a b
    | _ => cond (kbeq k k') (intBin op k a b) none
  | .string a, .string b => strBin op (bl a) (bl b)
  | _, _ =>
    match op with
    | .eql => (eqV P eqDepth t x y).map .bool
    | .neq => (eqV P eqDepth t x y).map fun b => .bool (!b)
    | _ => none

def unV (op : UnOp) (x : Value) : Option Value :=
  match op, x with
  | .neg, .int k n => some (.int k (wrapK k (0 - n)))
  | .xor, .int .i64 n => cond (inRange .i64 n) (some (.int .i64 (-1 - n))) none
  | .not, .bool b => some (.bool (!b))
  | _, _ => none

/-! the heap -/
def loadN (h : AHeap) (b off n : Nat) : Option (List Value) :=
  match h.get b with
  | some (.cells c _ _ _ _) => let l := (c.drop off).take n; cond (Nat.beq l.length n) (some l) none
  | _ => none

def splice : Nat → List Value → List Value → Option (List Value)
  | _, [], c => some c
  | _, _ :: _, [] => none
  | 0, v :: vs, _ :: c => (splice 0 vs c).map (v :: ·)
  | n + 1, v :: vs, x :: c => (splice n (v :: vs) c).map (x :: ·)

/-- no row and no several values: what one cell holds -/
def cellOk (v : Value) : Bool := match v with | .agg _ | .tuple _ | .complex _ _ _ => false | _ => true

def storeN (h : AHeap) (b off : Nat) (vs : List Value) : Option AHeap :=
  match h.get b with
  | some (.cells c e s false x) => cond (vs.all cellOk) ((splice off vs c).map fun c' => h.set b (.cells c' e s false x)) none
  | _ => none

/-- not the value that may be anything -/
def notAny (v : Value) : Bool := match v with | .complex _ _ _ => false | _ => true

def cellsL (v : Value) : List Value := match v with | .agg cs => cs.toList | v => [v]

def loadV (h : AHeap) (t : TypeId) (a : Addr) : Option Value :=
  match agg? P t with
  | some true => (size? P t).bind fun n => (loadN h a.block a.off n).map fun l => .agg ⟨l⟩
  | some false => (loadN h a.block a.off 1).bind (·.head?)
  | none => none

def newV (h : AHeap) (t : TypeId) (v : Value) : Option (Nat × AHeap) :=
  h.new (.cells (cellsL v) t (cellsL v).length false true)

def zero? (t : TypeId) : Option Value := (P.info? t).bind fun i => i.zero.bind fun z => cond (constOk z) (some z) none

def rep (n : Nat) (z : List Value) : List Value := Nat.rec [] (fun _ ih => z ++ ih) n

def natOf : Value → Option Nat
  | .int _ (.ofNat n) => some n
  | _ => none

/-- an index within a bound -/
def idx (v : Value) (n : Nat) : Option Nat := (natOf v).bind fun i => cond (Nat.blt i n) (some i) none
def upTo (v : Option Value) (dflt n : Nat) : Option Nat :=
  match v with
  | none => some dflt
  | some v => (natOf v).bind fun i => cond (Nat.ble i n) (some i) none

def knownCap (c : Nat) : Option Nat := cond (Nat.beq (c % 2) 0) (some (c / 2)) none

def strideOk (h : AHeap) (b sz : Nat) : Bool := match h.get b with | some (.cells _ _ s _ _) => Nat.beq s sz | _ => false

def sliceV (h : AHeap) (t : TypeId) (x : Value) (lo hi mx : Option Value) : Option Value :=
  cond (mx.isNone || hi.isSome) (match x with
  | .string s =>
    match mx, P.underlying t with
    | none, some .string =>
      let l := bl s; let n := l.length
      (upTo hi n n).bind fun h => (upTo lo 0 h).map fun l0 => str ((l.drop l0).take (h - l0))
    | _, _ => none
  | .slice none _ _ =>
    match P.underlying t with
    | some (.slice e) => (size? P e).bind fun _ => (upTo mx 0 0).bind fun m => (upTo hi 0 m).bind fun h => (upTo lo 0 h).map fun _ => .slice none 0 0
    | _ => none
  | .slice (some a) len cap =>
    match P.underlying t with
    | some (.slice e) => (size? P e).bind fun sz =>
      match knownCap cap with
      | some c => (upTo mx c c).bind fun m => (upTo hi len m).bind fun h => (upTo lo 0 h).map fun l =>
          .slice (some (cond (Nat.beq m l) a { a with off := a.off + l * sz })) (h - l) (2 * (m - l))
      | none => cond (strideOk h a.block sz) (match mx with
        | none => (upTo hi len (cap / 2)).bind fun h => (upTo lo 0 h).map fun l => .slice (some { a with off := a.off + l * sz }) (h - l) (2 * (cap / 2 - l) + 1)
        | some _ => (upTo mx len (cap / 2)).bind fun m => (upTo hi len m).bind fun h => (upTo lo 0 h).bind fun l =>
            cond (Nat.blt 0 (cap / 2)) (some (.slice (some (cond (Nat.beq m l) a { a with off := a.off + l * sz })) (h - l) (2 * (m - l)))) (some (.slice (some a) 0 1))) none
    | _ => none
  | .pointer (some a) =>
    match P.underlying t with
    | some (.array n e) => (size? P e).bind fun sz =>
      (upTo mx n n).bind fun m => (upTo hi n m).bind fun h => (upTo lo 0 h).map fun l =>
        .slice (some (cond (Nat.beq m l) a { a with off := a.off + l * sz })) (h - l) (2 * (m - l))
    | some (.pointer arr) => match P.underlying arr with
      | some (.array n e) => (size? P e).bind fun sz =>
        (upTo mx n n).bind fun m => (upTo hi n m).bind fun h => (upTo lo 0 h).map fun l =>
          .slice (some (cond (Nat.beq m l) a { a with off := a.off + l * sz })) (h - l) (2 * (m - l))
      | _ => none
    | _ => none
  | _ => none) none

def indexAddrV (t : TypeId) (x ix : Value) : Option Value :=
  match P.underlying t, x with
  | some (.slice e), .slice (some a) len _ => (idx ix len).bind fun i => (size? P e).map fun sz => .pointer (some { a with off := a.off + i * sz })
  | some (.array n e), .pointer (some a) => (idx ix n).bind fun i => (size? P e).map fun sz => .pointer (some { a with off := a.off + i * sz })
  | _, _ => none

def fieldAddrV (s : TypeId) (x : Value) (f : Nat) : Option Value :=
  match P.underlying s, x with
  | some (.struct fs), .pointer (some a) => (fs.toList[f]?).bind fun fd =>
      match size? P fd.type with
      | some (_ + 1) => some (.pointer (some { a with off := a.off + fd.offset }))
      | _ => none
  | _, _ => none

def indexV (t : TypeId) (x ix : Value) : Option Value :=
  match P.underlying t, x with
  | some (.array n e), .agg cs => (idx ix n).bind fun i => (size? P e).bind fun sz => partV P e cs.toList (i * sz)
  | some .string, .string s => (natOf ix).bind fun i => ((bl s)[i]?).map fun b => .int .u8 (.ofNat b.toNat)
  | _, _ => none

/-- a key of a map that can be compared at once -/
def keyEq (t : TypeId) (a b : Value) : Option Bool := eqV P eqDepth t a b

def findK (t : TypeId) (k : Value) : List MapEntry → Option (Option MapEntry)
  | [] => some none
  | e :: es => match keyEq P t k e.key with
    | some true => some (some e)
    | some false => findK t k es
    | none => none

/-- a key that may be hashed: whole numbers, bools, strings, and structs of these -/
def keyOk : Nat → TypeId → Value → Bool
  | 0, _, _ => false
  | n + 1, t, v => match P.underlying t, v with
    | some (.int _), .int _ _ | some .string, .string _ | some .bool, .bool _ => true
    | some (.struct fs), .agg cs => fs.toList.all fun f => f.name == "_" || (match partV P f.type cs.toList f.offset with | some u => keyOk n f.type u | none => false)
    | _, _ => false

def lookupV (h : AHeap) (t : TypeId) (x k : Value) (ok : Bool) : Option Value :=
  match P.underlying t with
  | some (.map kt et) =>
    cond (keyOk P 3 kt k) (
      (match x with
       | .map none => some none
       | .map (some r) => match h.get r with | some (.map es _) => findK P kt k es | _ => none
       | _ => none).bind fun r =>
      (match r with | some e => some (e.val, true) | none => (zero? P et).map (·, false)).map fun (v, b) =>
        cond ok (.tuple #[v, .bool b]) v) none
  | _ => none

/-- does a quiet operation still give what it gave? -/
def same1 (x y : Value) : Bool :=
  match x, y with
  | .int k a, .int k' b => kbeq k k' && ieq a b
  | .bool a, .bool b => a == b
  | .string a, .string b => lbeq (bl a) (bl b)
  | .pointer (some a), .pointer (some b) => Nat.beq a.block b.block && Nat.beq a.off b.off && a.spot.isNone && b.spot.isNone
  | .pointer none, .pointer none | .nilIface, .nilIface | .nilFunc, .nilFunc | .map none, .map none => true
  | .slice (some a) n c, .slice (some b) m d => Nat.beq a.block b.block && Nat.beq a.off b.off && Nat.beq n m && Nat.beq c d && a.spot.isNone && b.spot.isNone
  | .slice none n c, .slice none m d => Nat.beq n m && Nat.beq c d
  | .map (some a), .map (some b) => Nat.beq a b
  | .complex .f32 0 1, .complex .f32 0 1 => true
  | _, _ => false
def sameL : Nat → Value → Value → Bool
  | 0, _, _ => false
  | n + 1, x, y => match x, y with
    | .agg a, .agg b => Nat.beq a.toList.length b.toList.length && (a.toList.zip b.toList).all fun (x, y) => sameL n x y
    | .tuple a, .tuple b => Nat.beq a.toList.length b.toList.length && (a.toList.zip b.toList).all fun (x, y) => sameL n x y
    | .iface t x, .iface u y => Nat.beq t u && sameL n x y
    | .func (.func f) a b, .func (.func g) c d => Nat.beq f g && Nat.beq a.toList.length c.toList.length && Nat.beq b.toList.length d.toList.length &&
        ((a.toList.zip c.toList).all fun (x, y) => sameL n x y) && ((b.toList.zip d.toList).all fun (x, y) => sameL n x y)
    | _, _ => same1 x y

/-- the entry of a key gets a value; none within: there is no such entry -/
def putK (t : TypeId) (k v : Value) : List MapEntry → Option (Option (List MapEntry))
  | [] => some none
  | e :: es => match keyEq P t k e.key with
    | some true => cond (sameL 3 k e.key) (some (some ({ e with key := k, val := v } :: es))) none
    | some false => (putK t k v es).map fun r => r.map (e :: ·)
    | none => none

def mapPutV (h : AHeap) (t : TypeId) (x k v : Value) : Option AHeap :=
  match P.underlying t, x with
  | some (.map kt _), .map (some r) =>
    cond (keyOk P 3 kt k) (match h.get r with
      | some (.map es clock) => (putK P kt k v es).bind fun
        | some es => some (h.set r (.map es clock))
        | none => some (h.set r (.map (es ++ [{ key := k, val := v, born := clock }]) (clock + 1)))
      | _ => none) none
  | _, _ => none

def byteOf? (v : Value) : Option UInt8 := match v with | .int .u8 (.ofNat m) => some (UInt8.ofNat m) | _ => none

def convV (h : AHeap) (src dst : TypeId) (x : Value) : Option (Value × AHeap) :=
  match P.underlying src, P.underlying dst, x with
  | some (.int _), some (.int k), .int _ n => some (.int k (wrapK k n), h)
  | some .string, some .string, .string _ => some (x, h)
  | some .string, some (.slice e), .string s =>
    match P.underlying e with
    | some (.int .u8) => (h.new (.cells ((bl s).map fun b => .int .u8 (.ofNat b.toNat)) e 1 false false)).map fun (b, h) => (.slice (some ⟨b, 0, none⟩) (bl s).length (2 * (bl s).length + 1), h)
    | _ => none
  | some (.slice e), some .string, .slice a n _ =>
    match P.underlying e with
    | some (.int .u8) =>
      match a with
      | none => some (str [], h)
      | some a => (loadN h a.block a.off n).bind fun l => (l.mapM byteOf?).map fun bs => (str bs, h)
    | _ => none
  | some (.pointer t), some .unsafePointer, .pointer (some a) =>
    match h.get a.block, size? P t with
    | some (.cells c _ _ _ _), some (_ + 1) => cond (Nat.blt a.off c.length) (some (x, h)) none
    | _, _ => none
  | some .unsafePointer, some (.pointer u), .pointer (some a) =>
    match h.get a.block, size? P u with
    | some (.cells c e _ _ true), some (_ + 1) => cond (liesAt P P.depth e (c.length / P.cellsOf e) a.off u 1) (some (x, h)) none
    | _, _ => none
  | _, _, _ => none

/-- is what is appended a number of zero elements? -/
def zerosV (ts : List TypeId) : Option Bool :=
  match ts with
  | [] => some false
  | xt :: _ => (P.underlying xt).map fun | .int _ => true | _ => false

/-- the elements that are appended: how many, and their cells -/
def newV' (h : AHeap) (e sz : Nat) (zs : Bool) (x : Value) : Option (Nat × List Value) :=
  match zs, x with
  | false, .slice none n _ => cond (Nat.beq n 0) (some (0, [])) none
  | false, .slice (some b) n _ => (loadN h b.block b.off (n * sz)).map (n, ·)
  | false, .string s => cond (Nat.beq sz 1) (some ((bl s).length, (bl s).map fun b => .int .u8 (.ofNat b.toNat))) none
  | true, .int .i64 (.ofNat n) => cond (Nat.blt n 65536) ((zero? P e).map fun z => (n, rep n (cellsL z))) none
  | _, _ => none

def appendIn (h : AHeap) (e sz : Nat) (base : Option Addr) (len cap n : Nat) (cs : List Value) : Option (Value × AHeap) :=
  let need := len + n
  match base with
  | none => cond (Nat.beq n 0) (some (.slice none 0 0, h))
      ((h.new (.cells cs e sz false false)).map fun (b, h) => (.slice (some ⟨b, 0, none⟩) need (2 * need + 1), h))
  | some a => match knownCap cap with
    | some c =>
      cond (Nat.ble need c) ((storeN h a.block (a.off + len * sz) cs).map fun h => (.slice base need cap, h))
        ((loadN h a.block a.off (len * sz)).bind fun old => (h.new (.cells (old ++ cs) e sz false false)).map fun (b, h) => (.slice (some ⟨b, 0, none⟩) need (2 * need + 1), h))
    | none =>
      cond (Nat.beq n 0) (some (.slice base need cap, h))
        (cond (Nat.ble need (cap / 2)) ((storeN h a.block (a.off + len * sz) cs).map fun h => (.slice base need cap, h))
        (match h.get a.block with
         | some (.cells _ e' s false _) => cond (Nat.beq s sz && Nat.beq e' e && cs.all cellOk)
            ((loadN h a.block a.off (len * sz)).bind fun old => ((h.kill a.block).new (.cells (old ++ cs) e sz false false)).map fun (b, h) => (.slice (some ⟨b, 0, none⟩) need (2 * need + 1), h)) none
         | _ => none))

def appendV (h : AHeap) (argTypes : List TypeId) (args : List Value) : Option (Value × AHeap) :=
  match argTypes, args with
  | st :: at1, .slice base len cap :: x :: _ =>
    match P.underlying st with
    | some (.slice e) => (size? P e).bind fun sz => (zero? P e).bind fun z => (zerosV P at1).bind fun zs => (newV' P h e sz zs x).bind fun (n, cs) =>
      cond (Nat.blt (len + n) 1048576 && Nat.blt 0 sz && Nat.blt (P.bytesOf e) 65536 && Nat.beq (cellsL z).length sz) (appendIn h e sz base len cap n cs) none
    | _ => none
  | _, _ => none

def listOr (o : Option (List Value)) : List Value := o.getD []

/-- build, buildSlice: parts put into cells -/
def fillV (place : Nat → Option (Nat × Nat)) : List (Nat × Value) → List Value → Option (List Value)
  | [], c => some c
  | (i, v) :: rest, c => match place i with
    | some (off, n) => cond (notAny v && Nat.beq (cellsL v).length n && Nat.blt 0 n) ((splice off (cellsL v) c).bind fun c => fillV place rest c) none
    | none => none

def buildV (t : TypeId) (parts : List (Nat × Value)) : Option Value :=
  (zero? P t).bind fun z =>
  match P.underlying t with
  | some (.struct fs) => cond (fs.toList.all fun f => (size? P f.type).isSome) ((fillV (fun i => (fs.toList[i]?).bind fun f => (size? P f.type).map fun n => (f.offset, n)) parts (cellsL z)).map fun l => .agg ⟨l⟩) none
  | some (.array _ e) => (size? P e).bind fun sz => (fillV (fun i => some (i * sz, sz)) parts (cellsL z)).map fun l => .agg ⟨l⟩
  | _ => none

def copyV (h : AHeap) (argTypes : List TypeId) (args : List Value) : Option (Value × AHeap) :=
  match argTypes, args with
  | dt :: _, .slice base dl _ :: x :: _ =>
    match P.underlying dt with
    | some (.slice e) => (size? P e).bind fun sz =>
      let src : Option (Nat × List Value) := match x with
        | .slice none _ _ => some (0, [])
        | .slice (some b) n _ => let m := min n dl; (loadN h b.block b.off (m * sz)).map (m, ·)
        | .string s => let m := min (bl s).length dl; some (m, ((bl s).take m).map fun b => .int .u8 (.ofNat b.toNat))
        | _ => none
      src.bind fun (m, cs) => match base with
        | none => some (.int .i64 0, h)
        | some a => cond (Nat.beq m 0) (some (.int .i64 0, h)) ((storeN h a.block a.off cs).map fun h => (.int .i64 m, h))
    | _ => none
  | _, _ => none

def clearV (h : AHeap) (argTypes : List TypeId) (args : List Value) : Option (Value × AHeap) :=
  match argTypes, args with
  | t :: _, .slice none _ _ :: _ => match P.underlying t with | some (.slice _) => some (.tuple #[], h) | _ => none
  | t :: _, .slice (some a) n _ :: _ => match P.underlying t with
    | some (.slice e) => cond (Nat.beq n 0) (some (.tuple #[], h)) ((zero? P e).bind fun z => (storeN h a.block a.off (rep n (cellsL z))).map fun h => (.tuple #[], h))
    | _ => none
  | _, _ => none

def lenV (h : AHeap) (argTypes : List TypeId) (args : List Value) : Option Value :=
  match argTypes, args with
  | t :: _, x :: _ => match P.underlying t, x with
    | some .string, .string s => some (.int .i64 (bl s).length)
    | some (.array n _), _ => some (.int .i64 n)
    | some (.slice _), .slice _ n _ => some (.int .i64 n)
    | some (.map _ _), .map none => some (.int .i64 0)
    | some (.map _ _), .map (some r) => match h.get r with | some (.map es _) => some (.int .i64 es.length) | _ => none
    | some (.pointer arr), _ => match P.underlying arr with | some (.array n _) => some (.int .i64 n) | _ => none
    | _, _ => none
  | _, _ => none

def capV (argTypes : List TypeId) (args : List Value) : Option Value :=
  match argTypes, args with
  | t :: _, x :: _ => match P.underlying t, x with
    | some (.slice _), .slice _ _ c => (knownCap c).map fun (c : Nat) => .int .i64 (c : Int)
    | some (.array n _), _ => some (.int .i64 n)
    | _, _ => none
  | _, _ => none

def minmaxV (mx : Bool) (args : List Value) : Option Value :=
  match args with
  | [.int k a, .int _ b] => some (.int k (cond mx (cond (ilt a b) b a) (cond (ilt b a) b a)))
  | _ => none

end
end Go.Ab
end

section
namespace Go.Ab

inductive Ext where
  | loadInt (k : IntKind) | store | cas (k : IntKind) | addInt (k : IntKind) | indexByte | count | same | mark0 | mark1 | makeNoZero
  deriving Inhabited

structure AProg where
  P : Program
  ng : Nat
  ext : T Ext
  sum : FuncId → List Value → AHeap → Option Value

variable (A : AProg)

def indexOf (c : Nat) : List UInt8 → Nat → Int
  | [], _ => -1
  | b :: l, i => cond (Nat.beq b.toNat c) (.ofNat i) (indexOf c l (i + 1))
def countOf (c : Nat) : List UInt8 → Nat → Nat
  | [], n => n
  | b :: l, n => countOf c l (cond (Nat.beq b.toNat c) (n + 1) n)

def extV (e : Ext) (f : FuncId) (h : AHeap) (args : List Value) : Option (Value × AHeap) :=
  match e, args with
  | .loadInt k, [.pointer (some a)] => (loadN h a.block a.off 1).bind fun
    | [.int k' n] => cond (kbeq k k') (some (.int k' n, h)) none
    | _ => none
  | .store, [.pointer (some a), .int k n] => (storeN h a.block a.off [.int k n]).map fun h => (.tuple #[], h)
  | .cas K, [.pointer (some a), .int k old, .int k' new] => (loadN h a.block a.off 1).bind fun
    | [.int k'' n] => cond (kbeq K k'' && kbeq k k'' && kbeq k k') (match h.get a.block with
        | some (.cells _ _ _ false _) => cond (ieq n old) ((storeN h a.block a.off [.int k' new]).map fun h => (.bool true, h)) (some (.bool false, h))
        | _ => none) none
    | _ => none
  | .addInt k, [.pointer (some a), .int _ y] => (loadN h a.block a.off 1).bind fun
    | [.int k' n] => cond (kbeq k k') (let v := wrapK k (n + y); (storeN h a.block a.off [.int k v]).map fun h => (.int k v, h)) none
    | _ => none
  | .indexByte, [.string s, .int .u8 (.ofNat c)] => cond (Nat.blt c 256) (some (.int .i64 (indexOf c (bl s) 0), h)) none
  | .count, [.string s, .int .u8 (.ofNat c)] => cond (Nat.blt c 256) (some (.int .i64 (countOf c (bl s) 0), h)) none
  | .same, [x] => some (x, h)
  | .mark0, _ => some (.tuple #[], h)
  | .mark1, [.pointer (some _)] => some (.tuple #[], h)
  | .makeNoZero, [.int .i64 (.ofNat n)] =>
    ((A.P.funcs[f]?).bind (·.resultTypes[0]?)).bind fun t => match A.P.underlying t with
      | some (.slice e) => cond (Nat.blt n 65536) ((h.new (.cells (rep n [any]) e 1 false false)).map fun (b, h) => (.slice (some ⟨b, 0, none⟩) n (2 * n + 1), h)) none
      | _ => none
  | _, _ => none

def isQuiet : Op → Bool
  | .convert _ _ _ => false
  | .move _ | .pick _ _ _ | .build _ _ | .load _ _ | .nilCheck _ | .binOp _ _ _ _ _ | .unOp _ _ _ | .makeInterface _ _ | .makeFunc _ _ _
  | .slice _ _ _ _ _ | .fieldAddr _ _ _ | .field _ _ _ | .indexAddr _ _ _ | .index _ _ _ | .lookup _ _ _ _ | .extract _ _ => true
  | .call { callee := .builtin .len, .. } | .call { callee := .builtin .cap, .. } | .call { callee := .builtin .min, .. } | .call { callee := .builtin .max, .. } => true
  | _ => false

/-- what a region that draws its order does as soon as it can -/
def isEager : Op → Bool
  | .alloc _ | .box _ _ | .buildSlice _ _ _ | .makeSlice _ _ _ | .makeMap _ none => true
  | o => isQuiet o

/-- an operation that makes a new block, and hands its address on -/
def freshV (ρ : Operand → Value) (o : Op) : Option (AObj × (Nat → Value)) :=
  match o with
  | .alloc t => (zero? A.P t).map fun z => (.cells (cellsL z) t (cellsL z).length false true, fun b => .pointer (some ⟨b, 0, none⟩))
  | .box t x => cond (notAny (ρ x)) (some (.cells (cellsL (ρ x)) t (cellsL (ρ x)).length false true, fun b => .pointer (some ⟨b, 0, none⟩))) none
  | .buildSlice t len ps =>
    match A.P.underlying t with
    | some (.slice e) => (size? A.P e).bind fun sz => (zero? A.P e).bind fun z =>
      cond (Nat.blt (len * sz) 65536 && Nat.blt 0 sz && Nat.beq (cellsL z).length sz) ((fillV (fun i => some (i * sz, sz)) (ps.toList.map fun (i, x) => (i, ρ x)) (rep len (cellsL z))).map fun c =>
        (.cells c e sz false true, fun b => .slice (some ⟨b, 0, none⟩) len (2 * len))) none
    | _ => none
  | .makeSlice t l c =>
    match A.P.underlying t, ρ l, ρ c with
    | some (.slice e), .int _ (.ofNat l), .int _ (.ofNat c) => (size? A.P e).bind fun sz => (zero? A.P e).bind fun z =>
        cond (Nat.ble l c && Nat.blt c 65536 && Nat.blt (A.P.bytesOf e) 65536 && Nat.blt 0 sz && Nat.beq (cellsL z).length sz) (some (.cells (rep c (cellsL z)) e sz false true, fun b => .slice (some ⟨b, 0, none⟩) l (2 * c))) none
    | _, _, _ => none
  | .makeMap _ none => some (.map [] 0, fun b => .map (some b))
  | _ => none

def nilChk (x : Value) : Option Value :=
  match x with
  | .pointer none | .nilIface | .nilFunc => none
  | .func (.method _) _ _ => none
  | x => some x

def assertV (x : Value) (asserted : TypeId) (ok : Bool) : Option Value :=
  let holds (v : Value) : Option Value := some (cond ok (.tuple #[v, .bool true]) v)
  let fails : Option Value := cond ok ((zero? A.P asserted).map fun z => .tuple #[z, .bool false]) none
  match A.P.underlying asserted, x with
  | some (.interface _), .nilIface => fails
  | some (.interface _), .iface _ _ => none
  | some _, .nilIface => fails
  | some _, .iface t v => cond (Nat.beq t asserted) (holds v) fails
  | _, _ => none

/-- an operation that looks, and changes nothing -/
def quietV (ρ : Operand → Value) (h : AHeap) (o : Op) (_ty : TypeId) : Option Value :=
  match o with
  | .move x => some (ρ x)
  | .pick c a b => match ρ c with | .bool c => some (cond c (ρ a) (ρ b)) | _ => none
  | .build t ps => buildV A.P t (ps.toList.map fun (i, x) => (i, ρ x))
  | .load t x => match ρ x with | .pointer (some a) => loadV A.P h t a | _ => none
  | .nilCheck x => cond (notAny (ρ x)) (nilChk (ρ x)) none
  | .binOp op t x y _ => cond (guardOk A.P op t x y (ρ x) (ρ y)) (binV A.P op t (ρ x) (ρ y)) none
  | .unOp op _ x => unV op (ρ x)
  | .makeInterface t x => match A.P.underlying t with | some (.interface _) => none | some _ => some (.iface t (ρ x)) | none => none
  | .makeFunc fn fs cs => match fn with | .func f => some (.func (.func f) ⟨fs.toList.map ρ⟩ ⟨cs.toList.map ρ⟩) | _ => none
  | .slice t x lo hi mx => sliceV A.P h t (ρ x) (lo.map ρ) (hi.map ρ) (mx.map ρ)
  | .fieldAddr s x f => fieldAddrV A.P s (ρ x) f
  | .field t x f => fieldV A.P t (ρ x) f
  | .indexAddr t x i => indexAddrV A.P t (ρ x) (ρ i)
  | .index t x i => indexV A.P t (ρ x) (ρ i)
  | .lookup t x k ok => lookupV A.P h t (ρ x) (ρ k) ok
  | .extract t i => extractV (ρ t) i
  | .call { callee := .builtin .len, args, argTypes } => lenV A.P h argTypes.toList (args.toList.map ρ)
  | .call { callee := .builtin .cap, args, argTypes } => capV A.P argTypes.toList (args.toList.map ρ)
  | .call { callee := .builtin .min, args, .. } => minmaxV false (args.toList.map ρ)
  | .call { callee := .builtin .max, args, .. } => minmaxV true (args.toList.map ρ)
  | _ => none

/-- which entries may come next, or (none) the end -/
def cands (es : List MapEntry) (since : Nat) (seen : List Nat) : List (Option MapEntry) :=
  let left := es.filter fun e => !(seen.any fun b => Nat.beq b e.born)
  let old := left.filter fun e => Nat.blt e.born since
  let new := left.filter fun e => !Nat.blt e.born since
  (cond old.isEmpty [none] []) ++ (old ++ new).map some

def nextC (h : AHeap) (r mb since : Nat) (seen : List Nat) (clock : Nat) (c : Option MapEntry) : Value × AHeap :=
  match c with
  | none => (.tuple #[.bool false], h)
  | some e => (.tuple #[.bool true, e.key, e.val], h.set r (.mapIter (some mb) since (seen ++ [e.born]) clock))

def mapNextV (h : AHeap) (r : Nat) (m : Option Nat) (since : Nat) (seen : List Nat) (stepped : Nat) : Option (Value × AHeap) :=
  match m with
  | none => some (.tuple #[.bool false], h)
  | some mb => match h.get mb with
    | some (.map es clock) =>
      cond (!seen.isEmpty && !es.isEmpty && es.all fun e => Nat.ble stepped e.born) none
        (match cands es since seen with
         | [c] => some (nextC h r mb since seen clock c)
         | _ => none)
    | _ => none

def sizeIs (t : TypeId) (n : Nat) : Bool := match size? A.P t with | some m => Nat.beq m n | none => false

def storeV (h : AHeap) (t : TypeId) (x y : Value) : Option (Value × AHeap) :=
  match x with
  | .pointer (some a) => cond (notAny y && sizeIs A t (cellsL y).length) ((storeN h a.block a.off (cellsL y)).map fun h => (.tuple #[], h)) none
  | _ => none

def rangeV (h : AHeap) (t : TypeId) (x : Value) : Option (Value × AHeap) :=
  match A.P.underlying t, x with
  | some .string, .string s => (h.new (.strIter (bl s) 0)).map fun (b, h) => (.pointer (some ⟨b, 0, none⟩), h)
  | some (.map _ _), .map none => (h.new (.mapIter none 0 [] 0)).map fun (b, h) => (.pointer (some ⟨b, 0, none⟩), h)
  | some (.map _ _), .map (some m) => match h.get m with
    | some (.map _ clock) => (h.new (.mapIter (some m) clock [] clock)).map fun (b, h) => (.pointer (some ⟨b, 0, none⟩), h)
    | _ => none
  | _, _ => none

def nextV (h : AHeap) (it : Value) (isStr : Bool) : Option (Value × AHeap) :=
  match it with
  | .pointer (some a) => cond (Nat.beq a.off 0) (match h.get a.block with
    | some (.strIter s pos) => cond isStr (match s[pos]? with
      | some b => cond (Nat.blt b.toNat 128) (some (.tuple #[.bool true, .int .i64 (pos : Int), .int .i32 (.ofNat b.toNat)], h.set a.block (.strIter s (pos + 1)))) none
      | none => some (.tuple #[.bool false], h)) none
    | some (.mapIter m since seen stepped) => cond isStr none (mapNextV h a.block m since seen stepped)
    | _ => none) none
  | _ => none

def entryV (h : AHeap) (it : Value) : Option Value :=
  match it with
  | .pointer (some a) => cond (Nat.beq a.off 0) (match h.get a.block with
    | some (.mapIter (some m) _ seen stepped) => match h.get m, seen.getLast? with
      | some (.map es clock), some stamp => cond (Nat.beq clock stepped) ((es.find? fun e => e.born == stamp).map fun e => .tuple #[e.key, e.val]) none
      | _, _ => none
    | _ => none) none
  | _ => none

def sliceDataV (args : List Value) : Option Value :=
  match args with
  | [.slice none _ _] => some (.pointer none)
  | [.slice (some a) _ c] => cond (Nat.blt 0 (c / 2)) (some (.pointer (some a))) none
  | _ => none

def unsafeStringV (h : AHeap) (argTypes : List TypeId) (args : List Value) : Option (Value × AHeap) :=
  match args, argTypes with
  | [.pointer none, .int _ n], _ :: _ => cond (ieq n 0) (some (str [], h)) none
  | [.pointer (some a), .int _ (.ofNat n)], pt :: _ => cond (Nat.beq n 0) (some (str [], h))
    (cond (Nat.blt n 1048576) (match A.P.underlying pt, h.get a.block with
     | some (.pointer u), some (.cells c e 1 false x) => cond (Nat.beq u e && (match A.P.underlying e, size? A.P e with | some (.int .u8), some 1 => true | _, _ => false))
        ((loadN h a.block a.off n).bind fun l => (l.mapM byteOf?).map fun bs => (str bs, h.set a.block (.cells c e 1 true x))) none
     | _, _ => none) none)
  | _, _ => none

/-- an operation that may change memory -/
def activeV (ρ : Operand → Value) (h : AHeap) (o : Op) (_ty : TypeId) : Option (Value × AHeap) :=
  match o with
  | .assign x => some (ρ x, h)
  | .alloc _ | .box _ _ | .buildSlice _ _ _ | .makeSlice _ _ _ | .makeMap _ none => (freshV A ρ o).bind fun (obj, f) => (h.new obj).map fun (b, h) => (f b, h)
  | .store t x v => storeV A h t (ρ x) (ρ v)
  | .convert s d x => convV A.P h s d (ρ x)
  | .makeMap t (some x) => match A.P.underlying t, ρ x with | some (.map _ _), .int _ _ => (h.new (.map [] 0)).map fun (b, h) => (.map (some b), h) | _, _ => none
  | .mapUpdate t m k x | .insert t m k x => (mapPutV A.P h t (ρ m) (ρ k) (ρ x)).map fun h => (.tuple #[], h)
  | .range t x => rangeV A h t (ρ x)
  | .next it isStr => nextV h (ρ it) isStr
  | .entry it => (entryV h (ρ it)).map (·, h)
  | .typeAssert x _ t ok => (assertV A (ρ x) t ok).map (·, h)
  | .call { callee := .builtin .append, args, argTypes } => appendV A.P h argTypes.toList (args.toList.map ρ)
  | .call { callee := .builtin .copy, args, argTypes } => copyV A.P h argTypes.toList (args.toList.map ρ)
  | .call { callee := .builtin .clear, args, argTypes } => clearV A.P h argTypes.toList (args.toList.map ρ)
  | .call { callee := .builtin .unsafeSliceData, args, .. } => (sliceDataV (args.toList.map ρ)).map (·, h)
  | .call { callee := .builtin .unsafeString, args, argTypes } => unsafeStringV A h argTypes.toList (args.toList.map ρ)
  | _ => none

def ev (f : AFrame) : Operand → Value
  | .tmp t => (f.tmps.get t).getD any
  | .const v => cond (constOk v) v any
  | .global g => cond (Nat.blt g A.ng) (.pointer (some ⟨g, 0, none⟩)) any
  | .func f => .func (.func f) #[] #[]

def AFrame.put (f : AFrame) (d : Option Nat) (v : Value) : Option AFrame :=
  match d with
  | none => some f
  | some d => cond (Nat.blt d f.nt && Nat.blt f.nt bound) (some { f with tmps := T.put depth f.tmps d (some v) }) none

def wantedA (all : Array Oper) (f : AFrame) (o : Oper) : Option Bool :=
  match o.guard with
  | none => some true
  | some (j, want) => match all.toList[j]? with
    | some oj => match oj.dst with
      | some d => match f.tmps.get d with
        | some (.bool b) => some (b == want)
        | some (.tuple _) => some false
        | _ => none
      | none => some false
    | none => some false

def sameObj (a b : AObj) : Bool :=
  match a, b with
  | .cells c e s r x, .cells c' e' s' r' x' => Nat.beq e e' && Nat.beq s s' && r == r' && x == x' && Nat.beq c.length c'.length && (c.zip c').all fun (x, y) => sameL 6 x y
  | .map [] c, .map [] d => Nat.beq c d
  | _, _ => false

def blockOf (v : Value) : Option Nat := match v with
  | .pointer (some a) => some a.block
  | .slice (some a) _ _ => some a.block
  | .map (some b) => some b
  | _ => none

def freshStill (h : AHeap) (r : Option (AObj × (Nat → Value))) (v : Value) : Bool :=
  match r, blockOf v with
  | some (obj, f), some b => sameL 6 v (f b) && (match h.get b with | some o => sameObj o obj | none => false)
  | _, _ => false

def holdsStill (f : AFrame) (h : AHeap) (all : Array Oper) (o : Oper) : Bool :=
  match wantedA all f o with
  | none => false
  | some c => match o.dst with
    | none => cond c (isQuiet o.op && (quietV A (ev A f) h o.op o.type).isSome) true
    | some d => cond c
      (cond (isQuiet o.op) (match quietV A (ev A f) h o.op o.type with | some v => sameL 6 v ((f.tmps.get d).getD any) | none => false)
        (freshStill h (freshV A (ev A f) o.op) ((f.tmps.get d).getD any)))
      (sameL 6 undef ((f.tmps.get d).getD any))

def finishOps (f : AFrame) (h : AHeap) (v : Value) : Option AFrame :=
  match f.todo with
  | .ops all i (o :: rest) :: k => (f.put o.dst v).map fun f => { f with todo := .ops all (i + 1) rest :: k }
  | .draw all ((i, o) :: left) quiet :: k => (f.put o.dst v).bind fun f =>
      let b := (Region.before all).getD i 0
      let q := quiet.filter fun (j, _) => !b.testBit j
      cond (q.all fun (_, o) => holdsStill A f h all o) (some { f with todo := .draw all left q :: k }) none
  | .inRangeFunc l :: k => some { f with todo := .endRangeFunc l :: k }
  | .beginRound :: k => some { f with todo := k }
  | _ => none

def putArgs : Nat → List Value → T Value → T Value
  | _, [], t => t
  | i, v :: vs, t => putArgs (i + 1) vs (T.put depth t i (some v))

def enterA (f : FuncId) (args : List Value) (kind : CallKind) : Option AFrame :=
  match A.P.funcs[f]? with
  | some fn => match fn.body with
    | some body => cond (Nat.blt args.length 4096) (some { fn := f, nt := max args.length fn.ntmps, tmps := putArgs 0 args .leaf, todo := [.code body], defers := [], mode := .run, kind, roundOf := none }) none
    | none => none
  | none => none

/-- a call of a function: by a summary, a row of the model, or its body -/
def callA (S : AState) (f : FuncId) (args : List Value) : Option AState :=
  match A.sum f args S.heap with
  | some v => (finishOps A S.top S.heap v).map fun t => { S with top := t }
  | none => match A.ext.get f with
    | some e => (extV A e f S.heap args).bind fun (v, h) => (finishOps A S.top h v).map fun t => { S with top := t, heap := h }
    | none => (enterA A f args .normal).map fun t => { S with top := t, callers := S.top :: S.callers }

def invokeA (S : AState) (fv : Value) (args : List Value) : Option AState :=
  match fv with
  | .func (.func f) first captured => callA A S f (first.toList ++ args ++ captured.toList)
  | .func (.yield l) first _ => match S.heap.get l with
    | some (.loop _ _ fn nt tmps params assign body _) =>
      let args := first.toList ++ args
      cond (Nat.beq args.length params.size)
        (let t := (params.toList.zip args).foldl (fun t (p, a) => T.put depth t p (some a)) tmps
         cond (params.toList.all fun p => Nat.blt p nt && Nat.blt p bound)
          (some { S with top := { fn, nt, tmps := t, todo := [.code assign, .beginRound, .code body], defers := [], mode := .run, kind := .normal, roundOf := some l }, callers := S.top :: S.callers }) none) none
    | _ => none
  | _ => none

/-- one operation of the top frame, wanted -/
def operA (S : AState) (o : Oper) : Option AState :=
  let f := S.top
  match o.op with
  | .call { callee := .value x, args, .. } => invokeA A S (ev A f x) (args.toList.map (ev A f))
  | .call { callee := .builtin .recover, .. } =>
    match f.roundOf, f.kind, S.callers with
    | none, .normal, _ => (finishOps A f S.heap .nilIface).map fun t => { S with top := t }
    | none, .deferred, c :: _ => match c.mode with
      | .panicking _ => none
      | _ => (finishOps A f S.heap .nilIface).map fun t => { S with top := t }
    | _, _, _ => none
  | .defer { callee := .value x, args, .. } => match f.roundOf, ev A f x with
    | none, .func fn first captured =>
      let d : Deferred := { target := .fn fn captured, args := ⟨first.toList ++ args.toList.map (ev A f)⟩ }
      (finishOps A { f with defers := d :: f.defers } S.heap undef).map fun t => { S with top := t }
    | _, _ => none
  | op =>
    cond (isQuiet op) ((quietV A (ev A f) S.heap op o.type).bind fun v => (finishOps A f S.heap v).map fun t => { S with top := t })
      ((activeV A (ev A f) S.heap op o.type).bind fun (v, h) => (finishOps A f h v).map fun t => { S with top := t, heap := h })

def exitA (id : Nat) : List AItem → Option (List AItem)
  | .inBlock id' :: k => cond (Nat.beq id' id) (some k) (exitA id k)
  | _ :: k => exitA id k
  | [] => none

def gotoA (l : Nat) : List AItem → Option (List AItem)
  | .inScope body :: k => match findLabel body l with
    | some rest => some (.code rest :: .inScope body :: k)
    | none => gotoA l k
  | _ :: k => gotoA l k
  | [] => none

/-- the value of a frame's round, or of a call, is handed to the caller -/
def returnA (S : AState) (v : Value) : Option AState :=
  match S.callers with
  | c :: rest => match S.top.kind with
    | .normal => (finishOps A c S.heap v).map fun t => { S with top := t, callers := rest }
    | .deferred => match c.mode with
      | .returning => some { S with top := c, callers := rest }
      | _ => none
    | _ => none
  | [] => none

def endState (jump : Option Code) : LoopState := match jump with | none => .ready | some _ => .done
def pendTodo (pending : Option Code) (k : List AItem) : List AItem := match pending with | some c => .code c :: k | none => k

def leaveA (S : AState) (jump : Option Code) : Option AState :=
  match S.top.roundOf with
  | none => match jump with
    | none | some .ret => some { S with top := { S.top with mode := .returning } }
    | _ => none
  | some l => match S.heap.get l with
    | some (.loop _ _ fn nt tmps params assign body ds) =>
      returnA A { S with heap := S.heap.set l (.loop (endState jump) jump fn nt tmps params assign body ds) } (.bool jump.isNone)
    | _ => none

def ready (all : Array Oper) (left : List (Nat × Oper)) (i : Nat) : Bool :=
  let b := (Region.before all).getD i 0
  !(left.any fun (j, _) => b.testBit j)

def eagerV (ρ : Operand → Value) (h : AHeap) (o : Op) (ty : TypeId) : Option (Value × AHeap) :=
  cond (isQuiet o) ((quietV A ρ h o ty).map (·, h)) ((freshV A ρ o).bind fun (obj, f) => (h.new obj).map fun (b, h) => (f b, h))

def takeReady (all : Array Oper) (left : List (Nat × Oper)) : List (Nat × Oper) → Option ((Nat × Oper) × List (Nat × Oper))
  | [] => none
  | (i, o) :: rest => cond (isEager o.op && ready all left i) (some ((i, o), rest)) ((takeReady all left rest).map fun (x, l) => (x, (i, o) :: l))

def namesOf (o : Oper) : List Tmp := o.op.operands.toList.filterMap fun | .tmp t => some t | _ => none

/-! what a region that draws its order must be like: by numbers whose bits are the operations -/
def dstBit (t : Nat) (o : Oper) : Nat := match o.dst with | some d => cond (Nat.beq d t) 1 0 | none => 0
def wm (t : Nat) : List Oper → Nat
  | [] => 0
  | o :: l => dstBit t o + 2 * wm t l
def ne : List Oper → Nat
  | [] => 0
  | o :: l => cond (isEager o.op) 0 1 + 2 * ne l
def subB (x b : Nat) : Bool := Nat.beq (Nat.land x b) x
def namesB (all : List Oper) (o : Oper) (b : Nat) : List Tmp → Bool
  | [] => true
  | t :: l => subB (wm t all) b && namesB all o b l
def oneB (all : List Oper) (N : Nat) (o : Oper) (i b : Nat) : Bool :=
  (o.after.toList.all fun e => !Region.binds .any e || Nat.blt e.on i) &&
  (match o.guard with | some (g, _) => b.testBit g | none => true) &&
  (isQuiet o.op || !isEager o.op || o.dst.isSome) &&
  (match o.dst with | some t => !isEager o.op || Nat.beq (wm t all) (2 ^ i) | none => true) &&
  namesB all o b (namesOf o) && (isEager o.op || subB (Nat.land N (2 ^ i - 1)) b)
def allB (all : List Oper) (N : Nat) (bs : Array Nat) : List Oper → Nat → Bool
  | [], _ => true
  | o :: l, i => oneB all N o i (bs.getD i 0) && allB all N bs l (i + 1)
def drFast (all : Array Oper) : Bool := allB all.toList (ne all.toList) (Region.before all) all.toList 0

/-- what a region that draws its order must be like -/
def drOk (all : Array Oper) : Bool := cond (drFast all) true <|
  let b := Region.before all
  let l := all.toList.zipIdx
  l.all fun (o, i) =>
    (o.after.toList.all fun e => !Region.binds .any e || Nat.blt e.on i) &&
    (match o.guard with | some (g, _) => (b.getD i 0).testBit g | none => true) &&
    (isQuiet o.op || !isEager o.op || o.dst.isSome) &&
    l.all fun (p, j) =>
      cond (Nat.beq i j) (match o.dst with | some t => !(namesOf o).contains t || !isEager o.op | none => true)
       ((cond (isEager o.op) (match o.dst with
          | some t => p.dst != some t && (!(namesOf p).contains t || (b.getD j 0).testBit i) && (match p.guard with | some (g, _) => g != i || (b.getD j 0).testBit i | none => true)
          | none => true) true) &&
        (match p.dst with | some t => !(namesOf o).contains t || ((b.getD j 0).testBit i && !isEager p.op) || (b.getD i 0).testBit j | none => true) &&
        (isEager o.op || isEager p.op || (b.getD j 0).testBit i || (b.getD i 0).testBit j))

def execA (S : AState) : Option AState :=
  let f := S.top
  let to (k : List AItem) : Option AState := some { S with top := { f with todo := k } }
  match f.todo with
  | [] => leaveA A S none
  | .code c :: k => match c with
    | .ret => leaveA A S (some .ret)
    | .skip | .label _ => to k
    | .seq a b => to (.code a :: .code b :: k)
    | .cond c x y => match ev A f c with | .bool b => to (.code (cond b x y) :: k) | _ => none
    | .block id body => to (.code body :: .inBlock id :: k)
    | .loop body => to (.code body :: .inLoop body :: k)
    | .scope body => to (.code body :: .inScope body :: k)
    | .exit id => match exitA id k with | some k => to k | none => leaveA A S (some (.exit id))
    | .goto l => match gotoA l k with | some k => to k | none => leaveA A S (some (.goto l))
    | .rangeFunc fo params assign body =>
      match (match f.roundOf with
        | some l => match S.heap.get l with | some (.loop _ _ _ _ _ _ _ _ ds) => some (ds, ([] : List Deferred), S.heap) | _ => none
        | none => (S.heap.new (.deferred (some []))).map fun (r, h) => (r, [{ target := .collected r, args := #[] }], h)) with
      | some (ds, mark, h) => (h.new (.loop .ready none f.fn f.nt f.tmps params assign body ds)).bind fun (l, h) =>
          match ev A f fo with
          | .func (.func g) fs cs => (enterA A g (fs.toList ++ [.func (.yield l) #[] #[]] ++ cs.toList) .normal).map fun t =>
                { top := t, callers := { f with todo := .inRangeFunc l :: k, defers := mark ++ f.defers } :: S.callers, heap := h }
          | _ => none
      | none => none
    | .region _ ops false => to (.ops ops 0 ops.toList :: k)
    | .region _ ops true => cond (drOk ops) (to (.draw ops (ops.toList.zipIdx.map fun (o, i) => (i, o)) [] :: k)) none
    | .refuse _ => none
  | .inBlock _ :: k | .inScope _ :: k => to k
  | .inLoop body :: k => to (.code body :: .inLoop body :: k)
  | .ops _ _ [] :: k => to k
  | .ops all _ (o :: _) :: _ => (wantedA all f o).bind fun c => cond c (operA A S o) ((finishOps A f S.heap undef).map fun t => { S with top := t })
  | .draw _ [] _ :: k => to k
  | .draw all left quiet :: k =>
    match takeReady all left left with
    | some ((i, o), left') => ((wantedA all f o).bind fun c => cond c (eagerV A (ev A f) S.heap o.op o.type) (some (undef, S.heap))).bind fun (v, h) => (f.put o.dst v).map fun f =>
        { S with top := { f with todo := .draw all left' ((i, o) :: quiet) :: k }, heap := h }
    | none => match left with
      | (i, o) :: _ => cond (ready all left i) ((wantedA all f o).bind fun c => cond c (operA A S o) ((finishOps A f S.heap undef).map fun t => { S with top := t })) none
      | [] => none
  | .inRangeFunc _ :: _ => none
  | .endRangeFunc l :: k => match S.heap.get l with
    | some (.loop st pending fn nt tmps params assign body ds) => match st with
      | .busy => none
      | _ => some { S with top := { f with todo := pendTodo pending k }, heap := S.heap.set l (.loop .exhausted pending fn nt tmps params assign body ds) }
    | _ => none
  | .beginRound :: k => match f.roundOf with
    | some l => match S.heap.get l with
      | some (.loop .ready pending fn nt tmps params assign body ds) => some { S with top := { f with todo := k }, heap := S.heap.set l (.loop .busy pending fn nt tmps params assign body ds) }
      | _ => none
    | none => none

def resultA (h : AHeap) (tmps : T Value) (r : ResultVar) : Option Value :=
  match r with
  | .tmp t => some ((tmps.get t).getD any)
  | .cell a t => match (tmps.get a).getD undef with | .pointer (some a) => loadV A.P h t a | _ => none

/-- what a frame gives back -/
def resultsA (h : AHeap) (fn : Func) (tmps : T Value) : Option Value :=
  (fn.results.toList.mapM (resultA A h tmps)).map fun
  | [v] => v
  | vs => .tuple ⟨vs⟩

def unwindA (S : AState) : Option AState :=
  let f := S.top
  match f.defers with
  | { target := .collected r, .. } :: ds => match S.heap.get r with
    | some (.deferred (some l)) => some { S with top := { f with defers := l ++ ds }, heap := S.heap.set r (.deferred none) }
    | _ => none
  | { target := .fn (.func g) captured, args } :: ds => match f.todo with
    | .draw _ _ _ :: _ => none
    | _ => (enterA A g (args.toList ++ captured.toList) .deferred).map fun t => { S with top := t, callers := { f with defers := ds } :: S.callers }
  | _ :: _ => none
  | [] => match f.mode with
    | .run => none
    | .panicking _ => none
    | .returning => match A.P.funcs[f.fn]? with
      | some fn => (resultsA A S.heap fn f.tmps).bind fun v => returnA A S v
      | none => none

def astep (S : AState) : Option AState :=
  match S.top.mode with
  | .run => execA A S
  | _ => unwindA A S

/-- the end: the first frame gives its value back -/
def done? (S : AState) : Option Value :=
  match S.callers, S.top.mode, S.top.defers, S.top.kind with
  | [], .returning, [], .normal => (A.P.funcs[S.top.fn]?).bind fun fn => resultsA A S.heap fn S.top.tmps
  | _, _, _, _ => none

/-- at most n steps -/
def runA (n : Nat) (S : AState) : AState := Nat.rec (fun S => S) (fun _ ih S => match astep A S with | some S => ih S | none => S) n S

end Go.Ab
end

section
namespace Go.Ab

structure Info where
  blk : Nat
  base : Nat
  size : Nat
  stride : Nat

abbrev Ren := Nat → Option Info

def Ren.le (φ ψ : Ren) : Prop := ∀ b i, φ b = some i → ψ b = some i
theorem Ren.le.refl (φ : Ren) : φ.le φ := fun _ _ h => h
theorem Ren.le.trans {φ ψ χ : Ren} (h : φ.le ψ) (k : ψ.le χ) : φ.le χ := fun b i e => k b i (h b i e)

inductive FR (φ : Ren) : Fn → Fn → Prop
  | func (f) : FR φ (.func f) (.func f)
  | yield {l i} : φ l = some i → FR φ (.yield l) (.yield i.blk)

mutual
inductive VR (φ : Ren) : Value → Value → Prop
  | any (v) : VR φ any v
  | anyInt (n) : VR φ anyI (.int .i64 n)
  | bool (b) : VR φ (.bool b) (.bool b)
  | int (k n) : VR φ (.int k n) (.int k n)
  | string (s) : VR φ (.string s) (.string s)
  | nilPtr : VR φ (.pointer none) (.pointer none)
  | ptr {b o i} : φ b = some i → VR φ (.pointer (some ⟨b, o, none⟩)) (.pointer (some ⟨i.blk, i.base + o, none⟩))
  | nilSlice : VR φ (.slice none 0 0) (.slice none 0 0)
  | sliceK {b o i n c} : φ b = some i → VR φ (.slice (some ⟨b, o, none⟩) n (2 * c)) (.slice (some ⟨i.blk, i.base + o, none⟩) n c)
  | sliceU {b o i n lb o' c} : φ b = some i → lb ≤ c → n ≤ lb → (0 < lb → o' = i.base + o) → o' + c * i.stride ≤ i.size →
      VR φ (.slice (some ⟨b, o, none⟩) n (2 * lb + 1)) (.slice (some ⟨i.blk, o', none⟩) n c)
  | nilMap : VR φ (.map none) (.map none)
  | map {b i} : φ b = some i → VR φ (.map (some b)) (.map (some i.blk))
  | nilFunc : VR φ .nilFunc .nilFunc
  | nilIface : VR φ .nilIface .nilIface
  | func {fn fn' a a' c c'} : FR φ fn fn' → VRL φ a.toList a'.toList → VRL φ c.toList c'.toList → VR φ (.func fn a c) (.func fn' a' c')
  | iface {t v v'} : VR φ v v' → VR φ (.iface t v) (.iface t v')
  | agg {c c' : Array Value} : VRL φ c.toList c'.toList → VR φ (.agg c) (.agg c')
  | tuple {c c' : Array Value} : VRL φ c.toList c'.toList → VR φ (.tuple c) (.tuple c')
inductive VRL (φ : Ren) : List Value → List Value → Prop
  | nil : VRL φ [] []
  | cons {v v' l l'} : VR φ v v' → VRL φ l l' → VRL φ (v :: l) (v' :: l')
end

theorem FR.mono {φ ψ : Ren} (hle : φ.le ψ) {f f' : Fn} (h : FR φ f f') : FR ψ f f' := by
  cases h with
  | func f => exact .func f
  | yield e => exact .yield (hle _ _ e)

mutual
theorem VR.mono {φ ψ : Ren} (hle : φ.le ψ) : ∀ {v v' : Value}, VR φ v v' → VR ψ v v'
  | _, _, .any v => .any v
  | _, _, .anyInt n => .anyInt n
  | _, _, .bool _ => .bool _
  | _, _, .int _ _ => .int _ _
  | _, _, .string _ => .string _
  | _, _, .nilPtr => .nilPtr
  | _, _, .ptr e => .ptr (hle _ _ e)
  | _, _, .nilSlice => .nilSlice
  | _, _, .sliceK e => .sliceK (hle _ _ e)
  | _, _, .sliceU e h1 h2 h3 h4 => .sliceU (hle _ _ e) h1 h2 h3 h4
  | _, _, .nilMap => .nilMap
  | _, _, .map e => .map (hle _ _ e)
  | _, _, .nilFunc => .nilFunc
  | _, _, .nilIface => .nilIface
  | _, _, .func hf h1 h2 => .func (hf.mono hle) (VRL.mono hle h1) (VRL.mono hle h2)
  | _, _, .iface h => .iface (VR.mono hle h)
  | _, _, .agg h => .agg (VRL.mono hle h)
  | _, _, .tuple h => .tuple (VRL.mono hle h)
theorem VRL.mono {φ ψ : Ren} (hle : φ.le ψ) : ∀ {l l' : List Value}, VRL φ l l' → VRL ψ l l'
  | _, _, .nil => .nil
  | _, _, .cons h1 h2 => .cons (VR.mono hle h1) (VRL.mono hle h2)
end

theorem VRL.length {φ : Ren} {l l' : List Value} (h : VRL φ l l') : l.length = l'.length := by
  induction l generalizing l' with
  | nil => cases h; rfl
  | cons v l ih => cases h with | cons _ h => simp [ih h]

theorem VRL.get {φ : Ren} {l l' : List Value} (h : VRL φ l l') : ∀ {k : Nat} {v : Value}, l[k]? = some v → ∃ v', l'[k]? = some v' ∧ VR φ v v' := by
  induction l generalizing l' with
  | nil => intro k v e; simp at e
  | cons x l ih =>
    cases h with
    | cons hx hl =>
      intro k v e
      cases k with
      | zero => simp at e; subst e; exact ⟨_, rfl, hx⟩
      | succ k => simpa using ih hl (by simpa using e)

theorem VRL.of_get {φ : Ren} {l l' : List Value} (hn : l.length = l'.length) (h : ∀ (k : Nat) (v : Value), l[k]? = some v → ∃ v', l'[k]? = some v' ∧ VR φ v v') : VRL φ l l' := by
  induction l generalizing l' with
  | nil => cases l' with | nil => exact .nil | cons => simp at hn
  | cons x l ih =>
    cases l' with
    | nil => simp at hn
    | cons y l' =>
      obtain ⟨v', e, hv⟩ := h 0 x rfl
      simp at e; subst e
      exact .cons hv (ih (by simpa using hn) fun k v e => by simpa using h (k + 1) v (by simpa using e))

theorem VRL.append {φ : Ren} {a a' b b' : List Value} (h : VRL φ a a') (k : VRL φ b b') : VRL φ (a ++ b) (a' ++ b') := by
  induction a generalizing a' with
  | nil => cases h; exact k
  | cons x a ih => cases h with | cons hx h => exact .cons hx (ih h)

theorem VRL.take {φ : Ren} {a a' : List Value} (h : VRL φ a a') (n : Nat) : VRL φ (a.take n) (a'.take n) := by
  induction a generalizing a' n with
  | nil => cases h; simp; exact .nil
  | cons x a ih =>
    cases h with
    | cons hx h => cases n with
      | zero => simp; exact .nil
      | succ n => simpa using .cons hx (ih h n)

theorem VRL.drop {φ : Ren} {a a' : List Value} (h : VRL φ a a') (n : Nat) : VRL φ (a.drop n) (a'.drop n) := by
  induction a generalizing a' n with
  | nil => cases h; simp; exact .nil
  | cons x a ih =>
    cases h with
    | cons hx h => cases n with
      | zero => simpa using .cons hx h
      | succ n => simpa using ih h n

def ER (φ : Ren) (e e' : MapEntry) : Prop := VR φ e.key e'.key ∧ VR φ e.val e'.val ∧ e.born = e'.born

inductive ERL (φ : Ren) : List MapEntry → List MapEntry → Prop
  | nil : ERL φ [] []
  | cons {e e' l l'} : ER φ e e' → ERL φ l l' → ERL φ (e :: l) (e' :: l')

theorem ER.mono {φ ψ : Ren} (hle : φ.le ψ) {e e' : MapEntry} (h : ER φ e e') : ER ψ e e' := ⟨h.1.mono hle, h.2.1.mono hle, h.2.2⟩
theorem ERL.mono {φ ψ : Ren} (hle : φ.le ψ) {e e' : List MapEntry} (h : ERL φ e e') : ERL ψ e e' := by
  induction h with
  | nil => exact .nil
  | cons h _ ih => exact .cons (h.mono hle) ih

inductive TgR (φ : Ren) : Target → Target → Prop
  | fn {f f' c c'} : FR φ f f' → VRL φ c.toList c'.toList → TgR φ (.fn f c) (.fn f' c')
  | collected {r i} : φ r = some i → TgR φ (.collected r) (.collected i.blk)

def DR (φ : Ren) (d d' : Deferred) : Prop := TgR φ d.target d'.target ∧ VRL φ d.args.toList d'.args.toList

inductive DRL (φ : Ren) : List Deferred → List Deferred → Prop
  | nil : DRL φ [] []
  | cons {d d' l l'} : DR φ d d' → DRL φ l l' → DRL φ (d :: l) (d' :: l')

theorem TgR.mono {φ ψ : Ren} (hle : φ.le ψ) {d d' : Target} (h : TgR φ d d') : TgR ψ d d' := by
  cases h with
  | fn h k => exact .fn (h.mono hle) (k.mono hle)
  | collected e => exact .collected (hle _ _ e)
theorem DR.mono {φ ψ : Ren} (hle : φ.le ψ) {d d' : Deferred} (h : DR φ d d') : DR ψ d d' := ⟨h.1.mono hle, h.2.mono hle⟩
theorem DRL.mono {φ ψ : Ren} (hle : φ.le ψ) {d d' : List Deferred} (h : DRL φ d d') : DRL ψ d d' := by
  induction h with
  | nil => exact .nil
  | cons h _ ih => exact .cons (h.mono hle) ih
theorem DRL.append {φ : Ren} {a a' b b' : List Deferred} (h : DRL φ a a') (k : DRL φ b b') : DRL φ (a ++ b) (a' ++ b') := by
  induction h with
  | nil => exact k
  | cons h _ ih => exact .cons h ih

def TR (φ : Ren) (t : T Value) (a : Array Value) : Prop := ∀ k v, t.get k = some v → ∃ v', a[k]? = some v' ∧ VR φ v v'
theorem TR.mono {φ ψ : Ren} (hle : φ.le ψ) {t : T Value} {a : Array Value} (h : TR φ t a) : TR ψ t a :=
  fun k v e => let ⟨v', e', hv⟩ := h k v e; ⟨v', e', hv.mono hle⟩

/-- no cell of a row of n cells is frozen -/
def NoFrozen (fr : Nat × Nat) (n : Nat) : Prop := ∀ k, k < n → ¬(fr.1 ≤ k ∧ k < fr.2)

def isRo : AObj → Bool
  | .cells _ _ _ ro _ => ro
  | _ => false

inductive OR (φ : Ren) (w : World) (i : Info) : AObj → Prop
  | cells {c e s ro x arr fr} : w.heap[i.blk]? = some (.cells arr e fr) → arr.size = i.size → i.stride = s → i.base + c.length ≤ i.size →
      (∀ k v, c[k]? = some v → ∃ v', arr[i.base + k]? = some v' ∧ VR φ v v') → (ro = false → NoFrozen fr i.size) → (x = true → i.base = 0 ∧ i.size = c.length) →
      OR φ w i (.cells c e s ro x)
  | map {es clock es'} : w.heap[i.blk]? = some (.map es' clock) → ERL φ es es'.toList → OR φ w i (.map es clock)
  | strIter {s s' pos} : w.heap[i.blk]? = some (.stringIter s' pos) → s'.data.toList = s → i.base = 0 → OR φ w i (.strIter s pos)
  | mapIterN {since seen stepped seen'} : w.heap[i.blk]? = some (.mapIter none since seen' stepped) → seen'.toList = seen → i.base = 0 → OR φ w i (.mapIter none since seen stepped)
  | mapIter {m j since seen stepped seen'} : φ m = some j → w.heap[i.blk]? = some (.mapIter (some j.blk) since seen' stepped) → seen'.toList = seen → i.base = 0 → OR φ w i (.mapIter (some m) since seen stepped)
  | loop {st pending fn nt tmps params assign body ds j arr} : φ ds = some j → arr.size = nt → TR φ tmps arr →
      w.heap[i.blk]? = some (.loop { state := st, pending, fn, tmps := arr, params, assign, body, defers := j.blk }) →
      OR φ w i (.loop st pending fn nt tmps params assign body ds)
  | taken : w.heap[i.blk]? = some (.deferred none) → OR φ w i (.deferred none)
  | deferred {l l'} : w.heap[i.blk]? = some (.deferred (some l')) → DRL φ l l' → OR φ w i (.deferred (some l))

/-- an object depends on its own block alone -/
theorem OR.move {φ ψ : Ren} {w w' : World} {i : Info} {o : AObj} (h : OR φ w i o) (hle : φ.le ψ) (hw : w'.heap[i.blk]? = w.heap[i.blk]?) : OR ψ w' i o := by
  cases h with
  | cells h1 h2 h3 h4 h5 h6 h7 =>
    exact .cells (hw.trans h1) h2 h3 h4 (fun k v e => let ⟨v', e', hv⟩ := h5 k v e; ⟨v', e', hv.mono hle⟩) h6 h7
  | map h1 h2 => exact .map (hw.trans h1) (h2.mono hle)
  | strIter h1 h2 h3 => exact .strIter (hw.trans h1) h2 h3
  | mapIterN h1 h2 h3 => exact .mapIterN (hw.trans h1) h2 h3
  | mapIter h0 h1 h2 h3 => exact .mapIter (hle _ _ h0) (hw.trans h1) h2 h3
  | loop h0 h1 h2 h3 => exact .loop (hle _ _ h0) h1 (h2.mono hle) (hw.trans h3)
  | taken h => exact .taken (hw.trans h)
  | deferred h1 h2 => exact .deferred (hw.trans h1) (h2.mono hle)

/-- how a heap of ours stands to a world; B: the blocks below are not ours to write -/
structure HR (B : Nat) (φ : Ren) (h : AHeap) (w : World) : Prop where
  fresh : ∀ b i, φ b = some i → b < h.next
  live : ∀ b o, h.get b = some o → b < h.next
  inW : ∀ b i, φ b = some i → i.blk < w.heap.size
  obj : ∀ b o i, h.get b = some o → φ b = some i → OR φ w i o
  own : ∀ b o i, h.get b = some o → φ b = some i → isRo o = false → B ≤ i.blk
  sep : ∀ b c o p i j, h.get b = some o → h.get c = some p → φ b = some i → φ c = some j → isRo o = false → b ≠ c → i.blk ≠ j.blk

end Go.Ab
end

section
namespace Go.Ab
open Go.RowKit

/-! ## the trie -/
theorem T.get_eq {α : Type} (t : T α) (k : Nat) :
    t.get k = cond (Nat.beq k 0) t.val (cond (Nat.beq (k % 2) 1) (t.lft.get (k / 2)) (t.rgt.get (k / 2 - 1))) := by
  cases t with
  | leaf =>
    simp only [T.get, T.val, T.lft, T.rgt]
    cases Nat.beq k 0 <;> cases Nat.beq (k % 2) 1 <;> rfl
  | node l v r => rfl

theorem T.get_put {α : Type} (n : Nat) : ∀ (t : T α) (k : Nat) (a : Option α) (k' : Nat), k + 1 < 2 ^ n → (T.put n t k a).get k' = if k' = k then a else t.get k' := by
  induction n with
  | zero => intro t k a k' h; simp at h
  | succ n ih =>
    intro t k a k' h
    rw [T.get_eq t k']
    unfold T.put
    cases h0 : Nat.beq k 0 with
    | true =>
      have : k = 0 := Nat.eq_of_beq_eq_true h0
      subst this
      simp only [cond_true, T.get]
      cases h1 : Nat.beq k' 0 with
      | true => have := Nat.eq_of_beq_eq_true h1; simp [this]
      | false => have := Nat.ne_of_beq_eq_false h1; simp [this]
    | false =>
      have hk := Nat.ne_of_beq_eq_false h0
      rw [Nat.pow_succ] at h
      simp only [cond_false]
      cases h2 : Nat.beq (k % 2) 1 with
      | true =>
        have e2 := Nat.eq_of_beq_eq_true h2
        simp only [cond_true, T.get]
        cases h1 : Nat.beq k' 0 with
        | true => have := Nat.eq_of_beq_eq_true h1; subst this; simp [show (0 : Nat) ≠ k by omega]
        | false =>
          have hk' := Nat.ne_of_beq_eq_false h1
          simp only [cond_false]
          cases h3 : Nat.beq (k' % 2) 1 with
          | true =>
            have e3 := Nat.eq_of_beq_eq_true h3
            simp only [cond_true]
            rw [ih _ _ _ _ (by omega)]
            by_cases e : k' = k
            · simp [e]
            · rw [if_neg e, if_neg (by omega)]
          | false =>
            have e3 := Nat.ne_of_beq_eq_false h3
            simp only [cond_false]
            rw [if_neg (by intro e; subst e; omega)]
      | false =>
        have e2 := Nat.ne_of_beq_eq_false h2
        simp only [cond_false, T.get]
        cases h1 : Nat.beq k' 0 with
        | true => have := Nat.eq_of_beq_eq_true h1; subst this; simp [show (0 : Nat) ≠ k by omega]
        | false =>
          have hk' := Nat.ne_of_beq_eq_false h1
          simp only [cond_false]
          cases h3 : Nat.beq (k' % 2) 1 with
          | true =>
            have e3 := Nat.eq_of_beq_eq_true h3
            simp only [cond_true]
            rw [if_neg (by intro e; subst e; omega)]
          | false =>
            have e3 := Nat.ne_of_beq_eq_false h3
            simp only [cond_false]
            rw [ih _ _ _ _ (by omega)]
            by_cases e : k' = k
            · simp [e]
            · rw [if_neg e, if_neg (by omega)]

theorem T.get_put' {α : Type} (t : T α) (k : Nat) (a : Option α) (k' : Nat) (h : k < bound) : (T.put depth t k a).get k' = if k' = k then a else t.get k' :=
  T.get_put depth t k a k' (by unfold bound at h; unfold depth; omega)

theorem TR.put {φ : Ren} {t : T Value} {a : Array Value} (h : TR φ t a) {d : Nat} {v v' : Value} (hd : d < bound) (hs : d < a.size) (hv : VR φ v v') :
    TR φ (T.put depth t d (some v)) (a.setIfInBounds d v') := by
  intro k u e
  rw [T.get_put' _ _ _ _ hd] at e
  by_cases hk : k = d
  · subst hk
    simp only [if_true, Option.some.injEq] at e
    subst e
    exact ⟨v', by simp [hs], hv⟩
  · rw [if_neg hk] at e
    obtain ⟨u', e', hu⟩ := h k u e
    exact ⟨u', by rw [Array.getElem?_setIfInBounds_ne (by omega)]; exact e', hu⟩

/-! ## the heap -/
theorem AHeap.get_set (h : AHeap) (b : Nat) (o : AObj) (c : Nat) (hb : b < bound) : (h.set b o).get c = if c = b then some o else h.get c := by
  unfold AHeap.set AHeap.get; exact T.get_put' _ _ _ _ hb
theorem AHeap.get_kill (h : AHeap) (b : Nat) (c : Nat) (hb : b < bound) : (h.kill b).get c = if c = b then none else h.get c := by
  unfold AHeap.kill AHeap.get; exact T.get_put' _ _ _ _ hb
theorem AHeap.new_eq {h h' : AHeap} {o : AObj} {b : Nat} (e : h.new o = some (b, h')) : b = h.next ∧ h.next < bound ∧ h'.next = h.next + 1 ∧ ∀ c, h'.get c = if c = h.next then some o else h.get c := by
  unfold AHeap.new at e
  cases hb : Nat.blt h.next bound with
  | false => rw [hb] at e; simp at e
  | true =>
    rw [hb] at e
    simp only [cond_true, Option.some.injEq, Prod.mk.injEq] at e
    obtain ⟨rfl, rfl⟩ := e
    have : h.next < bound := by simpa [Nat.blt_eq] using hb
    exact ⟨rfl, this, rfl, fun c => T.get_put' _ _ _ _ this⟩

/-! ## the world -/
theorem add_none (b o n : Nat) : Addr.add ⟨b, o, none⟩ n = ⟨b, o + n, none⟩ := by
  unfold Addr.add
  by_cases h : n = 0
  · subst h; simp
  · rw [if_neg h]

variable {P : Program}

theorem cell_of {w : World} {b o : Nat} {arr : Array Value} {e : TypeId} {fr : Nat × Nat} (h : w.heap[b]? = some (.cells arr e fr)) : w.cell? ⟨b, o, none⟩ = arr[o]? := by
  simp [World.cell?, h]

theorem frozen_of {w : World} {b o : Nat} {arr : Array Value} {e : TypeId} {fr : Nat × Nat} (h : w.heap[b]? = some (.cells arr e fr)) : w.frozen? ⟨b, o, none⟩ = (decide (fr.1 ≤ o) && decide (o < fr.2)) := by
  simp [World.frozen?, h]

theorem run_bind {α β : Type} (x : Sem α) (f : α → Sem β) (w : World) :
    (x >>= f).run P w = match x.run P w with | .ok a w => (f a).run P w | .halt h w => .halt h w := by
  rw [Sem.run_bind]
  cases x.run P w <;> rfl

theorem run_bind_ok {α β : Type} {x : Sem α} {f : α → Sem β} {w w' : World} {a : α} (h : x.run P w = .ok a w') : (x >>= f).run P w = (f a).run P w' := by
  rw [run_bind, h]
theorem run_pure {α : Type} (a : α) (w : World) : (pure a : Sem α).run P w = .ok a w := rfl

theorem run_load {w : World} {a : Addr} {v : Value} (h : w.cell? a = some v) : (load a).run P w = .ok v w := by
  simp [load, Sem.run, h]

theorem run_loadCellsFrom {w : World} {b o : Nat} {arr : Array Value} {e : TypeId} {fr : Nat × Nat} (h : w.heap[b]? = some (.cells arr e fr)) :
    ∀ (n i : Nat) (acc : Array Value), o + i + n ≤ arr.size → (loadCellsFrom ⟨b, o, none⟩ i n acc).run P w = .ok (acc ++ ((arr.toList.drop (o + i)).take n).toArray) w := by
  intro n
  induction n with
  | zero => intro i acc _; simp [loadCellsFrom]
  | succ n ih =>
    intro i acc hn
    unfold loadCellsFrom
    have hlt : o + i < arr.size := by omega
    rw [run_bind_ok (run_load (v := arr[o + i]) (by rw [add_none, cell_of h]; simp [hlt])), ih (i + 1) _ (by omega)]
    congr 1
    rw [show o + (i + 1) = o + i + 1 by omega]
    have : arr.toList.drop (o + i) = arr[o + i] :: arr.toList.drop (o + i + 1) := by
      rw [List.drop_eq_getElem_cons (by simpa using hlt)]; simp
    rw [this, List.take_succ_cons]
    simp

theorem run_loadCells {w : World} {b o n : Nat} {arr : Array Value} {e : TypeId} {fr : Nat × Nat} (h : w.heap[b]? = some (.cells arr e fr)) (hn : o + n ≤ arr.size) :
    (loadCells ⟨b, o, none⟩ n).run P w = .ok ((arr.toList.drop o).take n).toArray w := by
  have := run_loadCellsFrom (P := P) h n 0 #[] (by omega)
  simpa [loadCells] using this

def over (arr : Array Value) (o : Nat) (vs : List Value) : Array Value := ⟨arr.toList.take o ++ vs ++ arr.toList.drop (o + vs.length)⟩

theorem over_size {arr : Array Value} {o : Nat} {vs : List Value} (h : o + vs.length ≤ arr.size) : (over arr o vs).size = arr.size := by
  unfold over; simp; omega

theorem over_nil (arr : Array Value) (o : Nat) : over arr o [] = arr := by
  unfold over; simp

theorem over_cons {arr : Array Value} {o : Nat} {v : Value} {vs : List Value} (h : o < arr.size) : over (arr.setIfInBounds o v) (o + 1) vs = over arr o (v :: vs) := by
  have hs : o < arr.toList.length := by simpa using h
  unfold over
  simp only [Array.toList_setIfInBounds]
  congr 1
  rw [List.take_set, List.take_succ_eq_append_getElem hs, List.drop_set]
  rw [List.set_append]
  have : (arr.toList.take o).length = o := by simp; omega
  simp [this, show o + 1 + vs.length = o + (vs.length + 1) by omega]

theorem over_get {arr : Array Value} {o : Nat} {vs : List Value} (h : o + vs.length ≤ arr.size) (k : Nat) :
    (over arr o vs)[k]? = if k < o then arr[k]? else if k < o + vs.length then vs[k - o]? else arr[k]? := by
  have hl : (arr.toList.take o).length = o := by simp; omega
  unfold over
  rw [← Array.getElem?_toList, List.append_assoc]
  by_cases h1 : k < o
  · rw [if_pos h1, List.getElem?_append_left (by omega), List.getElem?_take_of_lt h1, Array.getElem?_toList]
  · rw [if_neg h1, List.getElem?_append_right (by omega), hl]
    by_cases h2 : k < o + vs.length
    · rw [if_pos h2, List.getElem?_append_left (by omega)]
    · rw [if_neg h2, List.getElem?_append_right (by omega), List.getElem?_drop, Array.getElem?_toList]
      congr 1; omega

theorem run_store {w : World} {b o : Nat} {arr : Array Value} {e : TypeId} {fr : Nat × Nat} {v : Value} (h : w.heap[b]? = some (.cells arr e fr)) (ho : o < arr.size)
    (hf : ¬(fr.1 ≤ o ∧ o < fr.2)) (hv : ∀ c, v ≠ .agg c ∧ v ≠ .tuple c) :
    (store ⟨b, o, none⟩ v).run P w = .ok () { w with heap := w.heap.setIfInBounds b (.cells (arr.setIfInBounds o v) e fr) } := by
  have hc : w.cell? ⟨b, o, none⟩ = some arr[o] := by rw [cell_of h]; simp [ho]
  have hz : w.frozen? ⟨b, o, none⟩ = false := by
    rw [frozen_of h]; simp only [Bool.and_eq_false_iff, decide_eq_false_iff_not]; omega
  have hb : b < w.heap.size := by
    rcases Nat.lt_or_ge b w.heap.size with h' | h'
    · exact h'
    · simp [Array.getElem?_eq_none h'] at h
  have hg : w.heap[b] = .cells arr e fr := by rw [Array.getElem?_eq_getElem hb] at h; simpa using h
  have key : w.setCell ⟨b, o, none⟩ v = { w with heap := w.heap.setIfInBounds b (.cells (arr.setIfInBounds o v) e fr) } := by
    unfold World.setCell
    congr 1
    apply Array.ext_getElem?
    intro k
    rw [Array.getElem?_modify, Array.getElem?_setIfInBounds]
    by_cases hk : b = k
    · subst hk; simp [hb, hg]
    · simp [hk]
  unfold store
  cases v <;> first
    | (exact absurd rfl (hv _).1)
    | (exact absurd rfl (hv _).2)
    | (simp only [Sem.run, hc, hz]; simp only [key, Bool.false_eq_true, if_false])

theorem run_storeCells {b o : Nat} {e : TypeId} {fr : Nat × Nat} (vs : List Value) : ∀ (w : World) (arr : Array Value) (i : Nat), w.heap[b]? = some (.cells arr e fr) → o + i + vs.length ≤ arr.size →
    NoFrozen fr arr.size → (∀ v ∈ vs, ∀ c, v ≠ .agg c ∧ v ≠ .tuple c) →
    (storeCells ⟨b, o, none⟩ vs i).run P w = .ok () { w with heap := w.heap.setIfInBounds b (.cells (over arr (o + i) vs) e fr) } := by
  induction vs with
  | nil =>
    intro w arr i h hn hf hv
    unfold storeCells
    rw [run_pure, over_nil]
    have : w.heap.setIfInBounds b (.cells arr e fr) = w.heap := by
      apply Array.ext_getElem?
      intro k
      rw [Array.getElem?_setIfInBounds]
      by_cases hk : b = k
      · subst hk
        by_cases hb : b < w.heap.size
        · simp [hb]; rw [Array.getElem?_eq_getElem hb] at h; simpa using h.symm
        · simp [hb]
      · simp [hk]
    rw [this]
  | cons v vs ih =>
    intro w arr i h hn hf hv
    simp only [List.length_cons] at hn
    unfold storeCells
    have hb : b < w.heap.size := by
      rcases Nat.lt_or_ge b w.heap.size with h' | h'
      · exact h'
      · simp [Array.getElem?_eq_none h'] at h
    rw [add_none, run_bind_ok (run_store h (by omega) (hf _ (by omega)) (hv v (by simp)))]
    rw [ih _ (arr.setIfInBounds (o + i) v) (i + 1) (by simp [hb]) (by simp; omega) (by simpa using hf) (fun u hu => hv u (by simp [hu]))]
    rw [show o + (i + 1) = o + i + 1 by omega, over_cons (by omega)]
    congr 2
    apply Array.ext_getElem?
    intro k
    simp only [Array.getElem?_setIfInBounds, Array.size_setIfInBounds]
    by_cases hk : b = k <;> simp [hk]

end Go.Ab
end

section
namespace Go.Ab
open Go.RowKit
variable {P : Program} {B : Nat} {φ : Ren} {h h' : AHeap} {w w' : World}

theorem VR.cellOk {v v' : Value} (hv : VR φ v v') (hc : cellOk v = true) : ∀ c, v' ≠ .agg c ∧ v' ≠ .tuple c := by
  intro c
  cases hv <;> first | (simp [Ab.cellOk, Ab.any] at hc; done) | (constructor <;> (intro e; cases e))

theorem VRL.cellOk {l l' : List Value} (hl : VRL φ l l') (hc : l.all Ab.cellOk = true) : ∀ v ∈ l', ∀ c, v ≠ .agg c ∧ v ≠ .tuple c := by
  induction l generalizing l' with
  | nil => cases hl; intro v hv; simp at hv
  | cons x l ih =>
    cases hl with
    | cons hx hl =>
      simp only [List.all_cons, Bool.and_eq_true] at hc
      intro v hv
      rcases List.mem_cons.1 hv with rfl | hv
      · exact hx.cellOk hc.1
      · exact ih hl hc.2 v hv

theorem splice_eq : ∀ (n : Nat) (vs c c' : List Value), splice n vs c = some c' → (vs ≠ [] → n + vs.length ≤ c.length) ∧ c'.length = c.length ∧
    ∀ k : Nat, c'[k]? = if k < n then c[k]? else if k < n + vs.length then vs[k - n]? else c[k]? := by
  intro n vs c
  induction c generalizing n vs with
  | nil =>
    intro c' e
    cases vs with
    | nil => cases n <;> (simp [splice] at e; subst e; simp)
    | cons v vs => cases n <;> simp [splice] at e
  | cons x c ih =>
    intro c' e
    cases vs with
    | nil =>
      have e' : c' = x :: c := by cases n <;> (simp [splice] at e; exact e.symm)
      subst e'
      refine ⟨fun h => absurd rfl h, rfl, fun k => ?_⟩
      by_cases h : k < n <;> simp [h]
    | cons v vs =>
      cases n with
      | zero =>
        simp only [splice, Option.map_eq_some_iff] at e
        obtain ⟨d, hd, rfl⟩ := e
        obtain ⟨h1, h2, h3⟩ := ih 0 vs d hd
        refine ⟨fun _ => by cases vs with | nil => simp | cons _ _ => simpa using h1 (by simp), by simp [h2], fun k => ?_⟩
        cases k with
        | zero => simp
        | succ k =>
          have := h3 k
          simp at this ⊢
          rw [this]
      | succ n =>
        simp only [splice, Option.map_eq_some_iff] at e
        obtain ⟨d, hd, rfl⟩ := e
        obtain ⟨h1, h2, h3⟩ := ih n (v :: vs) d hd
        refine ⟨fun _ => by have := h1 (by simp); simp at this ⊢; omega, by simp [h2], fun k => ?_⟩
        cases k with
        | zero => simp
        | succ k =>
          have := h3 k
          simp only [List.getElem?_cons_succ, this, List.length_cons, Nat.add_lt_add_iff_right, Nat.add_sub_add_right, show n + 1 + (vs.length + 1) = n + (vs.length + 1) + 1 by omega]


theorem heap_lt {b : Nat} {o : Obj} (h : w.heap[b]? = some o) : b < w.heap.size := by
  rcases Nat.lt_or_ge b w.heap.size with h' | h'
  · exact h'
  · simp [Array.getElem?_eq_none h'] at h

theorem below_set {b : Nat} (o : Obj) (hb : B ≤ b) : Below B w { w with heap := w.heap.setIfInBounds b o } :=
  ⟨rfl, rfl, rfl, by simp, fun k hk => by simp only; rw [Array.getElem?_setIfInBounds_ne (by omega)]⟩

theorem below_push (o : Obj) (hb : B ≤ w.heap.size) : Below B w { w with heap := w.heap.push o } :=
  ⟨rfl, rfl, rfl, by simp, fun k hk => by simp only; rw [Array.getElem?_push_lt (by omega), Array.getElem?_eq_getElem (by omega)]⟩

/-- an object of ours is written anew in its place -/
theorem HR.put (H : HR B φ h w) {b : Nat} {o o' : AObj} {i : Info} {O : Obj} (hb : h.get b = some o) (hi : φ b = some i) (hro : isRo o = false)
    (hn : h.next ≤ bound) (ho : OR φ { w with heap := w.heap.setIfInBounds i.blk O } i o') :
    HR B φ (h.set b o') { w with heap := w.heap.setIfInBounds i.blk O } := by
  have hbb : b < bound := Nat.lt_of_lt_of_le (H.live _ _ hb) hn
  have get : ∀ c, (h.set b o').get c = if c = b then some o' else h.get c := fun c => AHeap.get_set h b o' c hbb
  refine ⟨H.fresh, ?_, ?_, ?_, ?_, ?_⟩
  · intro c p e
    rw [get] at e
    by_cases hc : c = b
    · subst hc; exact H.live _ _ hb
    · rw [if_neg hc] at e; exact H.live _ _ e
  · intro c j e; simp; exact H.inW _ _ e
  · intro c p j e ej
    rw [get] at e
    by_cases hc : c = b
    · subst hc
      rw [if_pos rfl] at e
      cases e
      rw [hi] at ej; cases ej
      exact ho
    · rw [if_neg hc] at e
      refine (H.obj _ _ _ e ej).move (Ren.le.refl φ) ?_
      simp only
      rw [Array.getElem?_setIfInBounds_ne (H.sep _ _ _ _ _ _ hb e hi ej hro (Ne.symm hc))]
  · intro c p j e ej hp
    rw [get] at e
    by_cases hc : c = b
    · subst hc; exact H.own _ _ _ hb ej hro
    · rw [if_neg hc] at e; exact H.own _ _ _ e ej hp
  · intro c d p q j k e f ej ek hp hcd
    rw [get] at e f
    by_cases hc : c = b
    · subst hc
      rw [if_neg (Ne.symm hcd)] at f
      exact H.sep _ _ _ _ _ _ hb f ej ek hro hcd
    · rw [if_neg hc] at e
      by_cases hd : d = b
      · subst hd
        rw [hi] at ek; cases ek
        exact H.sep _ _ _ _ _ _ e hb ej hi hp hcd
      · rw [if_neg hd] at f
        exact H.sep _ _ _ _ _ _ e f ej ek hp hcd

/-- a block that is read only from now on -/
theorem HR.kill (H : HR B φ h w) {b : Nat} (hb : b < bound) : HR B φ (h.kill b) w := by
  have get : ∀ c o, (h.kill b).get c = some o → h.get c = some o := by
    intro c o e
    rw [AHeap.get_kill h b c hb] at e
    by_cases hc : c = b
    · rw [if_pos hc] at e; cases e
    · rwa [if_neg hc] at e
  exact ⟨H.fresh, fun c o e => H.live c o (get _ _ e), H.inW, fun c o i e ei => H.obj c o i (get _ _ e) ei, fun c o i e ei hr => H.own c o i (get _ _ e) ei hr,
    fun c d o p i j e f ei ej hr hcd => H.sep c d o p i j (get _ _ e) (get _ _ f) ei ej hr hcd⟩

/-- more may happen in the world, above what is ours -/
theorem HR.world (H : HR B φ h w) (hs : w.heap.size ≤ w'.heap.size) (hk : ∀ b i, φ b = some i → w'.heap[i.blk]? = w.heap[i.blk]?) : HR B φ h w' :=
  ⟨H.fresh, H.live, fun b i e => Nat.lt_of_lt_of_le (H.inW b i e) hs, fun b o i e ei => (H.obj b o i e ei).move (Ren.le.refl φ) (hk b i ei), H.own, H.sep⟩

def Ren.add (φ : Ren) (b : Nat) (i : Info) : Ren := fun c => if c = b then some i else φ c

theorem Ren.le_add {b : Nat} {i : Info} (hb : φ b = none) : φ.le (φ.add b i) := by
  intro c j e
  unfold Ren.add
  by_cases hc : c = b
  · subst hc; rw [hb] at e; cases e
  · rw [if_neg hc]; exact e

theorem Ren.add_self (b : Nat) (i : Info) : (φ.add b i) b = some i := by simp [Ren.add]

/-- a new block -/
theorem HR.push (H : HR B φ h w) {o : AObj} {b : Nat} {O : Obj} {i : Info} (hnew : h.new o = some (b, h')) (hB : B ≤ w.heap.size) (hib : i.blk = w.heap.size)
    (ho : OR (φ.add b i) { w with heap := w.heap.push O } i o) :
    HR B (φ.add b i) h' { w with heap := w.heap.push O } ∧ φ.le (φ.add b i) ∧ h'.next = h.next + 1 := by
  obtain ⟨rfl, hlt, hnx, get⟩ := AHeap.new_eq hnew
  have hfree : φ h.next = none := by
    cases e : φ h.next with
    | none => rfl
    | some j => exact absurd (H.fresh _ _ e) (Nat.lt_irrefl _)
  have hdead : ∀ o, h.get h.next ≠ some o := fun o e => Nat.lt_irrefl _ (H.live _ _ e)
  have hle := Ren.le_add (φ := φ) (i := i) hfree
  have old : ∀ c j, (φ.add h.next i) c = some j → c ≠ h.next → φ c = some j := by
    intro c j e hc; unfold Ren.add at e; rwa [if_neg hc] at e
  refine ⟨⟨?_, ?_, ?_, ?_, ?_, ?_⟩, hle, hnx⟩
  · intro c j e
    rw [hnx]
    by_cases hc : c = h.next
    · omega
    · exact Nat.lt_succ_of_lt (H.fresh _ _ (old _ _ e hc))
  · intro c p e
    rw [get] at e; rw [hnx]
    by_cases hc : c = h.next
    · omega
    · rw [if_neg hc] at e; exact Nat.lt_succ_of_lt (H.live _ _ e)
  · intro c j e
    simp only [Array.size_push]
    by_cases hc : c = h.next
    · subst hc; rw [Ren.add_self] at e; cases e; omega
    · exact Nat.lt_succ_of_lt (H.inW _ _ (old _ _ e hc))
  · intro c p j e ej
    rw [get] at e
    by_cases hc : c = h.next
    · subst hc
      rw [if_pos rfl] at e; cases e
      rw [Ren.add_self] at ej; cases ej
      exact ho
    · rw [if_neg hc] at e
      have ej' := old _ _ ej hc
      refine (H.obj _ _ _ e ej').move hle ?_
      have := H.inW _ _ ej'
      simp only
      rw [Array.getElem?_push_lt this, Array.getElem?_eq_getElem this]
  · intro c p j e ej hp
    rw [get] at e
    by_cases hc : c = h.next
    · subst hc; rw [Ren.add_self] at ej; cases ej; omega
    · rw [if_neg hc] at e; exact H.own _ _ _ e (old _ _ ej hc) hp
  · intro c d p q j k e f ej ek hp hcd
    rw [get] at e f
    by_cases hc : c = h.next
    · subst hc
      rw [Ren.add_self] at ej; cases ej
      have hd : d ≠ h.next := Ne.symm hcd
      have := H.inW _ _ (old _ _ ek hd)
      omega
    · rw [if_neg hc] at e
      have ej' := old _ _ ej hc
      by_cases hd : d = h.next
      · subst hd
        rw [Ren.add_self] at ek; cases ek
        have := H.inW _ _ ej'
        omega
      · rw [if_neg hd] at f
        exact H.sep _ _ _ _ _ _ e f ej' (old _ _ ek hd) hp hcd


/-- a block that was made before, and has an address only now -/
theorem HR.bind (H : HR B φ h w) {o : AObj} {b : Nat} {O : Obj} {i : Info} (hb : h.get b = some o) (hfree : φ b = none) (hB : B ≤ w.heap.size) (hib : i.blk = w.heap.size)
    (ho : OR (φ.add b i) { w with heap := w.heap.push O } i o) :
    HR B (φ.add b i) h { w with heap := w.heap.push O } ∧ φ.le (φ.add b i) := by
  have hle := Ren.le_add (φ := φ) (i := i) hfree
  have old : ∀ c j, (φ.add b i) c = some j → c ≠ b → φ c = some j := by
    intro c j e hc; unfold Ren.add at e; rwa [if_neg hc] at e
  refine ⟨⟨?_, H.live, ?_, ?_, ?_, ?_⟩, hle⟩
  · intro c j e
    by_cases hc : c = b
    · subst hc; exact H.live _ _ hb
    · exact H.fresh _ _ (old _ _ e hc)
  · intro c j e
    simp only [Array.size_push]
    by_cases hc : c = b
    · subst hc; rw [Ren.add_self] at e; cases e; omega
    · exact Nat.lt_succ_of_lt (H.inW _ _ (old _ _ e hc))
  · intro c p j e ej
    by_cases hc : c = b
    · subst hc
      rw [hb] at e; cases e
      rw [Ren.add_self] at ej; cases ej
      exact ho
    · have ej' := old _ _ ej hc
      refine (H.obj _ _ _ e ej').move hle ?_
      have := H.inW _ _ ej'
      simp only
      rw [Array.getElem?_push_lt this, Array.getElem?_eq_getElem this]
  · intro c p j e ej hp
    by_cases hc : c = b
    · subst hc; rw [Ren.add_self] at ej; cases ej; omega
    · exact H.own _ _ _ e (old _ _ ej hc) hp
  · intro c d p q j k e f ej ek hp hcd
    by_cases hc : c = b
    · subst hc
      rw [Ren.add_self] at ej; cases ej
      have := H.inW _ _ (old _ _ ek (Ne.symm hcd))
      omega
    · have ej' := old _ _ ej hc
      by_cases hd : d = b
      · subst hd
        rw [Ren.add_self] at ek; cases ek
        have := H.inW _ _ ej'
        omega
      · exact H.sep _ _ _ _ _ _ e f ej' (old _ _ ek hd) hp hcd

theorem loadN_inv {b off n : Nat} {l : List Value} (e : loadN h b off n = some l) : ∃ c e' s ro x, h.get b = some (.cells c e' s ro x) ∧ l = (c.drop off).take n ∧ off + n ≤ c.length ∨ (∃ c e' s ro x, h.get b = some (.cells c e' s ro x) ∧ n = 0 ∧ l = []) := by
  unfold loadN at e
  split at e
  · rename_i c e' s ro x hb
    simp only at e
    cases hn : Nat.beq ((c.drop off).take n).length n with
    | false => rw [hn] at e; simp at e
    | true =>
      rw [hn] at e
      simp only [cond_true, Option.some.injEq] at e
      subst e
      have hn := Nat.eq_of_beq_eq_true hn
      simp only [List.length_take, List.length_drop] at hn
      by_cases h0 : n = 0
      · subst h0; exact ⟨c, e', s, ro, x, .inr ⟨c, e', s, ro, x, hb, rfl, by simp⟩⟩
      · exact ⟨c, e', s, ro, x, .inl ⟨hb, rfl, by omega⟩⟩
  · simp at e

theorem OR.read {i : Info} {c : List Value} {e : TypeId} {s : Nat} {ro x : Bool} (ho : OR φ w i (.cells c e s ro x)) {off n : Nat} (hn : off + n ≤ c.length) :
    ∃ arr fr, w.heap[i.blk]? = some (.cells arr e fr) ∧ i.base + off + n ≤ arr.size ∧ VRL φ ((c.drop off).take n) ((arr.toList.drop (i.base + off)).take n) := by
  cases ho with
  | cells h1 h2 h3 h4 h5 h6 h7 =>
    rename_i arr fr
    refine ⟨arr, fr, h1, by omega, VRL.of_get ?_ ?_⟩
    · simp; omega
    · intro k v e
      rw [List.getElem?_take] at e
      by_cases hk : k < n
      · rw [if_pos hk, List.getElem?_drop] at e
        obtain ⟨v', e', hv⟩ := h5 _ _ e
        refine ⟨v', ?_, hv⟩
        rw [List.getElem?_take, if_pos hk, List.getElem?_drop, Array.getElem?_toList, show i.base + off + k = i.base + (off + k) by omega]
        exact e'
      · rw [if_neg hk] at e; cases e

theorem HR.loadN (H : HR B φ h w) {b off n : Nat} {l : List Value} {i : Info} (e : Ab.loadN h b off n = some l) (hi : φ b = some i) :
    ∃ l' : List Value, (loadCells ⟨i.blk, i.base + off, none⟩ n).run P w = .ok l'.toArray w ∧ VRL φ l l' := by
  obtain ⟨c, e', s, ro, x, ⟨hb, rfl, hn⟩ | ⟨_, _, _, _, _, hb, rfl, rfl⟩⟩ := loadN_inv e
  · obtain ⟨arr, fr, h1, h2, h3⟩ := (H.obj _ _ _ hb hi).read hn
    exact ⟨_, run_loadCells h1 h2, h3⟩
  · exact ⟨[], by simp [loadCells, loadCellsFrom], .nil⟩

theorem HR.storeN (H : HR B φ h w) (hn : h.next ≤ bound) {b off : Nat} {vs vs' : List Value} {i : Info} (e : Ab.storeN h b off vs = some h') (hi : φ b = some i) (hv : VRL φ vs vs') :
    ∃ w', (storeCells ⟨i.blk, i.base + off, none⟩ vs').run P w = .ok () w' ∧ HR B φ h' w' ∧ Below B w w' ∧ h'.next = h.next ∧ w'.heap.size = w.heap.size := by
  unfold Ab.storeN at e
  split at e
  · rename_i c e' s x hb
    cases hc : vs.all Ab.cellOk with
    | false => rw [hc] at e; simp at e
    | true =>
      rw [hc] at e
      simp only [cond_true, Option.map_eq_some_iff] at e
      obtain ⟨c', hs, rfl⟩ := e
      obtain ⟨s1, s2, s3⟩ := splice_eq _ _ _ _ hs
      have ho := H.obj _ _ _ hb hi
      have hown := H.own _ _ _ hb hi rfl
      have hlen := hv.length
      cases ho with
      | cells h1 h2 h3 h4 h5 h6 h7 =>
        rename_i arr fr
        by_cases h0 : vs = []
        · subst h0
          cases hv
          refine ⟨w, by simp [storeCells], ?_, Below.refl _ _, rfl, rfl⟩
          have hcc : c' = c := by
            apply List.ext_getElem?
            intro k; rw [s3]; by_cases hk : k < off <;> simp [hk]
          subst hcc
          refine ⟨H.fresh, ?_, H.inW, ?_, ?_, ?_⟩
          all_goals (have hbb := Nat.lt_of_lt_of_le (H.live _ _ hb) hn)
          all_goals (have gg : ∀ d, (h.set b (.cells c' e' s false x)).get d = h.get d := fun d => by rw [AHeap.get_set _ _ _ _ hbb]; by_cases hd : d = b <;> simp [hd, hb])
          · intro d o e; rw [gg] at e; exact H.live d o e
          · intro d o j e; rw [gg] at e; exact H.obj d o j e
          · intro d o j e; rw [gg] at e; exact H.own d o j e
          · intro d f o p j k e g; rw [gg] at e g; exact H.sep d f o p j k e g
        · have hfit := s1 h0
          refine ⟨_, run_storeCells vs' w arr 0 h1 (by omega) (by rw [h2]; exact h6 rfl) (hv.cellOk hc), ?_, below_set _ hown, rfl, by simp⟩
          rw [Nat.add_zero]
          refine H.put hb hi rfl hn ?_
          have hb' := heap_lt h1
          have hov : (over arr (i.base + off) vs').size = arr.size := over_size (by omega)
          refine .cells (arr := over arr (i.base + off) vs') (fr := fr) (by simp [hb']) (by omega) h3 (by omega) ?_ h6 (fun hx => by have := h7 hx; omega)
          intro k v e
          rw [s3] at e
          rw [over_get (by omega)]
          by_cases k1 : k < off
          · rw [if_pos k1] at e; rw [if_pos (by omega)]; exact h5 _ _ e
          · rw [if_neg k1] at e; rw [if_neg (by omega)]
            by_cases k2 : k < off + vs.length
            · rw [if_pos k2] at e; rw [if_pos (by omega), show i.base + k - (i.base + off) = k - off by omega]
              exact hv.get e
            · rw [if_neg k2] at e; rw [if_neg (by omega)]; exact h5 _ _ e
  · simp at e

end Go.Ab
end

section
namespace Go.Ab
open Go.RowKit
variable {P : Program} {B : Nat} {φ : Ren} {h h' : AHeap} {w w' : World}

/-! ## types -/
theorem run_und {t : TypeId} {d : TypeDesc} (e : P.underlying t = some d) : (underlying t).run P w = .ok d w := by
  unfold underlying program
  simp [Sem.run, e]

theorem info_of_size {t : TypeId} {n : Nat} (e : size? P t = some n) : ∃ i, P.info? t = some i ∧ i.size = n := by
  unfold size? at e
  simpa [Option.map_eq_some_iff] using e

theorem run_info {t : TypeId} {i : TypeInfo} (e : P.info? t = some i) : (typeInfo t).run P w = .ok i w := by
  unfold typeInfo program
  simp [Sem.run, e]

theorem run_size {t : TypeId} {n : Nat} (e : size? P t = some n) : (sizeOf t).run P w = .ok n w := by
  obtain ⟨i, hi, rfl⟩ := info_of_size e
  unfold sizeOf
  rw [run_bind_ok (run_info hi)]; rfl

theorem constCell_vr {v : Value} (e : constCell v = true) : VR φ v v := by
  unfold constCell at e
  split at e
  all_goals first | (exact .bool _) | (exact .int _ _) | (exact .string _) | (exact .nilPtr) | (exact .nilSlice) | (exact .nilMap) | (exact .nilFunc) | (exact .nilIface) | (cases e)

theorem constOk_vr {v : Value} (e : constOk v = true) : VR φ v v := by
  unfold constOk at e
  split at e
  · rename_i cs
    refine .agg ?_
    generalize cs.toList = l at e
    induction l with
    | nil => exact .nil
    | cons x l ih =>
      simp only [List.all_cons, Bool.and_eq_true] at e
      exact .cons (constCell_vr e.1) (ih e.2)
  · exact constCell_vr e

theorem zero_inv {t : TypeId} {z : Value} (e : zero? P t = some z) : constOk z = true ∧ ∀ w, (zeroValue t).run P w = .ok z w := by
  unfold zero? at e
  simp only [Option.bind_eq_some_iff] at e
  obtain ⟨i, hi, z', hz, e⟩ := e
  cases hc : constOk z' with
  | false => rw [hc] at e; cases e
  | true =>
    rw [hc] at e; cases e
    refine ⟨hc, fun w => ?_⟩
    unfold zeroValue
    rw [run_bind_ok (run_info hi), hz]; rfl
theorem run_zero {t : TypeId} {z : Value} (e : zero? P t = some z) : (zeroValue t).run P w = .ok z w := (zero_inv e).2 w
theorem zero_vr {t : TypeId} {z : Value} (e : zero? P t = some z) : VR φ z z := constOk_vr (zero_inv e).1

theorem run_agg {t : TypeId} {b : Bool} (e : agg? P t = some b) : (isAgg t).run P w = .ok b w := by
  unfold agg? at e
  simp only [Option.map_eq_some_iff] at e
  obtain ⟨d, hd, rfl⟩ := e
  unfold isAgg
  rw [run_bind_ok (run_und hd)]
  cases d <;> rfl

/-! ## related values have one shape -/
theorem VR.int_inv {k : IntKind} {n : Int} {v : Value} (hv : VR φ (.int k n) v) : v = .int k n := by cases hv; rfl
theorem VR.bool_inv {b : Bool} {v : Value} (hv : VR φ (.bool b) v) : v = .bool b := by cases hv; rfl
theorem VR.str_inv {b : ByteArray} {v : Value} (hv : VR φ (.string b) v) : v = .string b := by cases hv; rfl
theorem VR.ptr_inv {a : Addr} {v : Value} (hv : VR φ (.pointer (some a)) v) : ∃ i, φ a.block = some i ∧ a = ⟨a.block, a.off, none⟩ ∧ v = .pointer (some ⟨i.blk, i.base + a.off, none⟩) := by
  cases hv with
  | ptr e => exact ⟨_, e, rfl, rfl⟩
theorem VR.agg_inv {c : Array Value} {v : Value} (hv : VR φ (.agg c) v) : ∃ c' : Array Value, v = .agg c' ∧ VRL φ c.toList c'.toList := by
  cases hv with
  | agg e => exact ⟨_, rfl, e⟩
theorem VR.tup_inv {c : Array Value} {v : Value} (hv : VR φ (.tuple c) v) : ∃ c' : Array Value, v = .tuple c' ∧ VRL φ c.toList c'.toList := by
  cases hv with
  | tuple e => exact ⟨_, rfl, e⟩
theorem VR.iface_inv {t : TypeId} {u v : Value} (hv : VR φ (.iface t u) v) : ∃ u', v = .iface t u' ∧ VR φ u u' := by
  cases hv with
  | iface e => exact ⟨_, rfl, e⟩
theorem VR.nilPtr_inv {v : Value} (hv : VR φ (.pointer none) v) : v = .pointer none := by cases hv; rfl
theorem VR.nilIface_inv {v : Value} (hv : VR φ .nilIface v) : v = .nilIface := by cases hv; rfl
theorem VR.nilFunc_inv {v : Value} (hv : VR φ .nilFunc v) : v = .nilFunc := by cases hv; rfl
theorem VR.nilMap_inv {v : Value} (hv : VR φ (.map none) v) : v = .map none := by cases hv; rfl
theorem VR.map_inv {b : Nat} {v : Value} (hv : VR φ (.map (some b)) v) : ∃ i, φ b = some i ∧ v = .map (some i.blk) := by cases hv with | map e => exact ⟨_, e, rfl⟩
theorem VR.nilSlice_inv {n c : Nat} {v : Value} (hv : VR φ (.slice none n c) v) : n = 0 ∧ c = 0 ∧ v = .slice none 0 0 := by cases hv; exact ⟨rfl, rfl, rfl⟩
theorem VR.slice_inv {a : Addr} {n c : Nat} {v : Value} (hv : VR φ (.slice (some a) n c) v) : ∃ i o' c', φ a.block = some i ∧ a = ⟨a.block, a.off, none⟩ ∧ v = .slice (some ⟨i.blk, o', none⟩) n c' ∧
    ((c = 2 * c' ∧ o' = i.base + a.off) ∨ (∃ lb, c = 2 * lb + 1 ∧ lb ≤ c' ∧ n ≤ lb ∧ (0 < lb → o' = i.base + a.off) ∧ o' + c' * i.stride ≤ i.size)) := by
  cases hv with
  | sliceK e => exact ⟨_, _, _, e, rfl, rfl, .inl ⟨rfl, rfl⟩⟩
  | sliceU e h1 h2 h3 h4 => exact ⟨_, _, _, e, rfl, rfl, .inr ⟨_, rfl, h1, h2, h3, h4⟩⟩
theorem VR.func_inv {fn : Fn} {a c : Array Value} {v : Value} (hv : VR φ (.func fn a c) v) : ∃ fn' a' c', v = .func fn' a' c' ∧ FR φ fn fn' ∧ VRL φ a.toList a'.toList ∧ VRL φ c.toList c'.toList := by
  cases hv with
  | func h1 h2 h3 => exact ⟨_, _, _, rfl, h1, h2, h3⟩

/-! ## parts of rows -/
theorem part_sound {t : TypeId} {cs : List Value} {cs' : Array Value} {off : Nat} {v : Value} (hc : VRL φ cs cs'.toList) (e : partV P t cs off = some v) :
    ∃ v', (part t cs' off).run P w = .ok v' w ∧ VR φ v v' := by
  unfold partV at e
  unfold part
  split at e
  · rename_i ha
    simp only [Option.map_eq_some_iff] at e
    obtain ⟨n, hn, rfl⟩ := e
    refine ⟨.agg (cs'.extract off (off + n)), ?_, .agg ?_⟩
    · rw [run_bind_ok (run_agg ha)]
      simp only [if_true]
      rw [run_bind_ok (run_size hn)]; rfl
    · have := (hc.drop off).take n
      simpa [Array.toList_extract, List.extract_eq_take_drop] using this
  · rename_i ha
    obtain ⟨v', e', hv⟩ := hc.get e
    refine ⟨v', ?_, hv⟩
    rw [run_bind_ok (run_agg ha)]
    rw [Array.getElem?_toList] at e'
    simp [e']
  · cases e

/-! ## '==' -/
theorem ieq_eq (a b : Int) : ieq a b = (a == b) := by
  have : (a == b) = decide (a = b) := rfl
  rw [this]
  cases a <;> cases b <;> simp [ieq]
  all_goals (rw [Bool.eq_iff_iff]; simp; try omega)
theorem ilt_eq (a b : Int) : ilt a b = decide (a < b) := by
  cases a <;> cases b <;> simp only [ilt]
  · rw [Bool.eq_iff_iff]; simp
  · symm; simp; omega
  · symm; simp; omega
  · rw [Bool.eq_iff_iff]; simp; omega
theorem kbeq_eq {k k' : IntKind} (e : kbeq k k' = true) : k = k' := by cases k <;> cases k' <;> simp [kbeq] at e <;> rfl
theorem kbeq_self (k : IntKind) : kbeq k k = true := by cases k <;> rfl
theorem lbeq_eq (l m : List UInt8) : lbeq l m = (l == m) := by
  induction l generalizing m with
  | nil => cases m <;> rfl
  | cons a l ih =>
    cases m with
    | nil => rfl
    | cons b m =>
      simp only [lbeq, List.cons_beq_cons, ih]
      cases h : Nat.beq a.toNat b.toNat with
      | true => have := UInt8.toNat_inj.1 (Nat.eq_of_beq_eq_true h); subst this; simp
      | false =>
        have : a ≠ b := fun e => Nat.ne_of_beq_eq_false h (by rw [e])
        simp [this]
theorem llt_eq (l m : List UInt8) : llt l m = Op.bytesLess l m := by
  induction l generalizing m with
  | nil => cases m <;> rfl
  | cons a l ih =>
    cases m with
    | nil => rfl
    | cons b m =>
      simp only [llt, Op.bytesLess, ih]
      have hlt : Nat.blt a.toNat b.toNat = decide (a < b) := by rw [Bool.eq_iff_iff]; simp [Nat.blt_eq, UInt8.lt_iff_toNat_lt]
      have heq : Nat.beq a.toNat b.toNat = (a == b) := by
        rw [Bool.eq_iff_iff]; simp [Nat.beq_eq, UInt8.toNat_inj]
      rw [hlt, heq]
      cases decide (a < b) <;> cases (a == b) <;> rfl

end Go.Ab
end

section
namespace Go.Ab
open Go.RowKit
variable {P : Program} {B : Nat} {φ : Ren} {h h' : AHeap} {w w' : World}

theorem run_prog : program.run P w = .ok P w := rfl

def arrEq (P : Program) (d : Nat) (e : TypeId) (sz : Nat) (xs ys : Array Value) : List Nat → Sem Bool
  | [] => pure true
  | i :: is => do
    let a ← part e xs (i * sz)
    let b ← part e ys (i * sz)
    let r ← Op.equalIn d e a b
    if (!r) = true then pure false else arrEq P d e sz xs ys is

theorem run_equalIn_array (d : Nat) (t e : TypeId) (n sz : Nat) (xs ys : Array Value) (ht : P.underlying t = some (.array n e)) (hs : size? P e = some sz) :
    (Op.equalIn (d + 1) t (.agg xs) (.agg ys)).run P w = (arrEq P d e sz xs ys (List.range n)).run P w := by
  simp only [Op.equalIn, Sem.run_bind, run_und ht, Result.andThen_ok, run_size hs]
  simp only [Std.Legacy.Range.forIn_eq_forIn_range', Std.Legacy.Range.size, Nat.sub_zero, Nat.add_sub_cancel, Nat.div_one]
  rw [← List.range_eq_range']
  generalize List.range n = l
  induction l generalizing w with
  | nil => simp [arrEq]
  | cons i is ih =>
    simp only [List.forIn_cons, arrEq, Sem.run_bind, Sem.run_ite]
    generalize (part e xs (i * sz)).run P w = r1
    cases r1 with
    | ok a w1 =>
      simp only [Result.andThen_ok]
      generalize (part e ys (i * sz)).run P w1 = r2
      cases r2 with
      | ok b w2 =>
        simp only [Result.andThen_ok]
        generalize (Op.equalIn d e a b).run P w2 = r3
        cases r3 with
        | ok r w3 =>
          cases r
          · simp only [Result.andThen_ok, Bool.not_false, if_true, Sem.run_pure]
          · simp only [Result.andThen_ok, Bool.not_true, Bool.false_eq_true, if_false, Sem.run_pure]
            exact ih
        | halt x w3 => simp [Result.andThen]
      | halt x w2 => simp [Result.andThen]
    | halt x w1 => simp [Result.andThen]

set_option maxHeartbeats 2000000 in
theorem eqV_sound (d : Nat) : ∀ (k : Nat) (t : TypeId) (x y x' y' : Value) (b : Bool), VR φ x x' → VR φ y y' → eqV P d t x y = some b → (Op.equalIn (d + k) t x' y').run P w = .ok b w := by
  induction d with
  | zero => intro k t x y x' y' b _ _ e; simp [eqV] at e
  | succ d ih =>
    intro k t x y x' y' b hx hy e
    rw [show d + 1 + k = (d + k) + 1 by omega]
    unfold eqV at e
    split at e
    · -- bool
      obtain rfl := hx.bool_inv; obtain rfl := hy.bool_inv
      split at e
      · rename_i hu; cases e; simp [Op.equalIn, run_und hu]
      · cases e
    · obtain rfl := hx.int_inv; obtain rfl := hy.int_inv
      split at e
      · rename_i k1 n1 k2 n2 _ _ hu
        cases hk : kbeq k1 k2 with
        | false => rw [hk] at e; cases e
        | true =>
          rw [hk] at e; cases e
          obtain rfl := kbeq_eq hk
          simp [Op.equalIn, run_und hu, ieq_eq]
      · cases e
    · obtain rfl := hx.str_inv; obtain rfl := hy.str_inv
      split at e
      · rename_i hu; cases e
        rw [run_equalIn_string _ _ _ _ _ hu, lbeq_eq, ByteArray.toList_eq, ByteArray.toList_eq]; rfl
      · cases e
    · obtain rfl := hx.nilPtr_inv
      split at e
      · rename_i hu; cases e
        cases hy with
        | nilPtr => simp [Op.equalIn, run_und hu]
        | ptr e => simp [Op.equalIn, run_und hu]
      · cases e
    · obtain rfl := hy.nilPtr_inv
      split at e
      · rename_i hu; cases e
        cases hx with
        | nilPtr => contradiction
        | ptr e => simp [Op.equalIn, run_und hu]
      · cases e
    · obtain ⟨i, hi, ha, rfl⟩ := hx.ptr_inv
      obtain ⟨j, hj, hb, rfl⟩ := hy.ptr_inv
      split at e
      · rename_i a1 a2 _ el hu
        split at e
        · rename_i m hs
          cases hbb : Nat.beq a1.block a2.block with
          | false => rw [hbb] at e; cases e
          | true =>
            rw [hbb] at e; cases e
            have hbb := Nat.eq_of_beq_eq_true hbb
            rw [hbb] at hi
            rw [hi] at hj; cases hj
            simp [Op.equalIn, run_und hu, run_size hs, sameAddr]
            rw [Bool.eq_iff_iff]
            simp [Nat.beq_eq]
        · cases e
      · cases e
    · obtain rfl := hx.nilIface_inv; obtain rfl := hy.nilIface_inv
      split at e
      · rename_i hu; cases e; simp [Op.equalIn, run_und hu]
      · cases e
    · obtain rfl := hx.nilIface_inv; obtain ⟨v, rfl, _⟩ := hy.iface_inv
      split at e
      · rename_i hu; cases e; simp [Op.equalIn, run_und hu]
      · cases e
    · obtain ⟨v, rfl, _⟩ := hx.iface_inv; obtain rfl := hy.nilIface_inv
      split at e
      · rename_i hu; cases e; simp [Op.equalIn, run_und hu]
      · cases e
    · obtain ⟨v, rfl, hv⟩ := hx.iface_inv; obtain ⟨u, rfl, hu'⟩ := hy.iface_inv
      rename_i tx vx ty vy
      split at e
      · rename_i hu
        cases hb : Nat.beq tx ty with
        | false =>
          rw [hb] at e; cases e
          have := Nat.ne_of_beq_eq_false hb
          simp [Op.equalIn, run_und hu, this]
        | true =>
          rw [hb] at e
          have := Nat.eq_of_beq_eq_true hb
          subst this
          simp only [cond_true] at e
          split at e
          · rename_i i hi
            cases hc : i.comparable with
            | false => rw [hc] at e; cases e
            | true =>
              rw [hc] at e
              simp only [cond_true] at e
              have := ih k tx vx vy v u b hv hu' e
              simp [Op.equalIn, run_und hu, run_info hi, hc, this]
          · cases e
      · cases e
    · obtain ⟨_, _, rfl⟩ := hx.nilSlice_inv
      split at e
      · rename_i hu; cases e
        cases hy <;> simp [Op.equalIn, run_und hu]
      · cases e
    · obtain ⟨_, _, rfl⟩ := hy.nilSlice_inv
      split at e
      · rename_i hu; cases e
        cases hx with
        | nilSlice => contradiction
        | sliceK e => simp [Op.equalIn, run_und hu]
        | sliceU e => simp [Op.equalIn, run_und hu]
      · cases e
    · obtain rfl := hx.nilMap_inv
      split at e
      · rename_i hu; cases e
        cases hy <;> simp [Op.equalIn, run_und hu]
      · cases e
    · obtain rfl := hy.nilMap_inv
      split at e
      · rename_i hu; cases e
        cases hx with
        | nilMap => contradiction
        | map e => simp [Op.equalIn, run_und hu]
      · cases e
    · obtain rfl := hx.nilFunc_inv; obtain rfl := hy.nilFunc_inv
      split at e
      · rename_i hu; cases e; simp [Op.equalIn, run_und hu]
      · cases e
    · obtain rfl := hx.nilFunc_inv; obtain ⟨_, _, _, rfl, _⟩ := hy.func_inv
      split at e
      · rename_i hu; cases e; simp [Op.equalIn, run_und hu]
      · cases e
    · obtain ⟨_, _, _, rfl, _⟩ := hx.func_inv; obtain rfl := hy.nilFunc_inv
      split at e
      · rename_i hu; cases e; simp [Op.equalIn, run_und hu]
      · cases e
    · obtain ⟨xs', rfl, hxs⟩ := hx.agg_inv; obtain ⟨ys', rfl, hys⟩ := hy.agg_inv
      rename_i xs ys
      split at e
      · rename_i fs hu
        cases hst : P.stoodInHeld t with
        | true => rw [hst] at e; cases e
        | false =>
          rw [hst] at e
          simp only [cond_false] at e
          have hf : P.fieldsOf t = fs := by unfold Program.fieldsOf; rw [hu]
          rw [run_equalIn_agg _ _ _ _ _ (by rw [hf]; exact hu) hst, hf]
          generalize fs.toList = l at e
          clear hu hf
          induction l with
          | nil => simp at e; subst e; rfl
          | cons f l ihl =>
            simp only [List.foldr_cons] at e
            unfold Op.eqFields
            by_cases hn : f.name = "_"
            · simp only [hn, beq_self_eq_true, cond_true] at e
              rw [if_neg (by simp [hn])]
              exact ihl e
            · have hn' : (f.name == "_") = false := by simp [hn]
              rw [hn'] at e
              simp only [cond_false] at e
              rw [if_pos hn]
              split at e
              · rename_i u v hu' hv'
                obtain ⟨u', eu, hu'⟩ := part_sound (P := P) (w := w) hxs hu'
                obtain ⟨v', ev, hv'⟩ := part_sound (P := P) (w := w) hys hv'
                rw [run_bind_ok eu, run_bind_ok ev]
                split at e
                · rename_i he
                  rw [run_bind_ok (ih k _ _ _ _ _ _ hu' hv' he)]
                  simpa using ihl e
                · rename_i he hne
                  cases b with
                  | true => exact absurd e hne
                  | false =>
                    rw [run_bind_ok (ih k _ _ _ _ _ _ hu' hv' e)]
                    rfl
              · cases e
      · rename_i n el hu
        simp only [Option.bind_eq_some_iff] at e
        obtain ⟨sz, hs, e⟩ := e
        rw [run_equalIn_array _ _ _ _ _ _ _ hu hs]
        generalize List.range n = l at e
        clear hu
        induction l with
        | nil => simp at e; subst e; rfl
        | cons f l ihl =>
          simp only [List.foldr_cons] at e
          unfold arrEq
          split at e
          · rename_i u v hu' hv'
            obtain ⟨u', eu, hu'⟩ := part_sound (P := P) (w := w) hxs hu'
            obtain ⟨v', ev, hv'⟩ := part_sound (P := P) (w := w) hys hv'
            rw [run_bind_ok eu, run_bind_ok ev]
            split at e
            · rename_i he
              rw [run_bind_ok (ih k _ _ _ _ _ _ hu' hv' he)]
              simpa using ihl e
            · rename_i he hne
              cases b with
              | true => exact absurd e hne
              | false =>
                rw [run_bind_ok (ih k _ _ _ _ _ _ hu' hv' e)]
                rfl
          · cases e
      · cases e
    · cases e
end Go.Ab
end

section
namespace Go.Ab
open Go.RowKit
variable {P : Program} {B : Nat} {φ : Ren} {h h' : AHeap} {w w' : World}

theorem wrap_in {k : IntKind} {n : Int} (e : inRange k n = true) : k.wrap n = n := by
  cases k <;> cases n <;> simp [inRange, Nat.blt_eq] at e <;> simp only [IntKind.wrap, IntKind.bits, IntKind.signed] <;> simp <;> omega
theorem wrapK_eq (k : IntKind) (n : Int) : wrapK k n = k.wrap n := by
  unfold wrapK
  cases e : inRange k n with
  | true => simp [wrap_in e]
  | false => rfl

theorem range_lt {k : IntKind} {m : Nat} (e : inRange k (.ofNat m) = true) : m < 2 ^ k.bits ∧ (k.signed = true → m < 2 ^ (k.bits - 1)) := by
  cases k <;> simp [inRange, Nat.blt_eq] at e <;> simp [IntKind.bits, IntKind.signed] <;> omega

theorem wrap_nat {k : IntKind} {m : Nat} (h1 : m < 2 ^ k.bits) (h2 : k.signed = true → m < 2 ^ (k.bits - 1)) : k.wrap (m : Int) = m := by
  cases k <;> simp [IntKind.bits, IntKind.signed] at h1 h2 <;> simp only [IntKind.wrap, IntKind.bits, IntKind.signed] <;> simp <;> omega

theorem and_le' (m n : Nat) : m &&& n ≤ m := Nat.and_le_left

theorem intBin_sound {op : BinOp} {t : TypeId} {k : IntKind} {a b : Int} {v : Value} (hop : op ≠ .shl ∧ op ≠ .shr) (e : intBin op k a b = some v) :
    (binOp op t (.int k a) (.int k b)).run P w = .ok v w ∧ VR φ v v := by
  have toN : ∀ {m : Nat}, inRange k (.ofNat m) = true → (BitVec.ofInt k.bits (m : Int)).toNat = m := by
    intro m hm
    have := (range_lt hm).1
    rw [BitVec.ofInt_natCast]
    simp [Nat.mod_eq_of_lt this]
  cases op with
  | shl => exact absurd rfl hop.1
  | shr => exact absurd rfl hop.2
  | add => simp only [intBin, Option.some.injEq] at e; subst e; exact ⟨by simp [binOp, Op.intArith, wrapK_eq], .int _ _⟩
  | sub => simp only [intBin, Option.some.injEq] at e; subst e; exact ⟨by simp [binOp, Op.intArith, wrapK_eq], .int _ _⟩
  | mul => simp only [intBin, Option.some.injEq] at e; subst e; exact ⟨by simp [binOp, Op.intArith, wrapK_eq], .int _ _⟩
  | quo =>
    simp only [intBin, ieq_eq] at e
    by_cases hb : b = 0
    · subst hb; simp at e
    · simp only [show (b == 0) = false by simp [hb], cond_false, Option.some.injEq] at e
      subst e; exact ⟨by simp [binOp, Op.intDiv, wrapK_eq, hb], .int _ _⟩
  | rem =>
    simp only [intBin, ieq_eq] at e
    by_cases hb : b = 0
    · subst hb; simp at e
    · simp only [show (b == 0) = false by simp [hb], cond_false, Option.some.injEq] at e
      subst e; exact ⟨by simp [binOp, Op.intDiv, hb], .int _ _⟩
  | and =>
    simp only [intBin] at e
    split at e
    · rename_i m n
      cases hr : (inRange k (Int.ofNat m) && inRange k (Int.ofNat n)) with
      | false => rw [hr] at e; cases e
      | true =>
        rw [hr] at e; cases e
        simp only [Bool.and_eq_true] at hr
        have h1 := range_lt hr.1
        have hle := and_le' m n
        refine ⟨?_, .int _ _⟩
        simp only [binOp, Op.intBits, Int.ofNat_eq_natCast, ne_eq, not_true_eq_false, if_false, Sem.run_pure, BitVec.toNat_and, toN hr.1, toN hr.2]
        rw [wrap_nat (by omega) (fun hs => by have := h1.2 hs; omega)]
        rfl
    · cases e
  | or =>
    simp only [intBin] at e
    split at e
    · rename_i m n
      cases hr : (inRange k (Int.ofNat m) && inRange k (Int.ofNat n)) with
      | false => rw [hr] at e; cases e
      | true =>
        rw [hr] at e; cases e
        simp only [Bool.and_eq_true] at hr
        have h1 := range_lt hr.1
        have h2 := range_lt hr.2
        refine ⟨?_, .int _ _⟩
        simp only [binOp, Op.intBits, Int.ofNat_eq_natCast, ne_eq, not_true_eq_false, if_false, Sem.run_pure, BitVec.toNat_or, toN hr.1, toN hr.2]
        rw [wrap_nat (Nat.or_lt_two_pow h1.1 h2.1) (fun hs => Nat.or_lt_two_pow (h1.2 hs) (h2.2 hs))]
        rfl
    · cases e
  | xor =>
    simp only [intBin] at e
    split at e
    · rename_i m n
      cases hr : (inRange k (Int.ofNat m) && inRange k (Int.ofNat n)) with
      | false => rw [hr] at e; cases e
      | true =>
        rw [hr] at e; cases e
        simp only [Bool.and_eq_true] at hr
        have h1 := range_lt hr.1
        have h2 := range_lt hr.2
        refine ⟨?_, .int _ _⟩
        simp only [binOp, Op.intBits, Int.ofNat_eq_natCast, ne_eq, not_true_eq_false, if_false, Sem.run_pure, BitVec.toNat_xor, toN hr.1, toN hr.2]
        rw [wrap_nat (Nat.xor_lt_two_pow h1.1 h2.1) (fun hs => Nat.xor_lt_two_pow (h1.2 hs) (h2.2 hs))]
        rfl
    · cases e
  | andNot =>
    simp only [intBin] at e
    split at e
    · rename_i m n
      cases hr : (inRange k (Int.ofNat m) && inRange k (Int.ofNat n)) with
      | false => rw [hr] at e; cases e
      | true =>
        rw [hr] at e; cases e
        simp only [Bool.and_eq_true] at hr
        have h1 := range_lt hr.1
        have hle := and_le' m (2 ^ k.bits - 1 - n)
        refine ⟨?_, .int _ _⟩
        simp only [binOp, Op.intBits, Int.ofNat_eq_natCast, ne_eq, not_true_eq_false, if_false, Sem.run_pure, BitVec.toNat_and, BitVec.toNat_not, toN hr.1, toN hr.2]
        rw [wrap_nat (by omega) (fun hs => by have := h1.2 hs; omega)]
        rfl
    · cases e
  | eql => simp only [intBin, Option.some.injEq] at e; subst e; exact ⟨by simp [binOp, Op.intCmp, ieq_eq], .bool _⟩
  | neq => simp only [intBin, Option.some.injEq] at e; subst e; exact ⟨by simp [binOp, Op.intCmp, ieq_eq, bne], .bool _⟩
  | lss => simp only [intBin, Option.some.injEq] at e; subst e; exact ⟨by simp [binOp, Op.intCmp, ilt_eq], .bool _⟩
  | leq => simp only [intBin, Option.some.injEq] at e; subst e; exact ⟨by simp [binOp, Op.intCmp, ilt_eq]; rw [Bool.eq_iff_iff]; simp, .bool _⟩
  | gtr => simp only [intBin, Option.some.injEq] at e; subst e; exact ⟨by simp [binOp, Op.intCmp, ilt_eq], .bool _⟩
  | geq => simp only [intBin, Option.some.injEq] at e; subst e; exact ⟨by simp [binOp, Op.intCmp, ilt_eq]; rw [Bool.eq_iff_iff]; simp, .bool _⟩

theorem shiftV_sound {op : BinOp} {t : TypeId} {k yk : IntKind} {a b : Int} {v : Value} (hop : op = .shl ∨ op = .shr) (e : shiftV op k a b = some v) :
    (binOp op t (.int k a) (.int yk b)).run P w = .ok v w ∧ VR φ v v := by
  unfold shiftV at e
  split at e
  · rename_i m n
    cases hr : (Nat.blt n 64 && inRange k (Int.ofNat m)) with
    | false => rw [hr] at e; cases e
    | true =>
      rw [hr] at e
      simp only [cond_true] at e
      rcases hop with rfl | rfl
      · cases e
        refine ⟨?_, .int _ _⟩
        simp only [binOp, Op.shift, wrapK_eq]
        rw [if_neg (by simp)]
        simp
      · cases e
        refine ⟨?_, .int _ _⟩
        simp only [binOp, Op.shift]
        rw [if_neg (by simp)]
        simp only [Int.ofNat_eq_natCast, Int.toNat_natCast, Sem.run_pure]
        congr 2
        have hp : (2 : Int) ^ (min n k.bits) = ((2 ^ (min n k.bits) : Nat) : Int) := by simp
        rw [hp, Int.fdiv_eq_ediv_of_nonneg _ (Int.natCast_nonneg _)]
        simp
  · cases e

theorem mk_bl (s : ByteArray) : mk (bl s) = s := rfl
theorem mk_append (x y : ByteArray) : mk (bl x ++ bl y) = x ++ y := by
  apply ByteArray.ext
  simp [mk, bl]

theorem strBin_sound {op : BinOp} {t : TypeId} {x y : ByteArray} {v : Value} (e : strBin op (bl x) (bl y) = some v) :
    (binOp op t (.string x) (.string y)).run P w = .ok v w ∧ VR φ v v := by
  have hx : x.toList = bl x := by rw [ByteArray.toList_eq]; rfl
  have hy : y.toList = bl y := by rw [ByteArray.toList_eq]; rfl
  cases op <;> simp only [strBin, reduceCtorEq] at e
  case add =>
    cases hr : Nat.blt ((bl x).length + (bl y).length) 1048576 with
    | false => rw [hr] at e; cases e
    | true =>
      rw [hr] at e; cases e
      have hr : (bl x).length + (bl y).length < 1048576 := by simpa [Nat.blt_eq] using hr
      have hs : x.size + y.size < 1048576 := by simpa [bl] using hr
      refine ⟨?_, .string _⟩
      simp only [binOp, Op.stringOp]
      rw [if_neg (by simp [IntKind.max, IntKind.bits, IntKind.signed]; omega)]
      simp [str, mk_append]
  all_goals (cases e; refine ⟨?_, .bool _⟩; simp [binOp, Op.stringOp, hx, hy, lbeq_eq, llt_eq])

end Go.Ab
end

section
namespace Go.Ab
open Go.RowKit
variable {P : Program} {B : Nat} {φ : Ren} {h h' : AHeap} {w w' : World}

theorem run_eql {t : TypeId} {x y : Value} {b : Bool} (h1 : ∀ k a k' c, ¬(x = .int k a ∧ y = .int k' c)) (h2 : ∀ a c, ¬(x = .string a ∧ y = .string c))
    (hf : ∀ k a k' c, ¬(x = .float k a ∧ y = .float k' c)) (hc : ∀ k a a2 k' c c2, ¬(x = .complex k a a2 ∧ y = .complex k' c c2))
    (e : (Op.equalIn 10000 t x y).run P w = .ok b w) : (binOp .eql t x y).run P w = .ok (.bool b) w ∧ (binOp .neq t x y).run P w = .ok (.bool (!b)) w := by
  have e' : (Op.equal t x y).run P w = .ok b w := e
  constructor
  all_goals
    unfold binOp
    split
    all_goals first
      | contradiction
      | (exfalso; exact h1 _ _ _ _ ⟨rfl, rfl⟩)
      | (exfalso; exact h2 _ _ ⟨rfl, rfl⟩)
      | (exfalso; exact hf _ _ _ _ ⟨rfl, rfl⟩)
      | (exfalso; exact hc _ _ _ _ _ _ ⟨rfl, rfl⟩)
      | (rw [run_bind_ok e']; rfl)

theorem eqV_shape {d : Nat} {t : TypeId} {x y : Value} {b : Bool} (e : eqV P d t x y = some b) : (∀ k a, x ≠ .float k a) ∧ (∀ k a c, x ≠ .complex k a c) ∧ (∀ k a, y ≠ .float k a) ∧ (∀ k a c, y ≠ .complex k a c) := by
  cases d with
  | zero => simp [eqV] at e
  | succ d =>
    unfold eqV at e
    split at e
    all_goals first
      | (refine ⟨?_, ?_, ?_, ?_⟩ <;> (intros; simp; done))
      | (split at e <;> first | (cases e; done) | (refine ⟨?_, ?_, ?_, ?_⟩ <;> (intros; simp; done)))
      | (cases e; done)

theorem VR.int_back {v : Value} {k : IntKind} {n : Int} (hv : VR φ v (.int k n)) (ha : ∀ k a c, v ≠ .complex k a c) : v = .int k n := by
  cases hv with
  | any => exact absurd rfl (ha _ _ _)
  | anyInt => exact absurd rfl (ha _ _ _)
  | int => rfl
theorem VR.str_back {v : Value} {s : ByteArray} (hv : VR φ v (.string s)) (ha : ∀ k a c, v ≠ .complex k a c) : v = .string s := by
  cases hv with
  | any => exact absurd rfl (ha _ _ _)
  | string => rfl
theorem VR.float_back {v : Value} {k : FloatKind} {n : Nat} (hv : VR φ v (.float k n)) (ha : ∀ k a c, v ≠ .complex k a c) : False := by
  cases hv with
  | any => exact absurd rfl (ha _ _ _)
theorem VR.complex_back {v : Value} {k : FloatKind} {n m : Nat} (hv : VR φ v (.complex k n m)) (ha : ∀ k a c, v ≠ .complex k a c) : False := by
  cases hv with
  | any => exact absurd rfl (ha _ _ _)

theorem binV_sound {op : BinOp} {t : TypeId} {x y x' y' : Value} {v : Value} (hx : VR φ x x') (hy : VR φ y y') (e : binV P op t x y = some v) :
    (binOp op t x' y').run P w = .ok v w ∧ VR φ v v := by
  unfold binV at e
  split at e
  · obtain rfl := hx.int_inv; obtain rfl := hy.int_inv
    split at e
    · exact shiftV_sound (.inl rfl) e
    · exact shiftV_sound (.inr rfl) e
    · rename_i k a k' b _ h1 h2
      cases hk : kbeq k k' with
      | false => rw [hk] at e; cases e
      | true => rw [hk] at e; obtain rfl := kbeq_eq hk; exact intBin_sound ⟨fun hh => h1 hh, fun hh => h2 hh⟩ e
  · obtain rfl := hx.str_inv; obtain rfl := hy.str_inv
    exact strBin_sound e
  · rename_i h1 h2
    have key : ∀ b, eqV P eqDepth t x y = some b → (binOp .eql t x' y').run P w = .ok (.bool b) w ∧ (binOp .neq t x' y').run P w = .ok (.bool (!b)) w := by
      intro b eb
      obtain ⟨_, s2, _, s4⟩ := eqV_shape eb
      refine run_eql ?_ ?_ ?_ ?_ (eqV_sound (P := P) (w := w) eqDepth 9994 t x y x' y' b hx hy eb)
      · rintro k a k' c ⟨rfl, rfl⟩; exact h1 _ _ _ _ (hx.int_back s2) (hy.int_back s4)
      · rintro a c ⟨rfl, rfl⟩; exact h2 _ _ (hx.str_back s2) (hy.str_back s4)
      · rintro k a k' c ⟨rfl, rfl⟩; exact hx.float_back s2
      · rintro k a k' c _ _ ⟨rfl, rfl⟩; exact hx.complex_back s2
    split at e
    · simp only [Option.map_eq_some_iff] at e
      obtain ⟨b, eb, rfl⟩ := e
      exact ⟨(key b eb).1, .bool _⟩
    · simp only [Option.map_eq_some_iff] at e
      obtain ⟨b, eb, rfl⟩ := e
      exact ⟨(key b eb).2, .bool _⟩
    · cases e

theorem unV_sound {op : UnOp} {x x' v : Value} (hx : VR φ x x') (e : unV op x = some v) : (Op.unary op x').run P w = .ok v w ∧ VR φ v v := by
  unfold unV at e
  split at e
  · obtain rfl := hx.int_inv
    cases e
    exact ⟨by simp [Op.unary, Op.intArith, wrapK_eq], .int _ _⟩
  · obtain rfl := hx.int_inv
    rename_i n
    cases hr : inRange .i64 n with
    | false => rw [hr] at e; cases e
    | true =>
      rw [hr] at e; cases e
      refine ⟨?_, .int _ _⟩
      have h1 : -9223372036854775808 ≤ n ∧ n < 9223372036854775808 := by
        cases n with
        | ofNat m => simp [inRange, Nat.blt_eq] at hr; simp; omega
        | negSucc m => simp [inRange, Nat.blt_eq] at hr; omega
      have h2 : (BitVec.ofInt 64 (-1) ^^^ BitVec.ofInt 64 n).toNat = 2 ^ 64 - 1 - (n % 2 ^ 64).toNat := by
        have : BitVec.ofInt 64 (-1) = BitVec.allOnes 64 := by decide
        rw [this, BitVec.allOnes_xor, BitVec.toNat_not, BitVec.toNat_ofInt]
        simp
      have h3 : (Op.unary .xor (.int .i64 n)).run P w = .ok (.int .i64 (IntKind.wrap .i64 ((BitVec.ofInt 64 (-1) ^^^ BitVec.ofInt 64 n).toNat : Int))) w := rfl
      rw [h3, h2]
      congr 2
      simp only [IntKind.wrap, IntKind.bits, IntKind.signed]
      simp
      omega
  · obtain rfl := hx.bool_inv
    cases e
    exact ⟨by simp [Op.unary], .bool _⟩
  · cases e

end Go.Ab
end

section
namespace Go.Ab
open Go.RowKit
variable {P : Program} {B : Nat} {φ : Ren} {h h' : AHeap} {w w' : World}

theorem VRL.one {v : Value} {l' : List Value} (hl : VRL φ [v] l') : ∃ v', l' = [v'] ∧ VR φ v v' := by
  cases hl with
  | cons h1 h2 => cases h2; exact ⟨_, rfl, h1⟩

theorem loadV_sound (H : HR B φ h w) {t : TypeId} {a : Addr} {i : Info} {v : Value} (hi : φ a.block = some i) (e : loadV P h t a = some v) :
    ∃ v', (loadVar t ⟨i.blk, i.base + a.off, none⟩).run P w = .ok v' w ∧ VR φ v v' := by
  unfold loadV at e
  unfold loadVar
  split at e
  · rename_i ha
    simp only [Option.bind_eq_some_iff, Option.map_eq_some_iff] at e
    obtain ⟨n, hn, l, hl, rfl⟩ := e
    obtain ⟨l', e', hl'⟩ := H.loadN (P := P) hl hi
    refine ⟨.agg l'.toArray, ?_, .agg (by simpa using hl')⟩
    rw [run_bind_ok (run_agg ha)]
    simp only [if_true]
    rw [run_bind_ok (run_size hn), run_bind_ok e']; rfl
  · rename_i ha
    simp only [Option.bind_eq_some_iff] at e
    obtain ⟨l, hl, e⟩ := e
    obtain ⟨l', e', hl'⟩ := H.loadN (P := P) hl hi
    have hlen : l.length = 1 := by
      unfold Ab.loadN at hl
      split at hl
      · simp only at hl
        cases hb : Nat.beq ((List.drop a.off _).take 1).length 1 with
        | false => rw [hb] at hl; cases hl
        | true => rw [hb] at hl; cases hl; exact Nat.eq_of_beq_eq_true hb
      · cases hl
    match l, hlen with
    | [x], _ =>
      simp at e; subst e
      obtain ⟨v', rfl, hv⟩ := hl'.one
      refine ⟨v', ?_, hv⟩
      rw [run_bind_ok (run_agg ha)]
      simp only [Bool.false_eq_true, if_false]
      have : (loadCells ⟨i.blk, i.base + a.off, none⟩ 1).run P w = ((load ⟨i.blk, i.base + a.off, none⟩).run P w).andThen fun v w => .ok #[v] w := by
        simp [loadCells, loadCellsFrom, add_none]
      rw [this] at e'
      cases hld : (load ⟨i.blk, i.base + a.off, none⟩).run P w with
      | ok u w1 => rw [hld] at e'; simp at e'; obtain ⟨rfl, rfl⟩ := e'; rfl
      | halt u w1 => rw [hld] at e'; simp at e'
  · cases e

theorem natOf_inv {x x' : Value} {n : Nat} (hx : VR φ x x') (e : natOf x = some n) : ∃ k, x' = .int k (n : Int) := by
  unfold natOf at e
  split at e
  · cases e; obtain rfl := hx.int_inv; exact ⟨_, rfl⟩
  · cases e

theorem idx_inv {x x' : Value} {n i : Nat} (hx : VR φ x x') (e : idx x n = some i) : ∃ k, x' = .int k (i : Int) ∧ i < n := by
  unfold idx at e
  simp only [Option.bind_eq_some_iff] at e
  obtain ⟨j, hj, e⟩ := e
  obtain ⟨k, rfl⟩ := natOf_inv hx hj
  cases hb : Nat.blt j n with
  | false => rw [hb] at e; cases e
  | true => rw [hb] at e; cases e; exact ⟨k, rfl, by simpa [Nat.blt_eq] using hb⟩

theorem run_asIntOf {k : IntKind} {n : Int} : (asIntOf (.int k n)).run P w = .ok (k, n) w := rfl

theorem indexAddr_sound {t : TypeId} {x ix x' ix' v : Value} (hx : VR φ x x') (hi : VR φ ix ix') (e : indexAddrV P t x ix = some v) :
    ∃ v', (Instr.indexAt t x' ix').run P w = .ok v' w ∧ VR φ v v' := by
  unfold indexAddrV at e
  split at e
  · rename_i el a len c hu
    simp only [Option.bind_eq_some_iff, Option.map_eq_some_iff] at e
    obtain ⟨i, hidx, sz, hs, rfl⟩ := e
    obtain ⟨k, rfl, hlt⟩ := idx_inv hi hidx
    obtain ⟨j, o', c', hj, ha, rfl, hcase⟩ := hx.slice_inv
    have ho : o' = j.base + a.off := by
      rcases hcase with ⟨_, ho⟩ | ⟨lb, _, _, hn, ho, _⟩
      · exact ho
      · exact ho (by omega)
    subst ho
    refine ⟨.pointer (some ⟨j.blk, j.base + (a.off + i * sz), none⟩), ?_, ?_⟩
    · unfold Instr.indexAt
      rw [run_bind_ok run_asIntOf]
      simp only [Sem.run_bind, run_und hu, Result.andThen_ok, Sem.run_pure, Sem.run_ite]
      rw [if_pos ⟨by omega, by omega⟩]
      simp only [run_size hs, Result.andThen_ok, add_none, Int.toNat_natCast, Nat.add_assoc]
    · rw [ha]; exact .ptr hj
  · rename_i n el a hu
    simp only [Option.bind_eq_some_iff, Option.map_eq_some_iff] at e
    obtain ⟨i, hidx, sz, hs, rfl⟩ := e
    obtain ⟨k, rfl, hlt⟩ := idx_inv hi hidx
    obtain ⟨j, hj, ha, rfl⟩ := hx.ptr_inv
    refine ⟨.pointer (some ⟨j.blk, j.base + (a.off + i * sz), none⟩), ?_, ?_⟩
    · unfold Instr.indexAt
      rw [run_bind_ok run_asIntOf]
      simp only [Sem.run_bind, run_und hu, Result.andThen_ok, Sem.run_pure, Sem.run_ite, Instr.sureAddr]
      rw [if_pos ⟨by omega, by omega⟩]
      simp only [run_size hs, Result.andThen_ok, add_none, Int.toNat_natCast, Nat.add_assoc]
    · rw [ha]; exact .ptr hj
  · cases e

theorem fieldAddr_sound {t : TypeId} {x x' v : Value} {f : Nat} (hx : VR φ x x') (e : fieldAddrV P t x f = some v) :
    ∃ v', (Instr.fieldAt t x' f).run P w = .ok v' w ∧ VR φ v v' := by
  unfold fieldAddrV at e
  split at e
  · rename_i fs a hu
    simp only [Option.bind_eq_some_iff] at e
    obtain ⟨fd, hf, e⟩ := e
    split at e
    · rename_i m hs
      cases e
      obtain ⟨j, hj, ha, rfl⟩ := hx.ptr_inv
      refine ⟨.pointer (some ⟨j.blk, j.base + (a.off + fd.offset), none⟩), ?_, ?_⟩
      · unfold Instr.fieldAt
        rw [Array.getElem?_toList] at hf
        simp only [Sem.run_bind, run_und hu, Result.andThen_ok, hf, Instr.sureAddr, Sem.run_pure, fieldPlace, run_size hs, Sem.run_ite]
        simp [add_none, Nat.add_assoc]
      · rw [ha]; exact .ptr hj
    · cases e
  · cases e

theorem index_sound {t : TypeId} {x ix x' ix' v : Value} (hx : VR φ x x') (hi : VR φ ix ix') (e : indexV P t x ix = some v) :
    ∃ v', (Instr.index t x' ix').run P w = .ok v' w ∧ VR φ v v' := by
  unfold indexV at e
  split at e
  · rename_i n el cs hu
    simp only [Option.bind_eq_some_iff] at e
    obtain ⟨i, hidx, sz, hs, e⟩ := e
    obtain ⟨k, rfl, hlt⟩ := idx_inv hi hidx
    obtain ⟨cs', rfl, hcs⟩ := hx.agg_inv
    obtain ⟨v', ev, hv⟩ := part_sound (P := P) (w := w) hcs e
    refine ⟨v', ?_, hv⟩
    unfold Instr.index
    rw [run_bind_ok run_asIntOf, run_bind_ok (run_und hu)]
    simp only [Sem.run_ite]
    rw [if_pos ⟨by omega, by omega⟩, run_bind_ok (run_size hs)]
    simpa using ev
  · rename_i s hu
    simp only [Option.bind_eq_some_iff, Option.map_eq_some_iff] at e
    obtain ⟨i, hidx, b, hb, rfl⟩ := e
    obtain ⟨k, rfl⟩ := natOf_inv hi hidx
    obtain rfl := hx.str_inv
    refine ⟨_, ?_, .int _ _⟩
    unfold Instr.index
    rw [run_bind_ok run_asIntOf, run_bind_ok (run_und hu)]
    have hb' : s[i]? = some b := by
      unfold bl at hb
      rw [Array.getElem?_toList] at hb
      exact hb
    simp [hb']
  · cases e

theorem extract_sound {x x' v : Value} {i : Nat} (hx : VR φ x x') (e : extractV x i = some v) :
    ∃ v', (Instr.extract x' i).run P w = .ok v' w ∧ VR φ v v' := by
  unfold extractV at e
  cases x with
  | tuple vs =>
    obtain ⟨vs', rfl, hvs⟩ := hx.tup_inv
    obtain ⟨v', e', hv⟩ := hvs.get e
    rw [Array.getElem?_toList] at e'
    exact ⟨v', by simp [Instr.extract, e'], hv⟩
  | _ => cases e

theorem field_sound {t : TypeId} {x x' v : Value} {f : Nat} (hx : VR φ x x')
    (e : fieldV P t x f = some v) :
    ∃ v', (Instr.field t x' f).run P w = .ok v' w ∧ VR φ v v' := by
  unfold fieldV at e
  cases x with
  | agg cs =>
    cases hu : P.underlying t with
    | none => rw [hu] at e; cases e
    | some d =>
      rw [hu] at e
      cases d with
      | struct fs =>
        simp only [Option.bind_eq_some_iff] at e
        obtain ⟨fd, hf, e⟩ := e
        obtain ⟨cs', rfl, hcs⟩ := hx.agg_inv
        obtain ⟨v', ev, hv⟩ := part_sound (P := P) (w := w) hcs e
        refine ⟨v', ?_, hv⟩
        unfold Instr.field
        rw [run_bind_ok (run_und hu)]
        rw [Array.getElem?_toList] at hf
        simp only [hf, asAgg]
        rw [run_bind_ok (run_pure _ _)]
        exact ev
      | _ => cases e
  | _ => cases hu : P.underlying t with
    | none => rw [hu] at e; cases e
    | some d => rw [hu] at e; cases d <;> cases e

theorem nilChk_sound {x x' v : Value} (hx : VR φ x x') (e : nilChk x = some v) (ha : ∀ k a c, x ≠ .complex k a c) : v = x ∧ (∀ (o : Oper) (ρ : Operand → Value) (y : Operand), o.op = .nilCheck y → ρ y = x' → (execOp ρ o).run P w = .ok (.value x') w) := by
  unfold nilChk at e
  split at e
  all_goals first
    | (cases e; done)
    | skip
  rename_i h1 h2 h3 h4
  cases e
  refine ⟨rfl, fun o ρ y ho hy => ?_⟩
  unfold execOp
  rw [ho]
  simp only [hy]
  cases hx with
  | any => exact absurd rfl (ha _ _ _)
  | nilPtr => exact absurd rfl h1
  | nilIface => exact absurd rfl h2
  | nilFunc => exact absurd rfl h3
  | func hf _ _ => cases hf <;> rfl
  | _ => rfl

end Go.Ab
end
