/- A symbolic evaluator for Go code over heaps: its words. A symbolic evaluator for Go code over heaps: one operation is sound. -/
import Derived.RangeFuncLeaves
import Derived.OrdersIn
import Derived.KernelRfl
import Derived.Tactics
import Derived.Laws.Bits
import Derived.Wp
import Derived.Laws.Sem
import Derived.Laws.Entries
import Derived.ChangeKeysEq
set_option linter.unusedVariables false
namespace Go.X
open Go

abbrev Heap := Array Obj

def hcell (H : Heap) (a : Addr) : Option Value :=
  match H[a.block]? with
  | some (.cells c _ _) => if a.spot.isSome then none else c[a.off]?
  | _ => none

def hfrozen (H : Heap) (a : Addr) : Bool :=
  match H[a.block]? with
  | some (.cells _ _ (lo, hi)) => lo ≤ a.off && a.off < hi
  | _ => false

def hset (H : Heap) (a : Addr) (v : Value) : Heap :=
  H.modify a.block fun
      | .cells c elem frozen => .cells (if a.spot.isSome then c else c.setIfInBounds a.off v) elem frozen
      | o => o

theorem cell_eq (w : World) (a : Addr) : w.cell? a = hcell w.heap a := rfl
theorem frozen_eq (w : World) (a : Addr) : w.frozen? a = hfrozen w.heap a := rfl
theorem setCell_heap (w : World) (a : Addr) (v : Value) : (w.setCell a v).heap = hset w.heap a v := rfl

/-! ### Frames -/
def look : List (Nat × Value) → Nat → Value
  | [], _ => undef
  | (j, v) :: r, i => cond (Nat.beq j i) v (look r i)

structure Env where
  s : List (Nat × Value)
  ds : List Deferred

def Env.get (e : Env) (i : Nat) : Value := look e.s i
def Env.put (e : Env) (d : Option Nat) (v : Value) : Env :=
  match d with
  | some d => { s := (d, v) :: e.s, ds := e.ds }
  | none => e
def Env.ev (e : Env) : Operand → Value
  | .tmp t => e.get t
  | .const v => v
  | .global g => .pointer (some ⟨g, 0, none⟩)
  | .func f => .func (.func f) #[] #[]

/-! ### What the program's tables say of a type -/
section
variable (P : Program)
def isAggT (t : TypeId) : Bool :=
  match P.underlying t with
  | some (.struct _) => true
  | some (.array _ _) => true
  | _ => false
def sizeT (t : TypeId) : Nat := match P.info? t with | some i => i.size | none => 0
def bytesT (t : TypeId) : Nat := match P.info? t with | some i => i.bytes | none => 0
def zeroT (t : TypeId) : Value := match P.info? t with | some i => (match i.zero with | some v => v | none => undef) | none => undef
def hasZeroT (t : TypeId) : Bool := match P.info? t with | some i => i.zero.isSome | none => false
def shapeT (t : TypeId) : Option Nat := cond (isAggT P t) (some (sizeT P t)) none
def okT (t : TypeId) : Bool := (P.info? t).isSome && (P.underlying t).isSome && (isAggT P t || sizeT P t == 1)
/-- An array's length and its element's size. -/
def arrT (t : TypeId) : Option (Nat × TypeId) := match P.underlying t with | some (.array n e) => some (n, e) | _ => none
def elemT (t : TypeId) : Option TypeId := match P.underlying t with | some (.slice e) => some e | _ => none
def fieldT (s : TypeId) (f : Nat) : Option Field := match P.underlying s with | some (.struct fs) => fs[f]? | _ => none
end

/-! ### Memory -/
def readN (H : Heap) (p : Addr) (i : Nat) : Nat → Option (List Value)
  | 0 => some []
  | n + 1 => match hcell H (p.add i) with
    | none => none
    | some v => match readN H p (i + 1) n with
      | none => none
      | some r => some (v :: r)

def LoadIs (sz : Option Nat) (H : Heap) (a : Value) (x : Value) : Prop :=
  match a with
  | .pointer (some p) => match sz with
    | none => hcell H p = some x
    | some n => ∃ cs : List Value, readN H p 0 n = some cs ∧ x = .agg cs.toArray
  | _ => False

def LoadP (sz : Option Nat) (H : Heap) (a : Value) (K : Value → Prop) : Prop := ∃ x, LoadIs sz H a x ∧ K x

def storeAll (p : Addr) : List Value → Nat → Heap → (Heap → Prop) → Prop
  | [], _, H, K => K H
  | v :: r, i, H, K => v.oneCell = true ∧ (hcell H (p.add i)).isSome = true ∧ hfrozen H (p.add i) = false ∧ storeAll p r (i + 1) (hset H (p.add i) v) K

def StoreP (sz : Option Nat) (H : Heap) (a : Value) (v : Value) (K : Heap → Prop) : Prop :=
  match a with
  | .pointer (some p) => match sz with
    | none => v.oneCell = true ∧ (hcell H p).isSome = true ∧ hfrozen H p = false ∧ K (hset H p v)
    | some n => match v with
      | .agg cs => cs.size = n ∧ storeAll p cs.toList 0 H K
      | _ => False
  | _ => False

/-! ### Operations without memory -/
def SplitP (v : Value) (A B : Prop) : Prop :=
  match v with
  | .bool true => A
  | .bool false => B
  | _ => False
def PickP (c x y : Value) (K : Value → Prop) : Prop :=
  match c with
  | .bool true => K x
  | .bool false => K y
  | _ => False
def NilP (v : Value) (K : Value → Prop) : Prop :=
  match v with
  | .pointer (some p) => K (.pointer (some p))
  | .iface t x => K (.iface t x)
  | .func (.func f) a b => K (.func (.func f) a b)
  | .func (.yield f) a b => K (.func (.yield f) a b)
  | _ => False
def FieldAddrP (off : Nat) (v : Value) (K : Value → Prop) : Prop :=
  match v with
  | .pointer (some a) => K (.pointer (some (a.add off)))
  | _ => False
def ExtractP (v : Value) (i : Nat) (K : Value → Prop) : Prop :=
  match v with
  | .tuple vs => match vs[i]? with
    | some x => K x
    | none => False
  | _ => False
/-- A part of an aggregate's cells. -/
def PartP (sz : Option Nat) (cs : Array Value) (off : Nat) (K : Value → Prop) : Prop :=
  match sz with
  | some n => K (.agg (cs.extract off (off + n)))
  | none => match cs[off]? with
    | some v => K v
    | none => False
def FieldP (sz : Option Nat) (off : Nat) (v : Value) (K : Value → Prop) : Prop :=
  match v with
  | .agg cs => PartP sz cs off K
  | _ => False
def IdxArrP (n size : Nat) (x i : Value) (K : Value → Prop) : Prop :=
  match x, i with
  | .pointer (some a), .int _ i => (0 ≤ i ∧ i < n) ∧ K (.pointer (some (a.add (i.toNat * size))))
  | _, _ => False
def IdxSliceP (size : Nat) (x i : Value) (K : Value → Prop) : Prop :=
  match x, i with
  | .slice (some a) len _, .int _ i => (0 ≤ i ∧ i < len) ∧ K (.pointer (some (a.add (i.toNat * size))))
  | _, _ => False
def IndexStrP (x i : Value) (K : Value → Prop) : Prop :=
  match x, i with
  | .string s, .int _ i => 0 ≤ i ∧ ∃ b, s[i.toNat]? = some b ∧ K (.int .u8 b.toNat)
  | _, _ => False
def IndexArrP (n size : Nat) (sz : Option Nat) (x i : Value) (K : Value → Prop) : Prop :=
  match x, i with
  | .agg cs, .int _ i => (0 ≤ i ∧ i < n) ∧ PartP sz cs (i.toNat * size) K
  | _, _ => False
def TypeAssertP (asserted : TypeId) (zero : Value) (commaOk : Bool) (x : Value) (K : Value → Prop) : Prop :=
  match x with
  | .iface t v => cond (Nat.beq t asserted) (K (cond commaOk (.tuple #[v, .bool true]) v)) (commaOk = true ∧ K (.tuple #[zero, .bool false]))
  | .nilIface => commaOk = true ∧ K (.tuple #[zero, .bool false])
  | _ => False
def spliceL (cs : List Value) (off : Nat) : List Value → List Value
  | [] => cs
  | v :: r => spliceL (cs.set off v) (off + 1) r
def BuildP (cells : List Value) : List (Nat × Option Nat × Value) → (List Value → Prop) → Prop
  | [], K => K cells
  | (off, none, v) :: r, K => v.oneCell = true ∧ BuildP (cells.set off v) r K
  | (off, some n, v) :: r, K => match v with
    | .agg cs => cs.size = n ∧ BuildP (spliceL cells off cs.toList) r K
    | _ => False
def LenP (v : Value) (K : Value → Prop) : Prop :=
  match v with
  | .slice _ n _ => K (.int .i64 n)
  | _ => False
def LenStrP (v : Value) (K : Value → Prop) : Prop :=
  match v with
  | .string s => K (.int .i64 s.size)
  | _ => False
def CapP (v : Value) (K : Value → Prop) : Prop :=
  match v with
  | .slice _ _ n => K (.int .i64 n)
  | _ => False
def MaxP (x : Value) : List Value → (Value → Prop) → Prop
  | [], K => K x
  | y :: r, K => match x, y with
    | .int k a, .int _ b => MaxP (.int k (if b > a then b else a)) r K
    | _, _ => False
def MinP (x : Value) : List Value → (Value → Prop) → Prop
  | [], K => K x
  | y :: r, K => match x, y with
    | .int k a, .int _ b => MinP (.int k (if b < a then b else a)) r K
    | _, _ => False

/-- Arithmetic, bits, shifts, comparisons of whole numbers and texts. -/
def arithV (op : BinOp) (k : IntKind) (x y : Int) : Option Value :=
  match op with
  | .add => some (.int k (k.wrap (x + y)))
  | .sub => some (.int k (k.wrap (x - y)))
  | .mul => some (.int k (k.wrap (x * y)))
  | .and => some (.int k (k.wrap (BitVec.ofInt k.bits x &&& BitVec.ofInt k.bits y).toNat))
  | .or => some (.int k (k.wrap (BitVec.ofInt k.bits x ||| BitVec.ofInt k.bits y).toNat))
  | .xor => some (.int k (k.wrap (BitVec.ofInt k.bits x ^^^ BitVec.ofInt k.bits y).toNat))
  | .andNot => some (.int k (k.wrap (BitVec.ofInt k.bits x &&& ~~~BitVec.ofInt k.bits y).toNat))
  | .eql => some (.bool (x == y))
  | .neq => some (.bool (x != y))
  | .lss => some (.bool (decide (x < y)))
  | .leq => some (.bool (decide (x ≤ y)))
  | .gtr => some (.bool (decide (x > y)))
  | .geq => some (.bool (decide (x ≥ y)))
  | _ => none
def strV (op : BinOp) (x y : ByteArray) : Option Value :=
  match op with
  | .eql => some (.bool (x.toList == y.toList))
  | .neq => some (.bool (!(x.toList == y.toList)))
  | .lss => some (.bool (Op.bytesLess x.toList y.toList))
  | .leq => some (.bool (Op.bytesLess x.toList y.toList || x.toList == y.toList))
  | .gtr => some (.bool (!(Op.bytesLess x.toList y.toList || x.toList == y.toList)))
  | .geq => some (.bool (!Op.bytesLess x.toList y.toList))
  | _ => none
def OptP (v : Option Value) (K : Value → Prop) : Prop :=
  match v with
  | some x => K x
  | none => False
def BinP (op : BinOp) (x y : Value) (K : Value → Prop) : Prop :=
  match x, y with
  | .int k a, .int k' b => match op with
    | .shl => 0 ≤ b ∧ K (.int k (k.wrap (a * 2 ^ (min b.toNat k.bits))))
    | .shr => 0 ≤ b ∧ K (.int k (a.fdiv (2 ^ (min b.toNat k.bits))))
    | .quo => k = k' ∧ b ≠ 0 ∧ K (.int k (k.wrap (a.tdiv b)))
    | .rem => k = k' ∧ b ≠ 0 ∧ K (.int k (a.tmod b))
    | op => k = k' ∧ OptP (arithV op k a b) K
  | .string a, .string b => match op with
    | .add => ((a.size + b.size : Nat) : Int) ≤ IntKind.i64.max ∧ K (.string (a ++ b))
    | op => OptP (strV op a b) K
  | _, _ => False
def UnP (op : UnOp) (x : Value) (K : Value → Prop) : Prop :=
  match op, x with
  | .not, .bool b => K (.bool (!b))
  | .neg, .int k n => K (.int k (k.wrap (0 - n)))
  | .xor, .int k n => K (.int k (k.wrap (BitVec.ofInt k.bits (if k.signed then -1 else k.max) ^^^ BitVec.ofInt k.bits n).toNat))
  | _, _ => False
def ConvIntP (k : IntKind) (x : Value) (K : Value → Prop) : Prop :=
  match x with
  | .int _ n => K (.int k (k.wrap n))
  | _ => False
def StrP (x : Value) (K : Value → Prop) : Prop :=
  match x with
  | .string s => K (.string s)
  | _ => False
def isC : Operand → Bool
  | .const _ => true
  | _ => false
/-- The streams are as they were. -/
def SameIO (w w' : World) : Prop := w'.os = w.os ∧ w'.output = w.output
theorem SameIO.refl (w : World) : SameIO w w := ⟨rfl, rfl⟩
theorem SameIO.trans {a b c : World} (h : SameIO a b) (h' : SameIO b c) : SameIO a c := ⟨h'.1.trans h.1, h'.2.trans h.2⟩

/-- Go's '==' on values of a type that is no number and no text (c: is one of the two a constant in the text). -/
def EqIs (P : Program) (t : TypeId) (c : Bool) (H : Heap) (x y : Value) (b : Bool) : Prop :=
  ∀ (op : BinOp) (w : World) (xo yo : Operand), (op = .eql ∨ op = .neq) → (isC xo || isC yo) = c → w.heap = H →
    ∃ w', (w'.heap = H ∧ SameIO w w') ∧ (do eqGuard op t xo yo x y; Op.equal t x y : Sem Bool).run P w = .ok b w'
def EqP (P : Program) (t : TypeId) (c : Bool) (H : Heap) (x y : Value) (K : Bool → Prop) : Prop := ∃ b, EqIs P t c H x y b ∧ K b

/-! ### Slices of slices -/
def BoundIs (x : Option Value) (dflt : Nat) (hi : Nat) (r : Nat) : Prop :=
  match x with
  | none => r = dflt
  | some (.int _ i) => (0 ≤ i ∧ i ≤ hi) ∧ r = i.toNat
  | _ => False
def SliceSlP (size : Nat) (x : Value) (lo hi mx : Option Value) (K : Value → Prop) : Prop :=
  match x with
  | .slice a len cap => ∃ m h l, BoundIs mx cap cap m ∧ (mx.isSome = true → hi.isSome = true) ∧ BoundIs hi len m h ∧ BoundIs lo 0 h l ∧
      K (.slice (if m = l then a else a.map (·.add (l * size))) (h - l) (m - l))
  | _ => False
def SliceStrP (x : Value) (lo hi : Option Value) (K : Value → Prop) : Prop :=
  match x with
  | .string s => ∃ h l, BoundIs hi s.size s.size h ∧ BoundIs lo 0 h l ∧ K (.string (s.extract l h))
  | _ => False
def SliceArrP (n size : Nat) (x : Value) (lo hi mx : Option Value) (K : Value → Prop) : Prop :=
  match x with
  | .pointer (some a) => ∃ m h l, BoundIs mx n n m ∧ (mx.isSome = true → hi.isSome = true) ∧ BoundIs hi n m h ∧ BoundIs lo 0 h l ∧
      K (.slice (some (if m = l then a else a.add (l * size))) (h - l) (m - l))
  | _ => False

/-! ### Operations that make or change memory -/
/-- The cells of n zero elements. -/
def zerosN (zero : Array Value) (n : Nat) : List Value := (List.replicate n zero.toList).flatten

def callable (P : Program) (g : FuncId) : Bool :=
  match P.funcs[g]? with
  | some fn => fn.body.isSome && !(fn.name == "runtime.NumGoroutine")
  | none => false

/-- A call of a function, said of heaps alone. -/
def CallH (P : Program) (g : FuncId) (args : List Value) (H : Heap) (K : Value → Heap → Prop) : Prop :=
  callable P g = true ∧ ∀ w : World, w.heap = H → Calls P g args.toArray w fun e w' => ∃ v, e = .returned v ∧ K v w'.heap ∧ SameIO w w'

/-- A call of yield: the loop's round. -/
def YieldH (P : Program) (l : Nat) (args : List Value) (H : Heap) (K : Value → Heap → Prop) : Prop :=
  ∃ r, H[l]? = some (.loop r) ∧ args.length = r.params.size ∧ ∀ w : World, w.heap = H →
    RoundIn Fence.wide 0 P l r.fn ((r.params.zip args.toArray).foldl (fun tmps (t, a) => tmps.setIfInBounds t a) r.tmps) r.assign r.body w
      fun e w' => ∃ v, e = .returned v ∧ K v w'.heap ∧ SameIO w w'

def CallV (P : Program) (f : Value) (args : List Value) (H : Heap) (K : Value → Heap → Prop) : Prop :=
  match f with
  | .func (.func g) first cap => CallH P g (first.toList ++ (args ++ cap.toList)) H K
  | .func (.yield l) first _ => YieldH P l (first.toList ++ args) H K
  | _ => False

def MethodIs (P : Program) (t : TypeId) (v : Value) (name : String) (H : Heap) (f : FuncId) (r : Value) : Prop :=
  ∀ w : World, w.heap = H → (method (P.types.size + Made.depth) t v name).run P w = .ok (f, r) w

def InvokeP (P : Program) (recv : Value) (name : String) (args : List Value) (H : Heap) (K : Value → Heap → Prop) : Prop :=
  match recv with
  | .iface t v => ∃ f r, MethodIs P t v name H f r ∧ CallH P f (r :: args) H K
  | _ => False

def readCells (size n : Nat) (H : Heap) : Value → Option (List Value)
  | .slice (some a) _ _ => readN H a 0 (n * size)
  | .slice none _ _ => some []
  | .string s => some ((s.extract 0 n).data.toList.map fun b => .int .u8 b.toNat)
  | _ => none
def lenV : Value → Nat
  | .slice _ n _ => n
  | .string s => s.size
  | _ => 0

def StoreRowP (base : Option Addr) (off : Nat) (vs : List Value) (H : Heap) (K : Heap → Prop) : Prop :=
  match base with
  | some a => storeAll (a.add off) vs 0 H K
  | none => K H

def AppendP (P : Program) (elem : TypeId) (s x : Value) (H : Heap) (K : Value → Heap → Prop) : Prop :=
  match s with
  | .slice base len cap => ∃ new, readCells (sizeT P elem) (lenV x) H x = some new ∧
      (len + lenV x ≤ cap → StoreRowP base (len * sizeT P elem) new H (K (.slice base (len + lenV x) cap))) ∧
      (cap < len + lenV x → ∃ old, readCells (sizeT P elem) len H s = some old ∧
        Builtin.nextslicecap (len + lenV x) cap * bytesT P elem ≤ 2 ^ 48 ∧ (0 < bytesT P elem ∧ ((len + lenV x : Nat) : Int) ≤ IntKind.i64.max) ∧
        ∀ c, len + lenV x ≤ c → K (.slice (some ⟨H.size, 0, none⟩) (len + lenV x) c) (H.push (.cells (old ++ new ++ zerosN (zeroT P elem).cells (c - (len + lenV x))).toArray elem)))
  | _ => False

/-- append(s, make([]T, n)...). -/
def AppendZP (P : Program) (elem : TypeId) (s x : Value) (H : Heap) (K : Value → Heap → Prop) : Prop :=
  match s, x with
  | .slice base len cap, .int _ n => (0 ≤ n ∧ n ≤ IntKind.i64.max ∧ n * bytesT P elem ≤ 2 ^ 48) ∧
      (len + n.toNat ≤ cap → StoreRowP base (len * sizeT P elem) (zerosN (zeroT P elem).cells n.toNat) H (K (.slice base (len + n.toNat) cap))) ∧
      (cap < len + n.toNat → ∃ old, readCells (sizeT P elem) len H s = some old ∧
        Builtin.nextslicecap (len + n.toNat) cap * bytesT P elem ≤ 2 ^ 48 ∧ ((len + n.toNat : Nat) : Int) ≤ IntKind.i64.max ∧
        ∀ c, len + n.toNat ≤ c → K (.slice (some ⟨H.size, 0, none⟩) (len + n.toNat) c) (H.push (.cells (old ++ zerosN (zeroT P elem).cells n.toNat ++ zerosN (zeroT P elem).cells (c - (len + n.toNat))).toArray elem)))
  | _, _ => False

def CopyP (P : Program) (elem : TypeId) (d x : Value) (H : Heap) (K : Value → Heap → Prop) : Prop :=
  match d with
  | .slice base len _ => ∃ new, readCells (sizeT P elem) (Nat.min (lenV x) len) H x = some new ∧
      StoreRowP base 0 new H (K (.int .i64 (Nat.min (lenV x) len)))
  | _ => False

def MakeSliceP (P : Program) (elem : TypeId) (l c : Value) (H : Heap) (K : Value → Heap → Prop) : Prop :=
  match l, c with
  | .int _ l, .int _ c => (0 ≤ l ∧ l ≤ c ∧ c ≤ IntKind.i64.max ∧ (bytesT P elem : Int) * c ≤ 2 ^ 48) ∧
      K (.slice (some ⟨H.size, 0, none⟩) l.toNat c.toNat) (H.push (.cells (zerosN (zeroT P elem).cells c.toNat).toArray elem))
  | _, _ => False

def AllocP (cells : Array Value) (t : TypeId) (H : Heap) (K : Value → Heap → Prop) : Prop :=
  K (.pointer (some ⟨H.size, 0, none⟩)) (H.push (.cells cells t))
def BoxP (sz : Option Nat) (t : TypeId) (v : Value) (H : Heap) (K : Value → Heap → Prop) : Prop :=
  match sz with
  | none => v.oneCell = true ∧ AllocP #[v] t H K
  | some n => match v with
    | .agg cs => AllocP cs t H K
    | _ => False
def BuildSliceP (elem : TypeId) (len : Nat) (cells : List Value) (H : Heap) (K : Value → Heap → Prop) : Prop :=
  K (.slice (some ⟨H.size, 0, none⟩) len len) (H.push (.cells cells.toArray elem))

def StrBytesP (elem : TypeId) (x : Value) (H : Heap) (K : Value → Heap → Prop) : Prop :=
  match x with
  | .string s => ∀ c, s.size ≤ c → K (.slice (some ⟨H.size, 0, none⟩) s.size c)
      (H.push (.cells ((s.data.map fun b => Value.int .u8 b.toNat) ++ Array.replicate (c - s.size) (.int .u8 0)) elem (c, c + 1)))
  | _ => False
def byteOfV : Value → Option UInt8
  | .int .u8 n => some (UInt8.ofNat n.toNat)
  | _ => none
def BytesStrP (x : Value) (H : Heap) (K : Value → Prop) : Prop :=
  match x with
  | .slice none _ _ => K (.string .empty)
  | .slice (some a) len _ => ∃ (cs : List Value) (bs : List UInt8), readN H a 0 len = some cs ∧ cs.map byteOfV = bs.map some ∧ K (.string ⟨bs.toArray⟩)
  | _ => False

/-! ### One operation -/
def quiet (P : Program) : Op → Bool
  | .move _ | .assign _ | .pick .. | .load .. | .nilCheck _ | .unOp .. | .makeInterface .. | .makeFunc .. | .build .. | .extract .. | .fieldAddr .. | .field ..
  | .indexAddr .. | .index .. | .slice .. | .binOp .. | .typeAssert .. => true
  | .convert s d _ => match P.underlying s, P.underlying d with
    | some (.int _), some (.int _) => true
    | some .string, some .string => true
    | _, _ => false
  | .call c => match c.callee with
    | .builtin .len => true
    | .builtin .cap => true
    | .builtin .max => true
    | .builtin .min => true
    | _ => false
  | _ => false

abbrev Keep := Option (Heap → Prop)

def partsOf (P : Program) (ρ : Operand → Value) (place : Nat → Nat × TypeId) : List (Nat × Operand) → List (Nat × Option Nat × Value)
  | [] => []
  | (i, x) :: r => ((place i).1, shapeT P (place i).2, ρ x) :: partsOf P ρ place r

def opQ (P : Program) (ρ : Operand → Value) (op : Op) (H : Heap) (K : Value → Keep → Prop) : Prop :=
  match op with
  | .move x => K (ρ x) none
  | .assign x => K (ρ x) none
  | .pick c a b => PickP (ρ c) (ρ a) (ρ b) (fun v => K v none)
  | .load t a => LoadP (shapeT P t) H (ρ a) fun x => K x (some fun H' => LoadIs (shapeT P t) H' (ρ a) x)
  | .nilCheck x => NilP (ρ x) (fun v => K v none)
  | .binOp op t x y _ => match P.underlying t with
    | some (.int _) => BinP op (ρ x) (ρ y) (fun v => K v none)
    | some .string => BinP op (ρ x) (ρ y) (fun v => K v none)
    | some (.float _) => False
    | some (.complex _) => False
    | _ => match op with
      | .eql => EqP P t (isC x || isC y) H (ρ x) (ρ y) fun b => K (.bool b) (some fun H' => EqIs P t (isC x || isC y) H' (ρ x) (ρ y) b)
      | .neq => EqP P t (isC x || isC y) H (ρ x) (ρ y) fun b => K (.bool (!b)) (some fun H' => EqIs P t (isC x || isC y) H' (ρ x) (ρ y) b)
      | _ => False
  | .unOp op _ x => UnP op (ρ x) (fun v => K v none)
  | .convert s d x => match P.underlying s, P.underlying d with
    | some (.int _), some (.int k) => ConvIntP k (ρ x) (fun v => K v none)
    | some .string, some .string => StrP (ρ x) (fun v => K v none)
    | _, _ => False
  | .makeInterface t x => K (.iface t (ρ x)) none
  | .makeFunc fn a b => K (.func fn (a.toList.map ρ).toArray (b.toList.map ρ).toArray) none
  | .build t parts => match P.underlying t with
    | some (.struct fs) => BuildP (zeroT P t).cells.toList (partsOf P ρ (fun i => match fs[i]? with | some f => (f.offset, f.type) | none => (0, 0)) parts.toList) (fun cs => K (.agg cs.toArray) none)
    | some (.array _ e) => BuildP (zeroT P t).cells.toList (partsOf P ρ (fun i => (i * sizeT P e, e)) parts.toList) (fun cs => K (.agg cs.toArray) none)
    | _ => False
  | .extract x i => ExtractP (ρ x) i (fun v => K v none)
  | .fieldAddr s x f => match fieldT P s f with
    | some fd => FieldAddrP fd.offset (ρ x) (fun v => K v none)
    | none => False
  | .field s x f => match fieldT P s f with
    | some fd => FieldP (shapeT P fd.type) fd.offset (ρ x) (fun v => K v none)
    | none => False
  | .indexAddr t x i => match P.underlying t with
    | some (.array n e) => IdxArrP n (sizeT P e) (ρ x) (ρ i) (fun v => K v none)
    | some (.slice e) => IdxSliceP (sizeT P e) (ρ x) (ρ i) (fun v => K v none)
    | _ => False
  | .index t x i => match P.underlying t with
    | some .string => IndexStrP (ρ x) (ρ i) (fun v => K v none)
    | some (.array n e) => IndexArrP n (sizeT P e) (shapeT P e) (ρ x) (ρ i) (fun v => K v none)
    | _ => False
  | .slice t x lo hi mx => match P.underlying t with
    | some .string => match mx with
      | none => SliceStrP (ρ x) (lo.map ρ) (hi.map ρ) (fun v => K v none)
      | some _ => False
    | some (.slice e) => SliceSlP (sizeT P e) (ρ x) (lo.map ρ) (hi.map ρ) (mx.map ρ) (fun v => K v none)
    | some (.array n e) => SliceArrP n (sizeT P e) (ρ x) (lo.map ρ) (hi.map ρ) (mx.map ρ) (fun v => K v none)
    | some (.pointer arr) => match arrT P arr with
      | some (n, e) => mx = none ∧ SliceArrP n (sizeT P e) (ρ x) (lo.map ρ) (hi.map ρ) none (fun v => K v none)
      | none => False
    | _ => False
  | .typeAssert x _ asserted ok => TypeAssertP asserted (zeroT P asserted) ok (ρ x) (fun v => K v none)
  | .call c => match c.callee, c.args.toList, c.argTypes.toList with
    | .builtin .len, [x], [t] => (match P.underlying t with
      | some (.slice _) => LenP (ρ x) (fun v => K v none)
      | some .string => LenStrP (ρ x) (fun v => K v none)
      | some (.array n _) => K (.int .i64 n) none
      | _ => False)
    | .builtin .cap, [x], [t] => (match P.underlying t with
      | some (.slice _) => CapP (ρ x) (fun v => K v none)
      | _ => False)
    | .builtin .max, x :: r, _ => MaxP (ρ x) (r.map ρ) (fun v => K v none)
    | .builtin .min, x :: r, _ => MinP (ρ x) (r.map ρ) (fun v => K v none)
    | _, _, _ => False
  | _ => False

def opE (P : Program) (ρ : Operand → Value) (op : Op) (H : Heap) (K : Value → Heap → Prop) : Prop :=
  match op with
  | .alloc t => AllocP (zeroT P t).cells t H K
  | .box t x => BoxP (shapeT P t) t (ρ x) H K
  | .buildSlice t len parts => match elemT P t with
    | some e => BuildP (zerosN (zeroT P e).cells len) (partsOf P ρ (fun i => (i * sizeT P e, e)) parts.toList) (fun cs => BuildSliceP e len cs H K)
    | none => False
  | .store t a x => StoreP (shapeT P t) H (ρ a) (ρ x) (fun H' => K undef H')
  | .makeSlice t l c => match elemT P t with
    | some e => MakeSliceP P e (ρ l) (ρ c) H K
    | none => False
  | .convert s d x => match P.underlying s, P.underlying d with
    | some .string, some (.slice e) => (match P.underlying e with
      | some (.int .u8) => StrBytesP e (ρ x) H K
      | _ => False)
    | some (.slice e), some .string => (match P.underlying e with
      | some (.int .u8) => BytesStrP (ρ x) H (fun v => K v H)
      | _ => False)
    | _, _ => False
  | .call c => match c.callee with
    | .value f => CallV P (ρ f) (c.args.toList.map ρ) H K
    | .invoke r m => InvokeP P (ρ r) m (c.args.toList.map ρ) H K
    | .builtin .append => (match c.args.toList, c.argTypes.toList with
      | [s, x], [t, u] => (match elemT P t, P.underlying u with
        | some e, some (.slice _) => AppendP P e (ρ s) (ρ x) H K
        | some e, some .string => AppendP P e (ρ s) (ρ x) H K
        | some e, some (.int _) => AppendZP P e (ρ s) (ρ x) H K
        | _, _ => False)
      | _, _ => False)
    | .builtin .copy => (match c.args.toList, c.argTypes.toList with
      | [s, x], [t, u] => (match elemT P t, P.underlying u with
        | some e, some (.slice _) => CopyP P e (ρ s) (ρ x) H K
        | some e, some .string => CopyP P e (ρ s) (ρ x) H K
        | _, _ => False)
      | _, _ => False)
    | _ => False
  | _ => False

def opX (P : Program) (ρ : Operand → Value) (op : Op) (H : Heap) (K : Value → Heap → Prop) : Prop :=
  cond (quiet P op) (opQ P ρ op H (fun v _ => K v H)) (opE P ρ op H K)

/-! ### Regions -/
def dstOf (all : List Oper) (j : Nat) : Option Nat := match all[j]? with | some o => o.dst | none => none

/-- An operation whose guard has itself been passed over. -/
def SkipP (v : Value) (A : Prop) : Prop :=
  match v with
  | .tuple _ => A
  | _ => False

/-- Is the operation carried out, and with what known of its guard? sk: the operations that have been passed over. -/
def guardX (all : List Oper) (sk : List Nat) (o : Oper) (e : Env) (F : Bool → Env → Prop) : Prop :=
  match o.guard with
  | none => F true e
  | some (j, want) => match dstOf all j with
    | some d => cond (sk.contains j) (SkipP (e.get d) (F false e)) (SplitP (e.get d) (F want (e.put (some d) (.bool true))) (F (!want) (e.put (some d) (.bool false))))
    | none => False

def opsX (P : Program) (all : List Oper) : Nat → List Nat → List Oper → Env → Heap → (Env → Heap → Prop) → Prop
  | _, _, [], e, H, K => K e H
  | i, sk, o :: rest, e, H, K => guardX all sk o e fun run e' =>
      cond run (opX P e'.ev o.op H fun v H' => opsX P all (i + 1) sk rest (e'.put o.dst v) H' K) (opsX P all (i + 1) (i :: sk) rest (e'.put o.dst undef) H K)

def edgesDone (done : List Nat) : List Edge → Bool
  | [] => true
  | e :: r => (!Region.binds .any e || done.contains e.on) && edgesDone done r

/-- Who is ready, from number i on. -/
def readyX (done : List Nat) : Nat → List Oper → List (Nat × Oper)
  | _, [] => []
  | i, o :: r => cond (!done.contains i && edgesDone done o.after.toList) ((i, o) :: readyX done (i + 1) r) (readyX done (i + 1) r)

def firstQuiet (P : Program) : List (Nat × Oper) → Option (Nat × Oper)
  | [] => none
  | (i, o) :: r => cond (quiet P o.op) (some (i, o)) (firstQuiet P r)

def maskOf (acc : List Nat) : List Edge → Nat
  | [] => 0
  | e :: r => cond (Region.binds .any e) (2 ^ e.on ||| acc.getD e.on 0 ||| maskOf acc r) (maskOf acc r)

/-- Who must have come ahead of each operation, directly or through others. -/
def masksX : List Nat → List Oper → List Nat
  | acc, [] => acc
  | acc, o :: r => masksX (acc ++ [maskOf acc o.after.toList]) r

def keepX (m : Nat) : List (Nat × (Heap → Prop)) → Heap → Prop → Prop
  | [], _, A => A
  | (i, S) :: r, H, A => cond (m.testBit i) (keepX m r H A) (S H ∧ keepX m r H A)

/-- What is still to be kept behind an operation: not what must have come ahead of it. -/
def filterX (m : Nat) : List (Nat × (Heap → Prop)) → List (Nat × (Heap → Prop))
  | [] => []
  | (i, S) :: r => cond (m.testBit i) (filterX m r) ((i, S) :: filterX m r)

def pendX (i : Nat) (S : Keep) (pend : List (Nat × (Heap → Prop))) : List (Nat × (Heap → Prop)) :=
  match S with
  | some S => (i, S) :: pend
  | none => pend

def allX : List (Nat × Oper) → (Nat × Oper → Prop) → Prop
  | [], _ => True
  | [x], F => F x
  | x :: r, F => F x ∧ allX r F

def drawX (P : Program) (all : List Oper) (masks : List Nat) : Nat → List Nat → List Nat → List (Nat × (Heap → Prop)) → Env → Heap → (Env → Heap → Prop) → Prop
  | 0, _, _, _, e, H, K => K e H
  | fuel + 1, done, sk, pend, e, H, K =>
    match firstQuiet P (readyX done 0 all) with
    | some (i, o) => guardX all sk o e fun run e' =>
        cond run (opQ P e'.ev o.op H fun v S => drawX P all masks fuel (i :: done) sk (pendX i S pend) (e'.put o.dst v) H K)
          (drawX P all masks fuel (i :: done) (i :: sk) pend (e'.put o.dst undef) H K)
    | none => match readyX done 0 all with
      | [] => False
      | rs => allX rs fun x => guardX all sk x.2 e fun run e' =>
          cond run (opE P e'.ev x.2.op H fun v H' => keepX (masks.getD x.1 0) pend H' (drawX P all masks fuel (x.1 :: done) sk (filterX (masks.getD x.1 0) pend) (e'.put x.2.dst v) H' K))
            (drawX P all masks fuel (x.1 :: done) (x.1 :: sk) (filterX (masks.getD x.1 0) pend) (e'.put x.2.dst undef) H K)

/-! ### Code -/
def Tup : Nat → Type
  | 0 => Unit
  | 1 => Value
  | n + 2 => Value × Tup (n + 1)

def putT (s : List (Nat × Value)) : (l : List Nat) → Tup l.length → List (Nat × Value)
  | [], _ => s
  | [a], v => (a, v) :: s
  | a :: b :: r, t => (a, t.1) :: putT s (b :: r) t.2

def getT (e : Env) : (l : List Nat) → Tup l.length
  | [] => ()
  | [a] => e.get a
  | a :: b :: r => (e.get a, getT e (b :: r))

abbrev Ann := List (Nat × List Nat × List Nat)
def annOf (ann : Ann) (k : Nat) : Option (List Nat × List Nat) :=
  match ann with
  | [] => none
  | (j, x) :: r => cond (Nat.beq j k) (some x) (annOf r k)

def keyOf : Code → Nat
  | .region id _ _ => id
  | .seq a _ => keyOf a
  | .block _ c => keyOf c
  | .loop c => keyOf c + 100000
  | .scope c => keyOf c
  | .cond _ a _ => keyOf a
  | _ => 1000000

/-- The state at a loop's head, or where ways meet: the live slots, and what is deferred; the rest is whatever it is. -/
abbrev St (l : List Nat) := Tup l.length × List Deferred
def stOf (e : Env) (live : List Nat) : St live := (getT e live, e.ds)
def mixX (e : Env) (live wr : List Nat) (s : St live) (g : Tup wr.length) : Env := { s := putT (putT e.s wr g) live s.1, ds := s.2 }

def LoopP {S G : Type} (F : S → G → (S → Heap → Prop) → Heap → Prop) (s : S) (H : Heap) : Prop :=
  ∃ (I : S → Heap → Prop) (μ : S → Heap → Nat), I s H ∧ ∀ (s : S) (g : G) (H : Heap), I s H → F s g (fun s' H' => I s' H' ∧ μ s' H' < μ s H) H

def JoinP {S G : Type} (R : S → G → Heap → Prop) (F : (S → Heap → Prop) → Prop) : Prop := F fun s H => ∀ g, R s g H

def jumpOf : Exit → Option Code
  | .ret => some .ret
  | .exit id => some (.exit id)
  | .goto l => some (.goto l)
  | _ => none
def isN : Exit → Bool
  | .normal => true
  | _ => false
def plainExit : Exit → Bool
  | .panic _ => false
  | .outgrown => false
  | _ => true

def BeginP (l : Nat) (H : Heap) (K : Heap → Prop) : Prop :=
  ∃ L : Loop, H[l]? = some (.loop L) ∧ L.state = .ready ∧ K (H.setIfInBounds l (.loop { L with state := .busy }))
def EndP (l : Nat) (ex : Exit) (H : Heap) (K : Value → Heap → Prop) : Prop :=
  plainExit ex = true ∧ ∃ L : Loop, H[l]? = some (.loop L) ∧ K (.bool (isN ex)) (H.setIfInBounds l (.loop { L with state := if (jumpOf ex).isNone then .ready else .done, pending := jumpOf ex }))

def listT : (n : Nat) → Tup n → List Value
  | 0, _ => []
  | 1, v => [v]
  | n + 2, t => t.1 :: listT (n + 1) t.2

/-- What goes on behind a range over a function: by the jump that a round has left. -/
def AltP (p : Option Code) : List (Exit × Prop) → Prop
  | [] => False
  | [x] => p = jumpOf x.1 ∧ x.2
  | x :: r => (p = jumpOf x.1 ∧ x.2) ∨ AltP p r

/-- A call of a function's value, no loop's yield. -/
def CallF (P : Program) (f : Value) (args : List Value) (H : Heap) (K : Value → Heap → Prop) : Prop :=
  match f with
  | .func (.func g) first cap => CallH P g (first.toList ++ (args ++ cap.toList)) H K
  | _ => False

/-- A range over a function: f is called with the loop's yield; each call of yield is a round Rd. -/
def RangeP (P : Program) (r : Option Nat) (fv : Value) (np : Nat) (Rd : Nat → Tup np → Heap → (Value → Heap → Prop) → Prop)
    (After : Option Code → List Deferred → Heap → Prop) (H : Heap) : Prop :=
  match r with
  | none => ∀ L : Loop, L.state = .ready → L.pending = none →
      (∀ vs H' K, H'[H.size + 1]? = some (.loop L) → Rd (H.size + 1) vs H' K → YieldH P (H.size + 1) (listT np vs) H' K) →
      CallF P fv [.func (.yield (H.size + 1)) #[] #[]] ((H.push (.deferred (some []))).push (.loop L)) fun _ H3 =>
        ∃ L', H3[H.size + 1]? = some (.loop L') ∧ L'.state ≠ .busy ∧
          After L'.pending [{ target := .collected H.size, args := #[] }] (H3.setIfInBounds (H.size + 1) (.loop { L' with state := .exhausted }))
  | some l0 => ∃ L0 : Loop, H[l0]? = some (.loop L0) ∧ ∀ L : Loop, L.state = .ready → L.pending = none →
      (∀ vs H' K, H'[H.size]? = some (.loop L) → Rd H.size vs H' K → YieldH P H.size (listT np vs) H' K) →
      CallF P fv [.func (.yield H.size) #[] #[]] (H.push (.loop L)) fun _ H3 =>
        ∃ L', H3[H.size]? = some (.loop L') ∧ L'.state ≠ .busy ∧
          After L'.pending [] (H3.setIfInBounds H.size (.loop { L' with state := .exhausted }))

/-- The ways in which code may be left, but off its end (each once; what a block catches is not among them). -/
def insX (x : Nat × Nat) : List (Nat × Nat) → List (Nat × Nat)
  | [] => [x]
  | y :: r => cond (Nat.beq x.1 y.1 && Nat.beq x.2 y.2) (y :: r) (y :: insX x r)
def joinE : List (Nat × Nat) → List (Nat × Nat) → List (Nat × Nat)
  | a, [] => a
  | a, x :: r => joinE (insX x a) r
def dropE (id : Nat) : List (Nat × Nat) → List (Nat × Nat)
  | [] => []
  | y :: r => cond (Nat.beq y.1 1 && Nat.beq y.2 id) (dropE id r) (y :: dropE id r)
def exitsOf : Code → List (Nat × Nat)
  | .ret => [(0, 0)]
  | .exit id => [(1, id)]
  | .goto l => [(2, l)]
  | .seq a b => joinE (exitsOf a) (exitsOf b)
  | .cond _ a b => joinE (exitsOf a) (exitsOf b)
  | .block id c => dropE id (exitsOf c)
  | .loop c => exitsOf c
  | .scope c => exitsOf c
  | .rangeFunc _ _ _ c => exitsOf c
  | _ => []
def exitOf (x : Nat × Nat) : Exit :=
  match x.1 with
  | 0 => .ret
  | 1 => .exit x.2
  | _ => .goto x.2
def altsX (Q : Exit → Prop) : List (Nat × Nat) → List (Exit × Prop)
  | [] => []
  | x :: r => (exitOf x, Q (exitOf x)) :: altsX Q r

def codeX (P : Program) (ann : Ann) : Option Nat → Code → Env → Heap → (Exit → Env → Heap → Prop) → Prop
  | _, .skip, e, H, Q => Q .normal e H
  | _, .label _, e, H, Q => Q .normal e H
  | _, .exit id, e, H, Q => Q (.exit id) e H
  | _, .goto l, e, H, Q => Q (.goto l) e H
  | _, .ret, e, H, Q => Q .ret e H
  | _, .refuse _, _, _, _ => False
  | _, .region _ ops draw, e, H, Q =>
    cond draw (drawX P ops.toList (masksX [] ops.toList) ops.toList.length [] [] [] e H fun e' H' => Q .normal e' H') (opsX P ops.toList 0 [] ops.toList e H fun e' H' => Q .normal e' H')
  | r, .seq a b, e, H, Q => match annOf ann (2 * keyOf b + 1) with
    | some (live, wr) => JoinP (S := St live) (G := Tup wr.length) (fun s g H' => codeX P ann r b (mixX e live wr s g) H' Q)
        (fun J => codeX P ann r a e H fun ex e' H' => match ex with
          | .normal => J (stOf e' live) H'
          | ex => Q ex e' H')
    | none => codeX P ann r a e H fun ex e' H' => match ex with
      | .normal => codeX P ann r b e' H' Q
      | ex => Q ex e' H'
  | r, .cond c a b, e, H, Q => SplitP (e.ev c) (codeX P ann r a e H Q) (codeX P ann r b e H Q)
  | r, .block id c, e, H, Q => codeX P ann r c e H fun ex e' H' => match ex with
    | .exit id' => cond (Nat.beq id' id) (Q .normal e' H') (Q (.exit id') e' H')
    | ex => Q ex e' H'
  | r, .scope c, e, H, Q => codeX P ann r c e H fun ex e' H' => match ex with
    | .goto _ => False
    | ex => Q ex e' H'
  | r, .loop c, e, H, Q => match annOf ann (2 * keyOf c) with
    | some (live, wr) => LoopP (S := St live) (G := Tup wr.length) (fun s g self H' => codeX P ann r c (mixX e live wr s g) H' fun ex e' H'' => match ex with
        | .normal => self (stOf e' live) H''
        | ex => Q ex e' H'') (stOf e live) H
    | none => False
  | r, .rangeFunc f ps assign body, e, H, Q => RangeP P r (e.ev f) ps.toList.length
      (fun l vs H' K => codeX P ann (some l) assign { s := putT e.s ps.toList vs, ds := [] } H' fun ex e1 H1 => match ex with
        | .normal => BeginP l H1 fun H2 => codeX P ann (some l) body e1 H2 fun ex _ H3 => EndP l ex H3 K
        | _ => False)
      (fun p ds H' => AltP p ((.normal, Q .normal { s := e.s, ds := ds ++ e.ds } H') :: altsX (fun ex => Q ex { s := e.s, ds := ds ++ e.ds } H') (exitsOf body))) H

def ResL (P : Program) (e : Env) (H : Heap) : List ResultVar → (List Value → Prop) → Prop
  | [], K => K []
  | .tmp t :: r, K => ResL P e H r fun vs => K (e.get t :: vs)
  | .cell a t :: r, K => LoadP (shapeT P t) H (e.get a) fun v => ResL P e H r fun vs => K (v :: vs)

def oneOf (vs : List Value) : Value :=
  match vs with
  | [v] => v
  | vs => .tuple vs.toArray

def RetP : List Deferred → Heap → (Heap → Prop) → Prop
  | [], H, K => K H
  | d :: ds, H, K => match d.target with
    | .collected D => H[D]? = some (.deferred (some [])) ∧ RetP ds (H.setIfInBounds D (.deferred none)) K
    | _ => False

def envOf : Nat → List Value → List (Nat × Value)
  | _, [] => []
  | i, v :: r => (i, v) :: envOf (i + 1) r

def retX (P : Program) (res : List ResultVar) (e : Env) (H : Heap) (K : Value → Heap → Prop) : Prop :=
  RetP e.ds H fun H' => ResL P e H' res fun vs => K (oneOf vs) H'

def bodyOf (f : Func) : Code := match f.body with | some c => c | none => .skip

def bodyX (P : Program) (ann : Ann) (c : Code) (res : List ResultVar) (args : List Value) (H : Heap) (K : Value → Heap → Prop) : Prop :=
  codeX P ann none c { s := envOf 0 args, ds := [] } H fun ex e H' => match ex with
    | .normal => retX P res e H' K
    | .ret => retX P res e H' K
    | _ => False
end Go.X
set_option linter.unusedVariables false
set_option linter.unusedSimpArgs false
namespace Go.X
open Go
variable {P : Program}

/-! ### What is asked of an operation beforehand, off the program's tables -/
def isIfaceT (P : Program) (t : TypeId) : Bool := match P.underlying t with | some (.interface _) => true | _ => false
def okPart (P : Program) (n : Nat) (off : Nat) (t : TypeId) : Bool := okT P t && Nat.ble (off + sizeT P t) n
def okParts (P : Program) (n : Nat) (place : Nat → Nat × TypeId) : List (Nat × Operand) → Bool
  | [] => true
  | (i, _) :: r => okPart P n (place i).1 (place i).2 && okParts P n place r
def okElem (P : Program) (e : TypeId) : Bool := okT P e && hasZeroT P e && Nat.beq (zeroT P e).cells.size (sizeT P e)

def okOp (P : Program) (op : Op) : Bool :=
  match op with
  | .load t _ => okT P t
  | .store t _ _ => okT P t
  | .alloc t => okElem P t
  | .box t _ => okT P t
  | .binOp _ t _ _ _ => true
  | .makeInterface t _ => (P.underlying t).isSome && !isIfaceT P t
  | .build t parts => okElem P t && (match P.underlying t with
    | some (.struct fs) => okParts P (sizeT P t) (fun i => match fs[i]? with | some f => (f.offset, f.type) | none => (0, 0)) parts.toList && parts.toList.all (fun p => fs[p.1]?.isSome) && fs.toList.all (fun f => okT P f.type)
    | some (.array _ e) => okT P e && okParts P (sizeT P t) (fun i => (i * sizeT P e, e)) parts.toList
    | _ => false)
  | .buildSlice t len parts => (match elemT P t with
    | some e => okElem P e && Nat.ble 1 (sizeT P e) && Nat.ble (len * sizeT P e) (2 ^ 24) && okParts P (len * sizeT P e) (fun i => (i * sizeT P e, e)) parts.toList
    | none => false)
  | .fieldAddr s _ f => (match fieldT P s f with | some fd => okT P fd.type && Nat.ble 1 (sizeT P fd.type) | none => false)
  | .field s _ f => (match fieldT P s f with | some fd => okT P fd.type | none => false)
  | .indexAddr t _ _ => (match P.underlying t with | some (.array _ e) => okT P e | some (.slice e) => okT P e | _ => false)
  | .index t _ _ => (match P.underlying t with | some (.array _ e) => okT P e | some .string => true | _ => false)
  | .slice t _ _ _ _ => (match P.underlying t with
    | some (.array _ e) => okT P e | some (.slice e) => okT P e | some .string => true
    | some (.pointer arr) => (match arrT P arr with | some (_, e) => okT P e | none => false)
    | _ => false)
  | .typeAssert _ _ asserted _ => (P.underlying asserted).isSome && !isIfaceT P asserted && hasZeroT P asserted
  | .makeSlice t _ _ => (match elemT P t with | some e => okElem P e && Nat.ble 1 (sizeT P e) | none => false)
  | .call c => (match c.callee, c.argTypes.toList with
    | .builtin .append, t :: _ => (match elemT P t with | some e => okElem P e && Nat.ble 1 (sizeT P e) | none => false)
    | .builtin .copy, t :: _ => (match elemT P t with | some e => okT P e | none => false)
    | _, _ => true)
  | _ => true

def keepS (S : Keep) (H : Heap) : Prop :=
  match S with
  | none => True
  | some S => S H

def Yld (P : Program) (s : Sem Next) (H : Heap) (v : Value) : Prop := ∀ w : World, w.heap = H → ∃ w' : World, (w'.heap = H ∧ SameIO w w') ∧ s.run P w = .ok (.value v) w'

theorem yld_pure {s : Sem Next} {v : Value} (h : ∀ w : World, s.run P w = .ok (.value v) w) (H : Heap) : Yld P s H v := fun w hw => ⟨w, ⟨hw, SameIO.refl w⟩, h w⟩

theorem okT_spec {t : TypeId} (h : okT P t = true) : ∃ i d, P.info? t = some i ∧ P.underlying t = some d ∧ (isAggT P t = false → i.size = 1) := by
  unfold okT at h
  simp only [Bool.and_eq_true, Option.isSome_iff_exists, Bool.or_eq_true, beq_iff_eq] at h
  obtain ⟨⟨⟨i, hi⟩, ⟨d, hd⟩⟩, h⟩ := h
  refine ⟨i, d, hi, hd, fun hn => ?_⟩
  rcases h with h | h
  · rw [hn] at h; cases h
  · simpa [sizeT, hi] using h

theorem run_isAgg' {t : TypeId} (h : okT P t = true) (w : World) : (isAgg t).run P w = .ok (isAggT P t) w := by
  obtain ⟨i, d, hi, hd, _⟩ := okT_spec h
  unfold isAgg isAggT
  simp only [Sem.run_bind, run_underlying hd, Result.andThen_ok, hd]
  cases d <;> rfl

theorem run_sizeOf' {t : TypeId} (h : okT P t = true) (w : World) : (sizeOf t).run P w = .ok (sizeT P t) w := by
  obtain ⟨i, d, hi, hd, _⟩ := okT_spec h
  simp [sizeOf, typeInfo, hi, sizeT]

theorem run_typeInfo' {t : TypeId} {i : TypeInfo} (h : P.info? t = some i) (w : World) : (typeInfo t).run P w = .ok i w := by
  simp [typeInfo, h]

theorem run_zeroValue' {t : TypeId} (h : hasZeroT P t = true) (w : World) : (zeroValue t).run P w = .ok (zeroT P t) w := by
  unfold hasZeroT at h
  cases hi : P.info? t with
  | none => rw [hi] at h; cases h
  | some i =>
    rw [hi] at h
    simp only [Option.isSome_iff_exists] at h
    obtain ⟨z, hz⟩ := h
    simp [zeroValue, typeInfo, hi, hz, zeroT]

theorem run_loadCells' (H : Heap) (p : Addr) : ∀ (n i : Nat) (acc : Array Value) (cs : List Value) (w : World), w.heap = H → readN H p i n = some cs →
    (loadCellsFrom p i n acc).run P w = .ok (acc ++ cs.toArray) w := by
  intro n
  induction n with
  | zero => intro i acc cs w hw h; simp [readN] at h; subst h; simp [loadCellsFrom]
  | succ n ih =>
    intro i acc cs w hw h
    simp only [readN] at h
    cases hc : hcell H (p.add i) with
    | none => rw [hc] at h; cases h
    | some v =>
      rw [hc] at h
      cases hr : readN H p (i + 1) n with
      | none => rw [hr] at h; cases h
      | some r =>
        rw [hr] at h
        simp only [Option.some.injEq] at h
        subst h
        simp only [loadCellsFrom, Sem.run_bind, run_load, cell_eq, hw, hc, Result.andThen_ok]
        rw [ih (i + 1) (acc.push v) r w hw hr]
        simp

theorem run_loadVar' {t : TypeId} (ok : okT P t = true) {H : Heap} {p : Addr} {x : Value} (h : LoadIs (shapeT P t) H (.pointer (some p)) x) {w : World} (hw : w.heap = H) :
    (loadVar t p).run P w = .ok x w := by
  unfold shapeT at h
  simp only [loadVar, Sem.run_bind, run_isAgg' ok, Result.andThen_ok, Sem.run_ite]
  cases ha : isAggT P t with
  | false =>
    rw [ha] at h
    simp only [cond_false, LoadIs] at h
    simp [run_load, cell_eq, hw, h]
  | true =>
    rw [ha] at h
    simp only [cond_true, LoadIs] at h
    obtain ⟨cs, hcs, rfl⟩ := h
    simp [loadCells, run_sizeOf' ok, run_loadCells' H p _ 0 #[] cs w hw hcs]

theorem LoadIs.ptr {sz : Option Nat} {H : Heap} {a x : Value} (h : LoadIs sz H a x) : ∃ p, a = .pointer (some p) := by
  cases a with
  | pointer q => cases q with
    | none => exact h.elim
    | some p => exact ⟨p, rfl⟩
  | _ => exact h.elim

theorem run_load_op {t : TypeId} {x : Operand} {ρ : Operand → Value} (ok : okT P t = true) {H : Heap} {v : Value} (h : LoadIs (shapeT P t) H (ρ x) v) :
    ∀ w : World, w.heap = H → (do pure (Next.value (← Instr.loadAt t (ρ x))) : Sem Next).run P w = .ok (.value v) w := by
  intro w hw
  obtain ⟨p, hp⟩ := h.ptr
  rw [hp] at h ⊢
  simp [Instr.loadAt, Instr.sureAddr, run_loadVar' ok h hw]

/-- What a quiet operation is owed. -/
def QOk (P : Program) (s : Sem Next) (H : Heap) (K : Value → Keep → Prop) : Prop := ∃ v S, K v S ∧ keepS S H ∧ ∀ H', keepS S H' → Yld P s H' v

theorem QOk.pure {s : Sem Next} {H : Heap} {K : Value → Keep → Prop} {v : Value} (hk : K v none) (h : ∀ w : World, s.run P w = .ok (.value v) w) : QOk P s H K :=
  ⟨v, none, hk, trivial, fun _ _ => yld_pure h _⟩

section cases
variable {H : Heap} {K : Value → Keep → Prop} {ρ : Operand → Value}

theorem part_run {t : TypeId} (ok : okT P t = true) {cs : Array Value} {off : Nat} {K' : Value → Prop} (h : PartP (shapeT P t) cs off K') :
    ∃ v, K' v ∧ ∀ w : World, (part t cs off).run P w = .ok v w := by
  unfold shapeT at h
  cases ha : isAggT P t with
  | true =>
    rw [ha] at h
    simp only [cond_true, PartP] at h
    exact ⟨_, h, fun w => by simp [part, run_isAgg' ok, run_sizeOf' ok, ha]⟩
  | false =>
    rw [ha] at h
    simp only [cond_false, PartP] at h
    cases hc : cs[off]? with
    | none => rw [hc] at h; exact h.elim
    | some v => rw [hc] at h; exact ⟨v, h, fun w => by simp [part, run_isAgg' ok, ha, hc]⟩

theorem arith_run (op : BinOp) (k k' : IntKind) (a b : Int) {K' : Value → Prop} (t : TypeId) (h : BinP op (.int k a) (.int k' b) K') :
    ∃ v, K' v ∧ ∀ w : World, (Go.binOp op t (.int k a) (.int k' b)).run P w = .ok v w := by
  cases op <;> simp only [BinP] at h
  case shl => exact ⟨_, h.2, fun w => by simp [Go.binOp, Op.shift, show ¬ b < 0 by omega]⟩
  case shr => exact ⟨_, h.2, fun w => by simp [Go.binOp, Op.shift, show ¬ b < 0 by omega]⟩
  case quo => exact ⟨_, h.2.2, fun w => by simp [Go.binOp, Op.intDiv, h.1, h.2.1]⟩
  case rem => exact ⟨_, h.2.2, fun w => by simp [Go.binOp, Op.intDiv, h.1, h.2.1]⟩
  all_goals first
    | (obtain ⟨rfl, h⟩ := h; simp only [arithV, OptP] at h; exact ⟨_, h, fun w => by simp [Go.binOp, Op.intArith, Op.intBits, Op.intCmp]⟩)
    | (obtain ⟨_, h⟩ := h; exact h.elim)

theorem str_run (op : BinOp) (a b : ByteArray) {K' : Value → Prop} (t : TypeId) (h : BinP op (.string a) (.string b) K') :
    ∃ v, K' v ∧ ∀ w : World, (Go.binOp op t (.string a) (.string b)).run P w = .ok v w := by
  cases op <;> simp only [BinP] at h
  case add => exact ⟨_, h.2, fun w => by
    have := h.1
    simp only [Go.binOp, Op.stringOp]
    rw [if_neg (by omega)]; rfl⟩
  all_goals first
    | (simp only [strV, OptP] at h; exact ⟨_, h, fun w => by simp [Go.binOp, Op.stringOp]⟩)
    | exact h.elim

theorem bin_run (op : BinOp) (x y : Value) {K' : Value → Prop} (t : TypeId) (xo yo : Operand) (h : BinP op x y K') :
    ∃ v, K' v ∧ ∀ w : World, (do eqGuard op t xo yo x y; Go.binOp op t x y : Sem Value).run P w = .ok v w := by
  have hg : ∀ w : World, (eqGuard op t xo yo x y).run P w = .ok () w := by
    intro w
    cases x <;> cases y <;> simp only [BinP] at h <;> first
      | exact h.elim
      | (unfold eqGuard; split <;> rfl)
  have hb : ∃ v, K' v ∧ ∀ w : World, (Go.binOp op t x y).run P w = .ok v w := by
    cases x <;> cases y <;> first
      | exact arith_run op _ _ _ _ t h
      | exact str_run op _ _ t h
      | exact h.elim
  obtain ⟨v, hk, hv⟩ := hb
  exact ⟨v, hk, fun w => by simp [hg, hv]⟩

theorem un_run (op : UnOp) (x : Value) {K' : Value → Prop} (h : UnP op x K') : ∃ v, K' v ∧ ∀ w : World, (Op.unary op x).run P w = .ok v w := by
  cases op <;> cases x <;> simp only [UnP] at h <;> first
    | exact h.elim
    | exact ⟨_, h, fun w => by simp [Op.unary, Op.intArith, Op.intBits]⟩

theorem bound_run {x : Option Value} {d hi r : Nat} {c : BoundsCode} (h : BoundIs x d hi r) (w : World) :
    ((match x with | some v => Instr.sliceBound v hi c | none => Pure.pure d : Sem Nat).run P w) = .ok r w := by
  cases x with
  | none => simp only [BoundIs] at h; simp [h]
  | some v =>
    cases v <;> simp only [BoundIs] at h
    case int k i =>
      obtain ⟨⟨h0, h1⟩, rfl⟩ := h
      simp [Instr.sliceBound, asIntOf, h0, h1]

theorem sliceBounds_run {b : Bool} {len cap m h l : Nat} {lo hi mx : Option Value} (hm : BoundIs mx cap cap m) (hmh : mx.isSome = true → hi.isSome = true) (hh : BoundIs hi len m h)
    (hl : BoundIs lo 0 h l) (w : World) : (Instr.sliceBounds b len cap lo hi mx).run P w = .ok (l, h, m) w := by
  unfold Instr.sliceBounds
  cases mx with
  | none =>
    simp only [BoundIs] at hm
    subst hm
    have e2 := fun c => bound_run (P := P) (c := c) hh w
    have e3 := fun c => bound_run (P := P) (c := c) hl w
    cases hi with
    | none =>
      cases lo with
      | none => simp only [BoundIs] at hh hl; simp [hh, hl]
      | some v => simp only [BoundIs] at hh; simp only at e3; simp [hh, e3]; subst hh; simp [e3]
    | some u =>
      simp only at e2
      cases lo with
      | none => simp only [BoundIs] at hl; simp [hl, e2]
      | some v => simp only at e3; simp [e2, e3]
  | some mv =>
    have e1 := fun c => bound_run (P := P) (c := c) hm w
    have e2 := fun c => bound_run (P := P) (c := c) hh w
    have e3 := fun c => bound_run (P := P) (c := c) hl w
    simp only at e1
    cases hi with
    | none => simp at hmh
    | some u =>
      simp only at e2
      cases lo with
      | none => simp only [BoundIs] at hl; simp [hl, e1, e2]
      | some v => simp only at e3; simp [e1, e2, e3]

theorem fill_one (cells : List Value) (off : Nat) (v : Value) (h : v.oneCell = true) :
    (v.cells.zipIdx.foldl (fun cs (c, j) => cs.setIfInBounds (off + j) c) cells.toArray) = (cells.set off v).toArray := by
  have : v.cells = #[v] := by cases v <;> first | rfl | (simp [Value.oneCell] at h)
  rw [this]; simp [List.zipIdx]

theorem splice_fold : ∀ (cs : List Value) (k off : Nat) (cells : List Value),
    ((cs.zipIdx k).foldl (fun (a : Array Value) (x : Value × Nat) => a.setIfInBounds (off + x.2) x.1) cells.toArray) = (spliceL cells (off + k) cs).toArray := by
  intro cs
  induction cs with
  | nil => intro k off cells; simp [spliceL]
  | cons c cs ih =>
    intro k off cells
    simp only [List.zipIdx_cons, List.foldl_cons, spliceL]
    rw [show (cells.toArray.setIfInBounds (off + k) c) = (cells.set (off + k) c).toArray from by simp]
    rw [ih (k + 1) off]; rfl

theorem spliceL_length : ∀ (cs : List Value) (off : Nat) (cells : List Value), (spliceL cells off cs).length = cells.length := by
  intro cs
  induction cs with
  | nil => intro off cells; rfl
  | cons c cs ih => intro off cells; simp [spliceL, ih]

theorem fill_build (ρ : Operand → Value) (place : Nat → Nat × TypeId) (pl : Nat → Option (Nat × Nat)) (n : Nat) :
    ∀ (parts : List (Nat × Operand)) (cells : List Value) (K' : List Value → Prop),
      (∀ p ∈ parts, pl p.1 = some ((place p.1).1, sizeT P (place p.1).2)) →
      cells.length = n → okParts P n place parts = true → BuildP cells (partsOf P ρ place parts) K' →
      ∃ cs, K' cs ∧ Instr.fill pl cells.toArray (parts.map fun (i, x) => (i, ρ x)) = some cs.toArray := by
  intro parts
  induction parts with
  | nil => intro cells K' _ hn _ h; exact ⟨cells, h, by simp [Instr.fill]⟩
  | cons p parts ih =>
    obtain ⟨i, x⟩ := p
    intro cells K' hpl hn hok h
    simp only [okParts, Bool.and_eq_true] at hok
    have hp := hpl (i, x) (by simp)
    have hpl' : ∀ p ∈ parts, pl p.1 = some ((place p.1).1, sizeT P (place p.1).2) := fun q hq => hpl q (by simp [hq])
    have hk := hok.1
    simp only [okPart, Bool.and_eq_true, Nat.ble_eq] at hk
    obtain ⟨i0, d0, hi0, hd0, h10⟩ := okT_spec hk.1
    have hk2 := hk.2
    have hsz : sizeT P (place i).2 = i0.size := by simp [sizeT, hi0]
    simp only [partsOf] at h
    simp only [List.map_cons, Instr.fill, hp]
    unfold shapeT at h
    cases ha : isAggT P (place i).2 with
    | false =>
      rw [ha] at h
      simp only [cond_false, BuildP] at h
      have hc : (ρ x).cells = #[ρ x] := by
        have h1 := h.1
        cases hx : ρ x <;> first | rfl | (rw [hx] at h1; simp [Value.oneCell] at h1)
      have h1 := h10 ha
      rw [if_neg (by rw [hc]; simp; exact ⟨by omega, by omega⟩)]
      have := fill_one cells (place i).1 (ρ x) h.1
      rw [this]
      exact ih _ K' hpl' (by simp [hn]) hok.2 h.2
    | true =>
      rw [ha] at h
      simp only [cond_true, BuildP] at h
      cases hx : ρ x with
      | agg cs =>
        rw [hx] at h
        simp only at h
        obtain ⟨hcs, h⟩ := h
        rw [if_neg (by simp [Value.cells, hcs]; omega)]
        have := splice_fold cs.toList 0 (place i).1 cells
        simp only [Value.cells]
        rw [show (cs.zipIdx.foldl (fun (a : Array Value) (x : Value × Nat) => a.setIfInBounds ((place i).1 + x.2) x.1) cells.toArray) = (spliceL cells (place i).1 cs.toList).toArray from by
          rw [← Array.foldl_toList, Array.toList_zipIdx]; simpa using this]
        exact ih _ K' hpl' (by rw [spliceL_length]; exact hn) hok.2 h
      | _ => rw [hx] at h; exact h.elim

theorem mapM_run {α β : Type} (g : α → Sem β) (f : α → β) (w : World) : ∀ l : List α, (∀ x ∈ l, (g x).run P w = .ok (f x) w) → (l.mapM g).run P w = .ok (l.map f) w := by
  intro l
  induction l with
  | nil => intro _; simp
  | cons x l ih =>
    intro h
    simp [h x (by simp), ih (fun y hy => h y (by simp [hy]))]

theorem fields_run {fs : Array Field} (h : fs.toList.all (fun f => okT P f.type) = true) (w : World) :
    (fs.mapM fun f => do pure (f.offset, ← sizeOf f.type) : Sem (Array (Nat × Nat))).run P w = .ok (fs.map fun f => (f.offset, sizeT P f.type)) w := by
  rw [Array.mapM_eq_mapM_toList]
  have := mapM_run (P := P) (fun f : Field => (do pure (f.offset, ← sizeOf f.type) : Sem (Nat × Nat))) (fun f => (f.offset, sizeT P f.type)) w fs.toList (by
    intro f hf
    have hk := List.all_eq_true.1 h f hf
    simp only [Sem.run_bind, run_sizeOf' hk, Result.andThen_ok, Sem.run_pure])
  simp only [Sem.run_map, this, Result.andThen_ok]
  rw [← Array.toList_map]

theorem okElem_spec {e : TypeId} (h : okElem P e = true) : okT P e = true ∧ hasZeroT P e = true ∧ (zeroT P e).cells.size = sizeT P e := by
  simp only [okElem, Bool.and_eq_true, Nat.beq_eq] at h
  exact ⟨h.1.1, h.1.2, h.2⟩

theorem build_sound {t : TypeId} {parts : Array (Nat × Operand)} {K' : Value → Prop} (ok : okOp P (.build t parts) = true)
    (h : opQ P ρ (.build t parts) H (fun v _ => K' v)) : ∃ v, K' v ∧ ∀ w : World, (Instr.build t (parts.map fun (i, x) => (i, ρ x))).run P w = .ok v w := by
  simp only [okOp, Bool.and_eq_true] at ok
  obtain ⟨ok0, ok⟩ := ok
  obtain ⟨o1, o2, o3⟩ := okElem_spec ok0
  simp only [opQ] at h
  cases hu : P.underlying t with
  | none => rw [hu] at h; exact h.elim
  | some d =>
    rw [hu] at h ok
    cases d with
    | struct fs =>
      simp only [Bool.and_eq_true] at ok h
      obtain ⟨cs, hk, hf⟩ := fill_build ρ _ ((fs.map fun f => (f.offset, sizeT P f.type))[·]?) (sizeT P t) parts.toList (zeroT P t).cells.toList _ (by
        intro p hp
        have := List.all_eq_true.1 ok.1.2 p hp
        simp only [Option.isSome_iff_exists] at this
        obtain ⟨f, hf⟩ := this
        simp [hf]) (by simpa using o3) ok.1.1 h
      refine ⟨_, hk, fun w => ?_⟩
      simp only [Array.toArray_toList] at hf
      simp only [Instr.build, Sem.run_bind, run_zeroValue' o2, Result.andThen_ok, run_underlying hu, fields_run ok.2, Array.toList_map, hf, Sem.run_pure]
    | array n e =>
      simp only [Bool.and_eq_true] at ok h
      obtain ⟨cs, hk, hf⟩ := fill_build ρ _ (fun i => some (i * sizeT P e, sizeT P e)) (sizeT P t) parts.toList (zeroT P t).cells.toList _ (by
        intro p hp; rfl) (by simpa using o3) ok.2 h
      refine ⟨_, hk, fun w => ?_⟩
      simp only [Array.toArray_toList] at hf
      simp only [Instr.build, Sem.run_bind, run_zeroValue' o2, Result.andThen_ok, run_underlying hu, run_sizeOf' ok.1, Array.toList_map, hf, Sem.run_pure]
    | _ => exact h.elim

theorem opQ_build_mono {t : TypeId} {parts : Array (Nat × Operand)} (h : opQ P ρ (.build t parts) H K) : opQ P ρ (.build t parts) H (fun v _ => K v none) := by
  simp only [opQ] at h ⊢
  exact h

theorem max_run : ∀ (r : List Value) (x : Value) {K' : Value → Prop}, MaxP x r K' → ∃ v, K' v ∧ ∀ w : World, (r.foldlM Builtin.max2 x).run P w = .ok v w := by
  intro r
  induction r with
  | nil => intro x K' h; exact ⟨x, h, fun w => by simp⟩
  | cons y r ih =>
    intro x K' h
    simp only [MaxP] at h
    split at h
    · rename_i k a k' b hx hy
      obtain ⟨v, hk, hv⟩ := ih _ h
      exact ⟨v, hk, fun w => by simp only [List.foldlM_cons, Sem.run_bind, Builtin.max2, Sem.run_pure, Result.andThen_ok]; exact hv w⟩
    · exact h.elim
theorem min_run : ∀ (r : List Value) (x : Value) {K' : Value → Prop}, MinP x r K' → ∃ v, K' v ∧ ∀ w : World, (r.foldlM Builtin.min2 x).run P w = .ok v w := by
  intro r
  induction r with
  | nil => intro x K' h; exact ⟨x, h, fun w => by simp⟩
  | cons y r ih =>
    intro x K' h
    simp only [MinP] at h
    split at h
    · rename_i k a k' b hx hy
      obtain ⟨v, hk, hv⟩ := ih _ h
      exact ⟨v, hk, fun w => by simp only [List.foldlM_cons, Sem.run_bind, Builtin.min2, Sem.run_pure, Result.andThen_ok]; exact hv w⟩
    · exact h.elim

theorem equalIn_under {d : Nat} {t : TypeId} {a b : Value} {w w' : World} {r : Bool} (h : (Op.equalIn (d + 1) t a b).run P w = .ok r w') : ∃ u, P.underlying t = some u := by
  cases hu : P.underlying t with
  | none => simp [Op.equalIn, underlying, hu] at h
  | some u => exact ⟨u, rfl⟩

theorem equal_int' {d : Nat} {t : TypeId} {k k' : IntKind} {i j : Int} {w w' : World} {r : Bool} (h : (Op.equalIn (d + 1) t (.int k i) (.int k' j)).run P w = .ok r w') (hn : ∀ k, P.underlying t = some (.int k) → False) : False := by
  obtain ⟨u, hu⟩ := equalIn_under h
  simp only [Op.equalIn, Sem.run_bind, run_underlying hu, Result.andThen_ok] at h
  cases u with
  | int k => exact hn k hu
  | _ => simp at h
theorem equal_str' {d : Nat} {t : TypeId} {i j : ByteArray} {w w' : World} {r : Bool} (h : (Op.equalIn (d + 1) t (.string i) (.string j)).run P w = .ok r w') (hn : P.underlying t = some .string → False) : False := by
  obtain ⟨u, hu⟩ := equalIn_under h
  simp only [Op.equalIn, Sem.run_bind, run_underlying hu, Result.andThen_ok] at h
  cases u with
  | string => exact hn hu
  | _ => simp at h
theorem equal_float' {d : Nat} {t : TypeId} {k k' : FloatKind} {i j : Nat} {w w' : World} {r : Bool} (h : (Op.equalIn (d + 1) t (.float k i) (.float k' j)).run P w = .ok r w') (hn : ∀ k, P.underlying t = some (.float k) → False) : False := by
  obtain ⟨u, hu⟩ := equalIn_under h
  simp only [Op.equalIn, Sem.run_bind, run_underlying hu, Result.andThen_ok] at h
  cases u with
  | float k => exact hn k hu
  | _ => simp at h
theorem equal_complex' {d : Nat} {t : TypeId} {k k' : FloatKind} {i i' j j' : Nat} {w w' : World} {r : Bool} (h : (Op.equalIn (d + 1) t (.complex k i i') (.complex k' j j')).run P w = .ok r w') (hn : ∀ k, P.underlying t = some (.complex k) → False) : False := by
  obtain ⟨u, hu⟩ := equalIn_under h
  simp only [Op.equalIn, Sem.run_bind, run_underlying hu, Result.andThen_ok] at h
  cases u with
  | complex k => exact hn k hu
  | _ => simp at h

theorem opQ_sound (o : Oper) (ok : okOp P o.op = true) (h : opQ P ρ o.op H K) : QOk P (execOp ρ o) H K := by
  obtain ⟨dst, op, ty, pos, after, guard⟩ := o
  simp only at ok h
  cases op with
  | move x => exact .pure (v := ρ x) h fun w => rfl
  | assign x => exact .pure (v := ρ x) h fun w => rfl
  | pick c a b =>
    simp only [opQ, PickP] at h
    split at h
    · rename_i hc; exact .pure h fun w => by simp [execOp, hc, asBool]
    · rename_i hc; exact .pure h fun w => by simp [execOp, hc, asBool]
    · exact h.elim
  | load t a =>
    simp only [opQ, LoadP] at h
    obtain ⟨x, hl, hk⟩ := h
    exact ⟨x, _, hk, hl, fun H' hl' w hw => ⟨w, ⟨hw, SameIO.refl w⟩, run_load_op ok hl' w hw⟩⟩
  | nilCheck x =>
    simp only [opQ, NilP] at h
    split at h
    · rename_i hc; exact .pure h fun w => by simp [execOp, hc]
    · rename_i hc; exact .pure h fun w => by simp [execOp, hc]
    · rename_i hc; exact .pure h fun w => by simp [execOp, hc]
    · rename_i hc; exact .pure h fun w => by simp [execOp, hc]
    · exact h.elim
  | binOp op t x y yt =>
    have eqcase : ∀ (op' : BinOp), (op' = .eql ∨ op' = .neq) → ∀ (g : Bool → Bool), (∀ b, g b = if op' = .eql then b else !b) →
        (∀ b, EqIs P t (isC x || isC y) H (ρ x) (ρ y) b → ∀ (hgb : ∀ w : World, ∀ w' : World, (do eqGuard op' t x y (ρ x) (ρ y); Op.equal t (ρ x) (ρ y) : Sem Bool).run P w = .ok b w' →
          (execOp ρ ⟨dst, .binOp op' t x y yt, ty, pos, after, guard⟩).run P w = .ok (.value (.bool (g b))) w'),
          K (.bool (g b)) (some fun H' => EqIs P t (isC x || isC y) H' (ρ x) (ρ y) b) → QOk P (execOp ρ ⟨dst, .binOp op' t x y yt, ty, pos, after, guard⟩) H K) := by
      intro op' hop g hg b hb hgb hk
      refine ⟨_, _, hk, hb, fun H' hb' w hw => ?_⟩
      obtain ⟨w', hw', hr⟩ := hb' op' w x y hop rfl hw
      exact ⟨w', hw', hgb w w' hr⟩
    simp only [opQ] at h
    split at h
    · obtain ⟨v, hk, hv⟩ := bin_run (P := P) op _ _ t x y h
      exact .pure hk fun w => by have := hv w; simp only [Sem.run_bind] at this; simp only [execOp, Sem.run_bind, this, Result.andThen_ok, Sem.run_pure]
    · obtain ⟨v, hk, hv⟩ := bin_run (P := P) op _ _ t x y h
      exact .pure hk fun w => by have := hv w; simp only [Sem.run_bind] at this; simp only [execOp, Sem.run_bind, this, Result.andThen_ok, Sem.run_pure]
    · exact h.elim
    · exact h.elim
    · rename_i hn1 hn2 hn3 hn4
      have hni : ∀ w : World, ∀ a b : Value, ∀ op'', (op'' = .eql ∨ op'' = .neq) → ∀ r w', (Op.equal t a b).run P w = .ok r w' →
          (Go.binOp op'' t a b).run P w = .ok (.bool (if op'' = .eql then r else !r)) w' := by
        intro w a b op'' hop r w' hr
        have base : (do pure (Value.bool (← Op.equal t a b)) : Sem Value).run P w = .ok (.bool r) w' := by simp [hr]
        have base' : (do pure (Value.bool (!(← Op.equal t a b))) : Sem Value).run P w = .ok (.bool (!r)) w' := by simp [hr]
        have noInt : ∀ k i k' j, a = .int k i → b = .int k' j → False := fun k i k' j ha hb => by
          subst ha; subst hb; exact equal_int' (d := 9999) hr hn1
        have noStr : ∀ i j, a = .string i → b = .string j → False := fun i j ha hb => by
          subst ha; subst hb; exact equal_str' (d := 9999) hr hn2
        have noFl : ∀ k i k' j, a = .float k i → b = .float k' j → False := fun k i k' j ha hb => by
          subst ha; subst hb; exact equal_float' (d := 9999) hr hn3
        have noCx : ∀ k i i' k' j j', a = .complex k i i' → b = .complex k' j j' → False := fun k i i' k' j j' ha hb => by
          subst ha; subst hb; exact equal_complex' (d := 9999) hr hn4
        rcases hop with rfl | rfl
        · simp only [if_true]
          cases a <;> cases b <;> first
            | exact base
            | exact (noInt _ _ _ _ rfl rfl).elim
            | exact (noStr _ _ rfl rfl).elim
            | exact (noFl _ _ _ _ rfl rfl).elim
            | exact (noCx _ _ _ _ _ _ rfl rfl).elim
        · simp only [reduceCtorEq, if_false]
          cases a <;> cases b <;> first
            | exact base'
            | exact (noInt _ _ _ _ rfl rfl).elim
            | exact (noStr _ _ rfl rfl).elim
            | exact (noFl _ _ _ _ rfl rfl).elim
            | exact (noCx _ _ _ _ _ _ rfl rfl).elim
      have run : ∀ op', (op' = .eql ∨ op' = .neq) → ∀ b (w w' : World), (do eqGuard op' t x y (ρ x) (ρ y); Op.equal t (ρ x) (ρ y) : Sem Bool).run P w = .ok b w' →
          (execOp ρ ⟨dst, .binOp op' t x y yt, ty, pos, after, guard⟩).run P w = .ok (.value (.bool (if op' = .eql then b else !b))) w' := by
        intro op' hop b w w' hr
        simp only [Sem.run_bind] at hr
        cases hg : (eqGuard op' t x y (ρ x) (ρ y)).run P w with
        | halt h w1 => rw [hg] at hr; simp at hr
        | ok u w1 =>
          rw [hg] at hr
          simp only [Result.andThen_ok] at hr
          have := hni w1 (ρ x) (ρ y) op' hop b w' hr
          simp only [execOp, Sem.run_bind, hg, Result.andThen_ok, this, Sem.run_pure]
      split at h
      · obtain ⟨b, hb, hk⟩ := h
        exact eqcase .eql (.inl rfl) id (by simp) b hb (fun w w' hr => by simpa using run .eql (.inl rfl) b w w' hr) hk
      · obtain ⟨b, hb, hk⟩ := h
        exact eqcase .neq (.inr rfl) (fun b => !b) (by simp) b hb (fun w w' hr => by simpa using run .neq (.inr rfl) b w w' hr) hk
      · exact h.elim
  | unOp op t x =>
    simp only [opQ] at h
    obtain ⟨v, hk, hv⟩ := un_run (P := P) op _ h
    exact .pure hk fun w => by simp [execOp, hv w]
  | convert s d x =>
    simp only [opQ] at h
    split at h
    · rename_i k hs hd
      simp only [ConvIntP] at h
      split at h
      · rename_i k' n hx
        exact .pure h fun w => by simp [execOp, convert, run_underlying hs, run_underlying hd, hx, Conv.intToInt]
      · exact h.elim
    · rename_i hs hd
      simp only [StrP] at h
      split at h
      · rename_i n hx
        exact .pure h fun w => by simp [execOp, convert, run_underlying hs, run_underlying hd, hx]
      · exact h.elim
    · exact h.elim
  | makeInterface t x =>
    simp only [opQ] at h
    simp only [okOp, Bool.and_eq_true, Option.isSome_iff_exists, Bool.not_eq_true'] at ok
    obtain ⟨⟨d, hd⟩, ok⟩ := ok
    refine .pure h fun w => ?_
    simp only [isIfaceT, hd] at ok
    simp only [execOp, Instr.makeInterface, Sem.run_bind, run_underlying hd, Result.andThen_ok]
    cases d <;> first | rfl | (simp at ok)
  | makeFunc fn a b =>
    simp only [opQ] at h
    refine .pure h fun w => ?_
    have e : ∀ a : Array Operand, (a.toList.map ρ).toArray = a.map ρ := fun a => by rw [← Array.toList_map]
    rw [e, e]
    simp [execOp, Instr.makeFunc]
  | build t parts =>
    obtain ⟨v, hk, hv⟩ := build_sound (H := H) (K' := fun v => K v none) ok h
    exact .pure hk fun w => by simp only [execOp, Sem.run_bind, hv w, Result.andThen_ok, Sem.run_pure]
  | extract x i =>
    simp only [opQ, ExtractP] at h
    split at h
    · rename_i vs hx
      split at h
      · rename_i v hv
        exact .pure h fun w => by simp [execOp, Instr.extract, hx, hv]
      · exact h.elim
    · exact h.elim
  | fieldAddr s x f =>
    simp only [opQ] at h
    simp only [okOp] at ok
    cases hf : fieldT P s f with
    | none => rw [hf] at h; exact h.elim
    | some fd =>
      rw [hf] at h ok
      simp only [Bool.and_eq_true, Nat.ble_eq] at ok
      simp only [FieldAddrP] at h
      split at h
      · rename_i a ha
        refine .pure h fun w => ?_
        unfold fieldT at hf
        cases hu : P.underlying s with
        | none => rw [hu] at hf; cases hf
        | some d =>
          rw [hu] at hf
          cases d with
          | struct fs =>
            simp only at hf
            have hz : ¬ sizeT P fd.type = 0 := by omega
            simp [execOp, Instr.fieldAt, run_underlying hu, hf, ha, Instr.sureAddr, fieldPlace, run_sizeOf' ok.1, hz]
          | _ => cases hf
      · exact h.elim
  | field s x f =>
    simp only [opQ] at h
    simp only [okOp] at ok
    cases hf : fieldT P s f with
    | none => rw [hf] at h; exact h.elim
    | some fd =>
      rw [hf] at h ok
      simp only [FieldP] at h
      split at h
      · rename_i cs hc
        obtain ⟨v, hk, hv⟩ := part_run ok h
        refine .pure hk fun w => ?_
        unfold fieldT at hf
        cases hu : P.underlying s with
        | none => rw [hu] at hf; cases hf
        | some d =>
          rw [hu] at hf
          cases d with
          | struct fs =>
            simp only at hf
            simp [execOp, Instr.field, run_underlying hu, hf, hc, asAgg, hv w]
          | _ => cases hf
      · exact h.elim
  | indexAddr t x i =>
    simp only [opQ] at h
    simp only [okOp] at ok
    cases hu : P.underlying t with
    | none => rw [hu] at h; exact h.elim
    | some d =>
      rw [hu] at h ok
      cases d with
      | array n e =>
        simp only [IdxArrP] at h ok
        split at h
        · rename_i a k j hx hi
          obtain ⟨hb, hk⟩ := h
          exact .pure hk fun w => by simp [execOp, Instr.indexAt, run_underlying hu, hx, hi, asIntOf, Instr.sureAddr, hb, run_sizeOf' ok]
        · exact h.elim
      | slice e =>
        simp only [IdxSliceP] at h ok
        split at h
        · rename_i a len cap k j hx hi
          obtain ⟨hb, hk⟩ := h
          exact .pure hk fun w => by simp [execOp, Instr.indexAt, run_underlying hu, hx, hi, asIntOf, hb, run_sizeOf' ok]
        · exact h.elim
      | _ => exact h.elim
  | index t x i =>
    simp only [opQ] at h
    simp only [okOp] at ok
    cases hu : P.underlying t with
    | none => rw [hu] at h; exact h.elim
    | some d =>
      rw [hu] at h ok
      cases d with
      | array n e =>
        simp only [IndexArrP] at h ok
        split at h
        · rename_i cs k j hx hi
          obtain ⟨hb, h⟩ := h
          obtain ⟨v, hk, hv⟩ := part_run ok h
          exact .pure hk fun w => by simp [execOp, Instr.index, run_underlying hu, hx, hi, asIntOf, hb, run_sizeOf' ok, hv w]
        · exact h.elim
      | string =>
        simp only [IndexStrP] at h ok
        split at h
        · rename_i s k j hx hi
          obtain ⟨hb, b, hs, hk⟩ := h
          exact .pure hk fun w => by simp [execOp, Instr.index, run_underlying hu, hx, hi, asIntOf, hb, hs]
        · exact h.elim
      | _ => exact h.elim
  | slice t x lo hi mx =>
    simp only [opQ] at h
    simp only [okOp] at ok
    cases hu : P.underlying t with
    | none => rw [hu] at h; exact h.elim
    | some d =>
      rw [hu] at h ok
      cases d with
      | string =>
        cases mx with
        | some m => exact h.elim
        | none =>
          simp only [SliceStrP] at h
          split at h
          · rename_i s hx
            obtain ⟨hh, l, b1, b2, hk⟩ := h
            refine .pure hk fun w => ?_
            have := sliceBounds_run (P := P) (b := false) (cap := s.size) (mx := none) (m := s.size) rfl (by simp) b1 b2 w
            simp [execOp, Instr.sliceAt, Instr.slice, run_underlying hu, hx, this]
          · exact h.elim
      | slice e =>
        simp only [SliceSlP] at h ok
        split at h
        · rename_i a len cap hx
          obtain ⟨m, hh, l, b1, b0, b2, b3, hk⟩ := h
          refine .pure hk fun w => ?_
          have := sliceBounds_run (P := P) (b := true) b1 b0 b2 b3 w
          simp [execOp, Instr.sliceAt, Instr.slice, run_underlying hu, hx, this, run_sizeOf' ok]
        · exact h.elim
      | array n e =>
        simp only [SliceArrP] at h ok
        split at h
        · rename_i a hx
          obtain ⟨m, hh, l, b1, b0, b2, b3, hk⟩ := h
          refine .pure hk fun w => ?_
          have := sliceBounds_run (P := P) (b := false) b1 b0 b2 b3 w
          simp [execOp, Instr.sliceAt, run_underlying hu, hx, this, run_sizeOf' ok, Instr.sureAddr]
        · exact h.elim
      | pointer arr =>
        simp only at h ok
        cases har : arrT P arr with
        | none => rw [har] at h; exact h.elim
        | some ne =>
          obtain ⟨n, e⟩ := ne
          rw [har] at h ok
          simp only [SliceArrP] at h ok
          obtain ⟨rfl, h⟩ := h
          split at h
          · rename_i a hx
            obtain ⟨m, hh, l, b1, b0, b2, b3, hk⟩ := h
            refine .pure hk fun w => ?_
            unfold arrT at har
            cases hua : P.underlying arr with
            | none => rw [hua] at har; cases har
            | some da =>
              rw [hua] at har
              cases da with
              | array n' e' =>
                simp only [Option.some.injEq, Prod.mk.injEq] at har
                obtain ⟨rfl, rfl⟩ := har
                have := sliceBounds_run (P := P) (b := false) b1 b0 b2 b3 w
                simp [execOp, Instr.sliceAt, Instr.slice, run_underlying hu, run_underlying hua, hx, this, run_sizeOf' ok, asAddr]
              | _ => cases har
          · exact h.elim
      | _ => exact h.elim
  | typeAssert x xt asserted cok =>
    simp only [opQ, TypeAssertP] at h
    simp only [okOp, Bool.and_eq_true, Option.isSome_iff_exists, Bool.not_eq_true'] at ok
    obtain ⟨⟨⟨d, hd⟩, hni⟩, hz⟩ := ok
    have hd' : ∀ ms, d ≠ .interface ms := fun ms e => by subst e; simp [isIfaceT, hd] at hni
    split at h
    · rename_i t v hx
      cases hb : Nat.beq t asserted with
      | true =>
        rw [hb] at h
        simp only [cond_true] at h
        have ht : t = asserted := Nat.eq_of_beq_eq_true hb
        refine .pure h fun w => ?_
        simp only [execOp, Instr.typeAssert, Sem.run_bind, run_underlying hd, Result.andThen_ok, hx]
        cases d <;> first
          | exact absurd rfl (hd' _)
          | (cases cok <;> simp [ht])
      | false =>
        rw [hb] at h
        simp only [cond_false] at h
        obtain ⟨hc, hk⟩ := h
        have ht : ¬ t = asserted := Nat.ne_of_beq_eq_false hb
        refine .pure hk fun w => ?_
        simp only [execOp, Instr.typeAssert, Sem.run_bind, run_underlying hd, Result.andThen_ok, hx]
        cases d <;> first
          | exact absurd rfl (hd' _)
          | simp [ht, hc, run_zeroValue' hz]
    · rename_i hx
      obtain ⟨hc, hk⟩ := h
      refine .pure hk fun w => ?_
      simp only [execOp, Instr.typeAssert, Sem.run_bind, run_underlying hd, Result.andThen_ok, hx]
      cases d <;> first
        | exact absurd rfl (hd' _)
        | simp [hc, run_zeroValue' hz]
    · exact h.elim
  | call c =>
    obtain ⟨callee, args, argTypes⟩ := c
    simp only [opQ] at h
    split at h
    · rename_i x t ha ht
      obtain rfl : args = #[x] := by cases args; simpa using ha
      obtain rfl : argTypes = #[t] := by cases argTypes; simpa using ht
      split at h
      · rename_i e hu
        simp only [LenP] at h
        split at h
        · rename_i a n c hx
          exact .pure h fun w => by simp [execOp, resolve, invoke, builtin, Builtin.len_, run_underlying hu, hx, goInt]
        · exact h.elim
      · rename_i hu
        simp only [LenStrP] at h
        split at h
        · rename_i s hx
          exact .pure h fun w => by simp [execOp, resolve, invoke, builtin, Builtin.len_, run_underlying hu, hx, goInt]
        · exact h.elim
      · rename_i n e hu
        exact .pure h fun w => by simp [execOp, resolve, invoke, builtin, Builtin.len_, run_underlying hu, goInt]
      · exact h.elim
    · rename_i x t ha ht
      obtain rfl : args = #[x] := by cases args; simpa using ha
      obtain rfl : argTypes = #[t] := by cases argTypes; simpa using ht
      split at h
      · rename_i e hu
        simp only [CapP] at h
        split at h
        · rename_i a n c hx
          exact .pure h fun w => by simp [execOp, resolve, invoke, builtin, Builtin.cap_, run_underlying hu, hx, goInt]
        · exact h.elim
      · exact h.elim
    · rename_i x r ha
      obtain rfl : args = (x :: r).toArray := by cases args; simpa using ha
      obtain ⟨v, hk, hv⟩ := max_run (P := P) _ _ h
      refine .pure hk fun w => ?_
      have := hv w
      simp only [execOp, Sem.run_bind, resolve, Sem.run_pure, Result.andThen_ok, invoke, builtin, Builtin.max_, List.map_toArray, List.map_cons]
      simp only [this, Result.andThen_ok]
    · rename_i x r ha
      obtain rfl : args = (x :: r).toArray := by cases args; simpa using ha
      obtain ⟨v, hk, hv⟩ := min_run (P := P) _ _ h
      refine .pure hk fun w => ?_
      have := hv w
      simp only [execOp, Sem.run_bind, resolve, Sem.run_pure, Result.andThen_ok, invoke, builtin, Builtin.min_, List.map_toArray, List.map_cons]
      simp only [this, Result.andThen_ok]
    · exact h.elim
  | _ => exact h.elim

end cases
end Go.X
